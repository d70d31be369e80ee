/-
  What the program's literals of structs and arrays build, each closed. By program.
-/
import Derived.Test.YtnmeaokfcalbbaaTy
import Derived.Test.YtnmeaokfcalbbaaMx
set_option linter.unusedVariables false
namespace Go.Proofs.Ytnmeaokfcalbbaa.Lg
open Go Go.RowKit
theorem bld50_0 (x0 : Int) : Try.prog.built 50 [(0, (.int .u64 x0))] = some #[.int .u64 x0, .bool false, .int .u64 0] := by kernel_rfl
theorem bld34_0_1_2_4_5_6_7 (x0 : Int) (x1 : Int) (x2 : Int) (x4 : Int) (x5 : Int) (x6 : Int) (x7 : Int) : Try.prog.built 34 [(0, (.int .i64 x0)), (1, (.int .i64 x1)), (2, (.int .i64 x2)), (4, (.int .i64 x4)), (5, (.int .i64 x5)), (6, (.int .i64 x6)), (7, (.int .i64 x7))] = some #[.int .i64 x0, .int .i64 x1, .int .i64 x2, .slice none 0 0, .int .i64 x4, .int .i64 x5, .int .i64 x6, .int .i64 x7] := by kernel_rfl
theorem bld76_0_1_2 (x0 : Int) (x1 : Int) (x2 : Int) : Try.prog.built 76 [(0, (.int .i64 x0)), (1, (.int .i64 x1)), (2, (.int .i64 x2))] = some #[.int .i64 x0, .int .i64 x1, .int .i64 x2] := by kernel_rfl
theorem eqs48 (d : Nat) (x_0 : Bool) (x_1 : Int) (y_0 : Bool) (y_1 : Int) : EqT Try.prog (d + 2) 48 (.agg #[.bool x_0, .int .u64 x_1]) (.agg #[.bool y_0, .int .u64 y_1]) ((x_0 == y_0) && ((x_1 == y_1) && true)) := EqT.struct Try.underlying48 (by kernel_rfl) (EqF.cons (by decide) (part_sc sc4 rfl) (part_sc sc4 rfl) (EqT.bool Try.underlying4) (EqF.cons (by decide) (part_sc sc23 rfl) (part_sc sc23 rfl) (EqT.int Try.underlying23) EqF.nil))
theorem eqs50 (d : Nat) (x_0 : Int) (x_1_0 : Bool) (x_1_1 : Int) (y_0 : Int) (y_1_0 : Bool) (y_1_1 : Int) : EqT Try.prog (d + 3) 50 (.agg #[.int .u64 x_0, .bool x_1_0, .int .u64 x_1_1]) (.agg #[.int .u64 y_0, .bool y_1_0, .int .u64 y_1_1]) ((x_0 == y_0) && (((x_1_0 == y_1_0) && ((x_1_1 == y_1_1) && true)) && true)) := EqT.struct Try.underlying50 (by kernel_rfl) (EqF.cons (by decide) (part_sc sc23 rfl) (part_sc sc23 rfl) (EqT.int Try.underlying23) (EqF.cons (by decide) (part_agg agg48 inf48 (by simp)) (part_agg agg48 inf48 (by simp)) (eqs48 (d + 0) _ _ _ _) EqF.nil))
end Go.Proofs.Ytnmeaokfcalbbaa.Lg
