/-
  What the program's literals of structs and arrays build, each closed. By program.
-/
import Derived.Test.YtipkfdeiallifaaTy
import Derived.Test.YtipkfdeiallifaaMx
set_option linter.unusedVariables false
namespace Go.Proofs.Ytipkfdeiallifaa.Lg
open Go Go.RowKit
theorem bld26  : Try.prog.built 26 [] = some #[.int .i64 0, .int .i64 0, .int .i64 0, .int .i64 0, .int .i64 0, .int .i64 0, .slice none 0 0, .slice none 0 0, .slice none 0 0] := by kernel_rfl
theorem bld42_0 (x0 : Int) : Try.prog.built 42 [(0, (.int .u64 x0))] = some #[.int .u64 x0, .bool false, .int .u64 0] := by kernel_rfl
theorem bld42  : Try.prog.built 42 [] = some #[.int .u64 0, .bool false, .int .u64 0] := by kernel_rfl
theorem bld45_0_1 (x0 : Int) (x1 : Option Addr) (x1n x1c : Nat) : Try.prog.built 45 [(0, (.int .i64 x0)), (1, (.slice x1 x1n x1c))] = some #[.int .i64 x0, .slice x1 x1n x1c] := by kernel_rfl
theorem bld50  : Try.prog.built 50 [] = some #[.string ByteArray.empty, .string ByteArray.empty, .string ByteArray.empty, .string ByteArray.empty, .string ByteArray.empty, .string ByteArray.empty, .string ByteArray.empty, .string ByteArray.empty] := by kernel_rfl
theorem bld45_0 (x0 : Int) : Try.prog.built 45 [(0, (.int .i64 x0))] = some #[.int .i64 x0, .slice none 0 0] := by kernel_rfl
theorem bld26_0_1_3_4_6 (x0 : Int) (x1 : Int) (x3 : Int) (x4 : Int) (x6 : Option Addr) (x6n x6c : Nat) : Try.prog.built 26 [(0, (.int .i64 x0)), (1, (.int .i64 x1)), (3, (.int .i64 x3)), (4, (.int .i64 x4)), (6, (.slice x6 x6n x6c))] = some #[.int .i64 x0, .int .i64 x1, .int .i64 0, .int .i64 x3, .int .i64 x4, .int .i64 0, .slice x6 x6n x6c, .slice none 0 0, .slice none 0 0] := by kernel_rfl
theorem bld26_0_1_2_3_4_5 (x0 : Int) (x1 : Int) (x2 : Int) (x3 : Int) (x4 : Int) (x5 : Int) : Try.prog.built 26 [(0, (.int .i64 x0)), (1, (.int .i64 x1)), (2, (.int .i64 x2)), (3, (.int .i64 x3)), (4, (.int .i64 x4)), (5, (.int .i64 x5))] = some #[.int .i64 x0, .int .i64 x1, .int .i64 x2, .int .i64 x3, .int .i64 x4, .int .i64 x5, .slice none 0 0, .slice none 0 0, .slice none 0 0] := by kernel_rfl
theorem bld26_0 (x0 : Int) : Try.prog.built 26 [(0, (.int .i64 x0))] = some #[.int .i64 x0, .int .i64 0, .int .i64 0, .int .i64 0, .int .i64 0, .int .i64 0, .slice none 0 0, .slice none 0 0, .slice none 0 0] := by kernel_rfl
theorem bld92_0_1_2_3_4 (x0 : Int) (x1 : Int) (x2 : Int) (x3 : Int) (x4 : Int) : Try.prog.built 92 [(0, (.int .i64 x0)), (1, (.int .i64 x1)), (2, (.int .i64 x2)), (3, (.int .i64 x3)), (4, (.int .i64 x4))] = some #[.int .i64 x0, .int .i64 x1, .int .i64 x2, .int .i64 x3, .int .i64 x4] := by kernel_rfl
theorem bld103_0 (x0 : Option Addr) (x0n x0c : Nat) : Try.prog.built 103 [(0, (.slice x0 x0n x0c))] = some #[.slice x0 x0n x0c] := by kernel_rfl
theorem bld26_0_1_2_3_4 (x0 : Int) (x1 : Int) (x2 : Int) (x3 : Int) (x4 : Int) : Try.prog.built 26 [(0, (.int .i64 x0)), (1, (.int .i64 x1)), (2, (.int .i64 x2)), (3, (.int .i64 x3)), (4, (.int .i64 x4))] = some #[.int .i64 x0, .int .i64 x1, .int .i64 x2, .int .i64 x3, .int .i64 x4, .int .i64 0, .slice none 0 0, .slice none 0 0, .slice none 0 0] := by kernel_rfl
theorem bld120_0_1 (x0 : Int) (x1 : Option Addr) (x1n x1c : Nat) : Try.prog.built 120 [(0, (.int .i64 x0)), (1, (.slice x1 x1n x1c))] = some #[.int .i64 x0, .slice x1 x1n x1c] := by kernel_rfl
theorem bld122_0_1_2 (x0 : Option Addr) (x1_0 : Int) (x1_1 : Option Addr) (x1_1n x1_1c : Nat) (x2 : Int) : Try.prog.built 122 [(0, (.pointer x0)), (1, (.agg #[.int .i64 x1_0, .slice x1_1 x1_1n x1_1c])), (2, (.int .i64 x2))] = some #[.pointer x0, .int .i64 x1_0, .slice x1_1 x1_1n x1_1c, .int .i64 x2, .bool false] := by kernel_rfl
theorem bld122_0_1 (x0 : Option Addr) (x1_0 : Int) (x1_1 : Option Addr) (x1_1n x1_1c : Nat) : Try.prog.built 122 [(0, (.pointer x0)), (1, (.agg #[.int .i64 x1_0, .slice x1_1 x1_1n x1_1c]))] = some #[.pointer x0, .int .i64 x1_0, .slice x1_1 x1_1n x1_1c, .int .i64 0, .bool false] := by kernel_rfl
theorem bld129_0 (x0 : Option Addr) (x0n x0c : Nat) : Try.prog.built 129 [(0, (.slice x0 x0n x0c))] = some #[.slice x0 x0n x0c, .bool false, .bool false, .int .i64 0, .int .i64 0, .int .i64 0] := by kernel_rfl
theorem bld135_0_2 (x0 : Option Addr) (x0n x0c : Nat) (x2 : Int) : Try.prog.built 135 [(0, (.slice x0 x0n x0c)), (2, (.int .i64 x2))] = some #[.slice x0 x0n x0c, .bool false, .int .i64 x2, .int .i64 0, .int .i64 0] := by kernel_rfl
theorem bld138_0_1_2 (x0 : Option Addr) (x1 : Option Addr) (x1n x1c : Nat) (x2 : Int) : Try.prog.built 138 [(0, (.pointer x0)), (1, (.slice x1 x1n x1c)), (2, (.int .i64 x2))] = some #[.pointer x0, .slice x1 x1n x1c, .int .i64 x2, .int .i64 0, .bool false] := by kernel_rfl
theorem bld138_0_1_2_3 (x0 : Option Addr) (x1 : Option Addr) (x1n x1c : Nat) (x2 : Int) (x3 : Int) : Try.prog.built 138 [(0, (.pointer x0)), (1, (.slice x1 x1n x1c)), (2, (.int .i64 x2)), (3, (.int .i64 x3))] = some #[.pointer x0, .slice x1 x1n x1c, .int .i64 x2, .int .i64 x3, .bool false] := by kernel_rfl
theorem bld99_0 (x0 : Int) : Try.prog.built 99 [(0, (.int .i64 x0))] = some #[.int .i64 x0] := by kernel_rfl
theorem bld40_0_1 (x0 : Bool) (x1 : Int) : Try.prog.built 40 [(0, (.bool x0)), (1, (.int .u64 x1))] = some #[.bool x0, .int .u64 x1] := by kernel_rfl
theorem bld42_0_1 (x0 : Int) (x1_0 : Bool) (x1_1 : Int) : Try.prog.built 42 [(0, (.int .u64 x0)), (1, (.agg #[.bool x1_0, .int .u64 x1_1]))] = some #[.int .u64 x0, .bool x1_0, .int .u64 x1_1] := by kernel_rfl
theorem bld120  : Try.prog.built 120 [] = some #[.int .i64 0, .slice none 0 0] := by kernel_rfl
theorem eqs40 (d : Nat) (x_0 : Bool) (x_1 : Int) (y_0 : Bool) (y_1 : Int) : EqT Try.prog (d + 2) 40 (.agg #[.bool x_0, .int .u64 x_1]) (.agg #[.bool y_0, .int .u64 y_1]) ((x_0 == y_0) && ((x_1 == y_1) && true)) := EqT.struct Try.underlying40 (by kernel_rfl) (EqF.cons (by decide) (part_sc sc4 rfl) (part_sc sc4 rfl) (EqT.bool Try.underlying4) (EqF.cons (by decide) (part_sc sc38 rfl) (part_sc sc38 rfl) (EqT.int Try.underlying38) EqF.nil))
theorem eqs42 (d : Nat) (x_0 : Int) (x_1_0 : Bool) (x_1_1 : Int) (y_0 : Int) (y_1_0 : Bool) (y_1_1 : Int) : EqT Try.prog (d + 3) 42 (.agg #[.int .u64 x_0, .bool x_1_0, .int .u64 x_1_1]) (.agg #[.int .u64 y_0, .bool y_1_0, .int .u64 y_1_1]) ((x_0 == y_0) && (((x_1_0 == y_1_0) && ((x_1_1 == y_1_1) && true)) && true)) := EqT.struct Try.underlying42 (by kernel_rfl) (EqF.cons (by decide) (part_sc sc38 rfl) (part_sc sc38 rfl) (EqT.int Try.underlying38) (EqF.cons (by decide) (part_agg agg40 inf40 (by simp)) (part_agg agg40 inf40 (by simp)) (eqs40 (d + 0) _ _ _ _) EqF.nil))
end Go.Proofs.Ytipkfdeiallifaa.Lg
