/-
  How structs are read, cell by cell. By program (gen/dec.py).
-/
import Derived.Test.YtnmeaokfcalbbaaRb
import Derived.Test.YtnmeaokfcalbbaaTy
import Derived.KernelRfl
set_option linter.unusedVariables false
set_option linter.unusedSimpArgs false
namespace Go.Proofs.Ytnmeaokfcalbbaa.Lg
open Go Go.RowKit Go.ChangeShapes Go.WideShapes Go.Deep
theorem list_8 {l : List Value} (h : l.length = 8) : ∃ c0 c1 c2 c3 c4 c5 c6 c7, l = [c0, c1, c2, c3, c4, c5, c6, c7] := by
  match l, h with
  | [c0, c1, c2, c3, c4, c5, c6, c7], _ => exact ⟨c0, c1, c2, c3, c4, c5, c6, c7, rfl⟩
theorem cells33 : Try.prog.cellsOf 33 = 8 := by kernel_rfl
theorem cells3 : Try.prog.cellsOf 3 = 1 := by kernel_rfl
theorem cells32 : Try.prog.cellsOf 32 = 1 := by kernel_rfl
theorem dec33 {H : Type} {enc : TypeId × Value → H} {W : World} {base fuel : Nat} {spare : Nat → Bool} {held : Bool} {cs : List Value} {x : DataW H × List MemPlace} (h : DataW.trod enc Try.prog W base spare held fuel 33 cs = some x) :
    ∃ (x_0 : Int) (x_1 : Int) (x_2 : Int) (x_3 : Option Addr) (x_3n x_3c : Nat) (x_4 : Int) (x_5 : Int) (x_6 : Int) (x_7 : Int), cs = [.int .i64 x_0, .int .i64 x_1, .int .i64 x_2, .slice x_3 x_3n x_3c, .int .i64 x_4, .int .i64 x_5, .int .i64 x_6, .int .i64 x_7] ∧ (Lit.int .i64 x_0).wf = true ∧ (Lit.int .i64 x_1).wf = true ∧ (Lit.int .i64 x_2).wf = true ∧ (∃ d ps, DataW.Trod enc Try.prog W base spare held 32 (.slice x_3 x_3n x_3c) d ps ∧ Rows.uptoBulk d + 1 ≤ Rows.uptoBulk x.1) ∧ x_3n ≤ x_3c ∧ x_3c ≤ maxLen ∧ (Lit.int .i64 x_4).wf = true ∧ (Lit.int .i64 x_5).wf = true ∧ (Lit.int .i64 x_6).wf = true ∧ (Lit.int .i64 x_7).wf = true := by
  obtain ⟨n, xs, hx, hl, hf⟩ := trod_at Try.underlying33 h
  rw [cells33] at hl
  obtain ⟨y0, hy0, ht0⟩ := hf 0 _ rfl
  obtain ⟨y1, hy1, ht1⟩ := hf 1 _ rfl
  obtain ⟨y2, hy2, ht2⟩ := hf 2 _ rfl
  obtain ⟨y3, hy3, ht3⟩ := hf 3 _ rfl
  obtain ⟨y4, hy4, ht4⟩ := hf 4 _ rfl
  obtain ⟨y5, hy5, ht5⟩ := hf 5 _ rfl
  obtain ⟨y6, hy6, ht6⟩ := hf 6 _ rfl
  obtain ⟨y7, hy7, ht7⟩ := hf 7 _ rfl
  obtain ⟨c0, c1, c2, c3, c4, c5, c6, c7, rfl⟩ := list_8 hl
  replace ht0 : DataW.trod enc Try.prog W base spare held n 3 ((List.drop 0 [c0, c1, c2, c3, c4, c5, c6, c7]).take (Try.prog.cellsOf 3)) = some y0 := ht0
  rw [cells3] at ht0
  replace ht0 : DataW.trod enc Try.prog W base spare held n 3 [c0] = some y0 := ht0
  have hb0 := bulk_part hx hy0
  replace ht1 : DataW.trod enc Try.prog W base spare held n 3 ((List.drop 1 [c0, c1, c2, c3, c4, c5, c6, c7]).take (Try.prog.cellsOf 3)) = some y1 := ht1
  rw [cells3] at ht1
  replace ht1 : DataW.trod enc Try.prog W base spare held n 3 [c1] = some y1 := ht1
  have hb1 := bulk_part hx hy1
  replace ht2 : DataW.trod enc Try.prog W base spare held n 3 ((List.drop 2 [c0, c1, c2, c3, c4, c5, c6, c7]).take (Try.prog.cellsOf 3)) = some y2 := ht2
  rw [cells3] at ht2
  replace ht2 : DataW.trod enc Try.prog W base spare held n 3 [c2] = some y2 := ht2
  have hb2 := bulk_part hx hy2
  replace ht3 : DataW.trod enc Try.prog W base spare held n 32 ((List.drop 3 [c0, c1, c2, c3, c4, c5, c6, c7]).take (Try.prog.cellsOf 32)) = some y3 := ht3
  rw [cells32] at ht3
  replace ht3 : DataW.trod enc Try.prog W base spare held n 32 [c3] = some y3 := ht3
  have hb3 := bulk_part hx hy3
  replace ht4 : DataW.trod enc Try.prog W base spare held n 3 ((List.drop 4 [c0, c1, c2, c3, c4, c5, c6, c7]).take (Try.prog.cellsOf 3)) = some y4 := ht4
  rw [cells3] at ht4
  replace ht4 : DataW.trod enc Try.prog W base spare held n 3 [c4] = some y4 := ht4
  have hb4 := bulk_part hx hy4
  replace ht5 : DataW.trod enc Try.prog W base spare held n 3 ((List.drop 5 [c0, c1, c2, c3, c4, c5, c6, c7]).take (Try.prog.cellsOf 3)) = some y5 := ht5
  rw [cells3] at ht5
  replace ht5 : DataW.trod enc Try.prog W base spare held n 3 [c5] = some y5 := ht5
  have hb5 := bulk_part hx hy5
  replace ht6 : DataW.trod enc Try.prog W base spare held n 3 ((List.drop 6 [c0, c1, c2, c3, c4, c5, c6, c7]).take (Try.prog.cellsOf 3)) = some y6 := ht6
  rw [cells3] at ht6
  replace ht6 : DataW.trod enc Try.prog W base spare held n 3 [c6] = some y6 := ht6
  have hb6 := bulk_part hx hy6
  replace ht7 : DataW.trod enc Try.prog W base spare held n 3 ((List.drop 7 [c0, c1, c2, c3, c4, c5, c6, c7]).take (Try.prog.cellsOf 3)) = some y7 := ht7
  rw [cells3] at ht7
  replace ht7 : DataW.trod enc Try.prog W base spare held n 3 [c7] = some y7 := ht7
  have hb7 := bulk_part hx hy7
  obtain ⟨x_0, e0, _, w0⟩ := DataW.trod_int Try.underlying3 ht0
  cases e0
  obtain ⟨x_1, e1, _, w1⟩ := DataW.trod_int Try.underlying3 ht1
  cases e1
  obtain ⟨x_2, e2, _, w2⟩ := DataW.trod_int Try.underlying3 ht2
  cases e2
  obtain ⟨x_3, x_3n, x_3c, e3, q3, l3, m3⟩ := trod_sliceF Try.underlying32 ht3
  cases e3
  obtain ⟨x_4, e4, _, w4⟩ := DataW.trod_int Try.underlying3 ht4
  cases e4
  obtain ⟨x_5, e5, _, w5⟩ := DataW.trod_int Try.underlying3 ht5
  cases e5
  obtain ⟨x_6, e6, _, w6⟩ := DataW.trod_int Try.underlying3 ht6
  cases e6
  obtain ⟨x_7, e7, _, w7⟩ := DataW.trod_int Try.underlying3 ht7
  cases e7
  exact ⟨x_0, x_1, x_2, x_3, x_3n, x_3c, x_4, x_5, x_6, x_7, rfl, w0, w1, w2, ⟨_, _, q3, hb3⟩, l3, m3, w4, w5, w6, w7⟩
theorem cells34 : Try.prog.cellsOf 34 = 8 := by kernel_rfl
theorem dec34 {H : Type} {enc : TypeId × Value → H} {W : World} {base fuel : Nat} {spare : Nat → Bool} {held : Bool} {cs : List Value} {x : DataW H × List MemPlace} (h : DataW.trod enc Try.prog W base spare held fuel 34 cs = some x) :
    ∃ (x_0 : Int) (x_1 : Int) (x_2 : Int) (x_3 : Option Addr) (x_3n x_3c : Nat) (x_4 : Int) (x_5 : Int) (x_6 : Int) (x_7 : Int), cs = [.int .i64 x_0, .int .i64 x_1, .int .i64 x_2, .slice x_3 x_3n x_3c, .int .i64 x_4, .int .i64 x_5, .int .i64 x_6, .int .i64 x_7] ∧ (Lit.int .i64 x_0).wf = true ∧ (Lit.int .i64 x_1).wf = true ∧ (Lit.int .i64 x_2).wf = true ∧ (∃ d ps, DataW.Trod enc Try.prog W base spare held 32 (.slice x_3 x_3n x_3c) d ps ∧ Rows.uptoBulk d + 1 ≤ Rows.uptoBulk x.1) ∧ x_3n ≤ x_3c ∧ x_3c ≤ maxLen ∧ (Lit.int .i64 x_4).wf = true ∧ (Lit.int .i64 x_5).wf = true ∧ (Lit.int .i64 x_6).wf = true ∧ (Lit.int .i64 x_7).wf = true := by
  obtain ⟨n, xs, hx, hl, hf⟩ := trod_at Try.underlying34 h
  rw [cells34] at hl
  obtain ⟨y0, hy0, ht0⟩ := hf 0 _ rfl
  obtain ⟨y1, hy1, ht1⟩ := hf 1 _ rfl
  obtain ⟨y2, hy2, ht2⟩ := hf 2 _ rfl
  obtain ⟨y3, hy3, ht3⟩ := hf 3 _ rfl
  obtain ⟨y4, hy4, ht4⟩ := hf 4 _ rfl
  obtain ⟨y5, hy5, ht5⟩ := hf 5 _ rfl
  obtain ⟨y6, hy6, ht6⟩ := hf 6 _ rfl
  obtain ⟨y7, hy7, ht7⟩ := hf 7 _ rfl
  obtain ⟨c0, c1, c2, c3, c4, c5, c6, c7, rfl⟩ := list_8 hl
  replace ht0 : DataW.trod enc Try.prog W base spare held n 3 ((List.drop 0 [c0, c1, c2, c3, c4, c5, c6, c7]).take (Try.prog.cellsOf 3)) = some y0 := ht0
  rw [cells3] at ht0
  replace ht0 : DataW.trod enc Try.prog W base spare held n 3 [c0] = some y0 := ht0
  have hb0 := bulk_part hx hy0
  replace ht1 : DataW.trod enc Try.prog W base spare held n 3 ((List.drop 1 [c0, c1, c2, c3, c4, c5, c6, c7]).take (Try.prog.cellsOf 3)) = some y1 := ht1
  rw [cells3] at ht1
  replace ht1 : DataW.trod enc Try.prog W base spare held n 3 [c1] = some y1 := ht1
  have hb1 := bulk_part hx hy1
  replace ht2 : DataW.trod enc Try.prog W base spare held n 3 ((List.drop 2 [c0, c1, c2, c3, c4, c5, c6, c7]).take (Try.prog.cellsOf 3)) = some y2 := ht2
  rw [cells3] at ht2
  replace ht2 : DataW.trod enc Try.prog W base spare held n 3 [c2] = some y2 := ht2
  have hb2 := bulk_part hx hy2
  replace ht3 : DataW.trod enc Try.prog W base spare held n 32 ((List.drop 3 [c0, c1, c2, c3, c4, c5, c6, c7]).take (Try.prog.cellsOf 32)) = some y3 := ht3
  rw [cells32] at ht3
  replace ht3 : DataW.trod enc Try.prog W base spare held n 32 [c3] = some y3 := ht3
  have hb3 := bulk_part hx hy3
  replace ht4 : DataW.trod enc Try.prog W base spare held n 3 ((List.drop 4 [c0, c1, c2, c3, c4, c5, c6, c7]).take (Try.prog.cellsOf 3)) = some y4 := ht4
  rw [cells3] at ht4
  replace ht4 : DataW.trod enc Try.prog W base spare held n 3 [c4] = some y4 := ht4
  have hb4 := bulk_part hx hy4
  replace ht5 : DataW.trod enc Try.prog W base spare held n 3 ((List.drop 5 [c0, c1, c2, c3, c4, c5, c6, c7]).take (Try.prog.cellsOf 3)) = some y5 := ht5
  rw [cells3] at ht5
  replace ht5 : DataW.trod enc Try.prog W base spare held n 3 [c5] = some y5 := ht5
  have hb5 := bulk_part hx hy5
  replace ht6 : DataW.trod enc Try.prog W base spare held n 3 ((List.drop 6 [c0, c1, c2, c3, c4, c5, c6, c7]).take (Try.prog.cellsOf 3)) = some y6 := ht6
  rw [cells3] at ht6
  replace ht6 : DataW.trod enc Try.prog W base spare held n 3 [c6] = some y6 := ht6
  have hb6 := bulk_part hx hy6
  replace ht7 : DataW.trod enc Try.prog W base spare held n 3 ((List.drop 7 [c0, c1, c2, c3, c4, c5, c6, c7]).take (Try.prog.cellsOf 3)) = some y7 := ht7
  rw [cells3] at ht7
  replace ht7 : DataW.trod enc Try.prog W base spare held n 3 [c7] = some y7 := ht7
  have hb7 := bulk_part hx hy7
  obtain ⟨x_0, e0, _, w0⟩ := DataW.trod_int Try.underlying3 ht0
  cases e0
  obtain ⟨x_1, e1, _, w1⟩ := DataW.trod_int Try.underlying3 ht1
  cases e1
  obtain ⟨x_2, e2, _, w2⟩ := DataW.trod_int Try.underlying3 ht2
  cases e2
  obtain ⟨x_3, x_3n, x_3c, e3, q3, l3, m3⟩ := trod_sliceF Try.underlying32 ht3
  cases e3
  obtain ⟨x_4, e4, _, w4⟩ := DataW.trod_int Try.underlying3 ht4
  cases e4
  obtain ⟨x_5, e5, _, w5⟩ := DataW.trod_int Try.underlying3 ht5
  cases e5
  obtain ⟨x_6, e6, _, w6⟩ := DataW.trod_int Try.underlying3 ht6
  cases e6
  obtain ⟨x_7, e7, _, w7⟩ := DataW.trod_int Try.underlying3 ht7
  cases e7
  exact ⟨x_0, x_1, x_2, x_3, x_3n, x_3c, x_4, x_5, x_6, x_7, rfl, w0, w1, w2, ⟨_, _, q3, hb3⟩, l3, m3, w4, w5, w6, w7⟩
theorem list_2 {l : List Value} (h : l.length = 2) : ∃ c0 c1, l = [c0, c1] := by
  match l, h with
  | [c0, c1], _ => exact ⟨c0, c1, rfl⟩
theorem cells48 : Try.prog.cellsOf 48 = 2 := by kernel_rfl
theorem cells4 : Try.prog.cellsOf 4 = 1 := by kernel_rfl
theorem cells23 : Try.prog.cellsOf 23 = 1 := by kernel_rfl
theorem dec48 {H : Type} {enc : TypeId × Value → H} {W : World} {base fuel : Nat} {spare : Nat → Bool} {held : Bool} {cs : List Value} {x : DataW H × List MemPlace} (h : DataW.trod enc Try.prog W base spare held fuel 48 cs = some x) :
    ∃ (x_0 : Bool) (x_1 : Int), cs = [.bool x_0, .int .u64 x_1] ∧ (Lit.int .u64 x_1).wf = true := by
  obtain ⟨n, xs, hx, hl, hf⟩ := trod_at Try.underlying48 h
  rw [cells48] at hl
  obtain ⟨y0, hy0, ht0⟩ := hf 0 _ rfl
  obtain ⟨y1, hy1, ht1⟩ := hf 1 _ rfl
  obtain ⟨c0, c1, rfl⟩ := list_2 hl
  replace ht0 : DataW.trod enc Try.prog W base spare held n 4 ((List.drop 0 [c0, c1]).take (Try.prog.cellsOf 4)) = some y0 := ht0
  rw [cells4] at ht0
  replace ht0 : DataW.trod enc Try.prog W base spare held n 4 [c0] = some y0 := ht0
  have hb0 := bulk_part hx hy0
  replace ht1 : DataW.trod enc Try.prog W base spare held n 23 ((List.drop 1 [c0, c1]).take (Try.prog.cellsOf 23)) = some y1 := ht1
  rw [cells23] at ht1
  replace ht1 : DataW.trod enc Try.prog W base spare held n 23 [c1] = some y1 := ht1
  have hb1 := bulk_part hx hy1
  obtain ⟨x_0, e0, _⟩ := DataW.trod_bool Try.underlying4 ht0
  cases e0
  obtain ⟨x_1, e1, _, w1⟩ := DataW.trod_int Try.underlying23 ht1
  cases e1
  exact ⟨x_0, x_1, rfl, w1⟩
theorem list_3 {l : List Value} (h : l.length = 3) : ∃ c0 c1 c2, l = [c0, c1, c2] := by
  match l, h with
  | [c0, c1, c2], _ => exact ⟨c0, c1, c2, rfl⟩
theorem cells49 : Try.prog.cellsOf 49 = 3 := by kernel_rfl
theorem dec49 {H : Type} {enc : TypeId × Value → H} {W : World} {base fuel : Nat} {spare : Nat → Bool} {held : Bool} {cs : List Value} {x : DataW H × List MemPlace} (h : DataW.trod enc Try.prog W base spare held fuel 49 cs = some x) :
    ∃ (x_0 : Int) (x_1_0 : Bool) (x_1_1 : Int), cs = [.int .u64 x_0, .bool x_1_0, .int .u64 x_1_1] ∧ (Lit.int .u64 x_0).wf = true ∧ (Lit.int .u64 x_1_1).wf = true := by
  obtain ⟨n, xs, hx, hl, hf⟩ := trod_at Try.underlying49 h
  rw [cells49] at hl
  obtain ⟨y0, hy0, ht0⟩ := hf 0 _ rfl
  obtain ⟨y1, hy1, ht1⟩ := hf 1 _ rfl
  obtain ⟨c0, c1, c2, rfl⟩ := list_3 hl
  replace ht0 : DataW.trod enc Try.prog W base spare held n 23 ((List.drop 0 [c0, c1, c2]).take (Try.prog.cellsOf 23)) = some y0 := ht0
  rw [cells23] at ht0
  replace ht0 : DataW.trod enc Try.prog W base spare held n 23 [c0] = some y0 := ht0
  have hb0 := bulk_part hx hy0
  replace ht1 : DataW.trod enc Try.prog W base spare held n 48 ((List.drop 1 [c0, c1, c2]).take (Try.prog.cellsOf 48)) = some y1 := ht1
  rw [cells48] at ht1
  replace ht1 : DataW.trod enc Try.prog W base spare held n 48 [c1, c2] = some y1 := ht1
  have hb1 := bulk_part hx hy1
  obtain ⟨x_0, e0, _, w0⟩ := DataW.trod_int Try.underlying23 ht0
  cases e0
  obtain ⟨x_1_0, x_1_1, e1, g1_0⟩ := dec48 ht1
  cases e1
  exact ⟨x_0, x_1_0, x_1_1, rfl, w0, g1_0⟩
theorem cells50 : Try.prog.cellsOf 50 = 3 := by kernel_rfl
theorem dec50 {H : Type} {enc : TypeId × Value → H} {W : World} {base fuel : Nat} {spare : Nat → Bool} {held : Bool} {cs : List Value} {x : DataW H × List MemPlace} (h : DataW.trod enc Try.prog W base spare held fuel 50 cs = some x) :
    ∃ (x_0 : Int) (x_1_0 : Bool) (x_1_1 : Int), cs = [.int .u64 x_0, .bool x_1_0, .int .u64 x_1_1] ∧ (Lit.int .u64 x_0).wf = true ∧ (Lit.int .u64 x_1_1).wf = true := by
  obtain ⟨n, xs, hx, hl, hf⟩ := trod_at Try.underlying50 h
  rw [cells50] at hl
  obtain ⟨y0, hy0, ht0⟩ := hf 0 _ rfl
  obtain ⟨y1, hy1, ht1⟩ := hf 1 _ rfl
  obtain ⟨c0, c1, c2, rfl⟩ := list_3 hl
  replace ht0 : DataW.trod enc Try.prog W base spare held n 23 ((List.drop 0 [c0, c1, c2]).take (Try.prog.cellsOf 23)) = some y0 := ht0
  rw [cells23] at ht0
  replace ht0 : DataW.trod enc Try.prog W base spare held n 23 [c0] = some y0 := ht0
  have hb0 := bulk_part hx hy0
  replace ht1 : DataW.trod enc Try.prog W base spare held n 48 ((List.drop 1 [c0, c1, c2]).take (Try.prog.cellsOf 48)) = some y1 := ht1
  rw [cells48] at ht1
  replace ht1 : DataW.trod enc Try.prog W base spare held n 48 [c1, c2] = some y1 := ht1
  have hb1 := bulk_part hx hy1
  obtain ⟨x_0, e0, _, w0⟩ := DataW.trod_int Try.underlying23 ht0
  cases e0
  obtain ⟨x_1_0, x_1_1, e1, g1_0⟩ := dec48 ht1
  cases e1
  exact ⟨x_0, x_1_0, x_1_1, rfl, w0, g1_0⟩
theorem cells80 : Try.prog.cellsOf 80 = 3 := by kernel_rfl
theorem cells2 : Try.prog.cellsOf 2 = 1 := by kernel_rfl
theorem cells78 : Try.prog.cellsOf 78 = 1 := by kernel_rfl
theorem dec80 {H : Type} {enc : TypeId × Value → H} {W : World} {base fuel : Nat} {spare : Nat → Bool} {held : Bool} {cs : List Value} {x : DataW H × List MemPlace} (h : DataW.trod enc Try.prog W base spare held fuel 80 cs = some x) :
    ∃ (x_0 : Int) (x_1 : Int) (x_2 : Nat), cs = [.int .i64 x_0, .int .i64 x_1, .float .f64 x_2] ∧ (Lit.int .i64 x_0).wf = true ∧ (Lit.int .i64 x_1).wf = true := by
  obtain ⟨n, xs, hx, hl, hf⟩ := trod_at Try.underlying80 h
  rw [cells80] at hl
  obtain ⟨y0, hy0, ht0⟩ := hf 0 _ rfl
  obtain ⟨y1, hy1, ht1⟩ := hf 1 _ rfl
  obtain ⟨y2, hy2, ht2⟩ := hf 2 _ rfl
  obtain ⟨c0, c1, c2, rfl⟩ := list_3 hl
  replace ht0 : DataW.trod enc Try.prog W base spare held n 3 ((List.drop 0 [c0, c1, c2]).take (Try.prog.cellsOf 3)) = some y0 := ht0
  rw [cells3] at ht0
  replace ht0 : DataW.trod enc Try.prog W base spare held n 3 [c0] = some y0 := ht0
  have hb0 := bulk_part hx hy0
  replace ht1 : DataW.trod enc Try.prog W base spare held n 2 ((List.drop 1 [c0, c1, c2]).take (Try.prog.cellsOf 2)) = some y1 := ht1
  rw [cells2] at ht1
  replace ht1 : DataW.trod enc Try.prog W base spare held n 2 [c1] = some y1 := ht1
  have hb1 := bulk_part hx hy1
  replace ht2 : DataW.trod enc Try.prog W base spare held n 78 ((List.drop 2 [c0, c1, c2]).take (Try.prog.cellsOf 78)) = some y2 := ht2
  rw [cells78] at ht2
  replace ht2 : DataW.trod enc Try.prog W base spare held n 78 [c2] = some y2 := ht2
  have hb2 := bulk_part hx hy2
  obtain ⟨x_0, e0, _, w0⟩ := DataW.trod_int Try.underlying3 ht0
  cases e0
  obtain ⟨x_1, e1, _, w1⟩ := DataW.trod_int Try.underlying2 ht1
  cases e1
  obtain ⟨x_2, e2⟩ := trod_float Try.underlying78 ht2
  cases e2
  exact ⟨x_0, x_1, x_2, rfl, w0, w1⟩
end Go.Proofs.Ytnmeaokfcalbbaa.Lg
