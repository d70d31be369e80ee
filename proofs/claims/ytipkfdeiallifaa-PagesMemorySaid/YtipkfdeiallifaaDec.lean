/-
  How structs are read, cell by cell. By program (gen/dec.py).
-/
import Derived.Test.YtipkfdeiallifaaRw
import Derived.Test.YtipkfdeiallifaaTy
import Derived.KernelRfl
set_option linter.unusedVariables false
set_option linter.unusedSimpArgs false
namespace Go.Proofs.Ytipkfdeiallifaa.Lg
open Go Go.RowKit Go.ChangeShapes Go.WideShapes Go.Deep
theorem list_9 {l : List Value} (h : l.length = 9) : ∃ c0 c1 c2 c3 c4 c5 c6 c7 c8, l = [c0, c1, c2, c3, c4, c5, c6, c7, c8] := by
  match l, h with
  | [c0, c1, c2, c3, c4, c5, c6, c7, c8], _ => exact ⟨c0, c1, c2, c3, c4, c5, c6, c7, c8, rfl⟩
theorem cells26 : Try.prog.cellsOf 26 = 9 := by kernel_rfl
theorem cells3 : Try.prog.cellsOf 3 = 1 := by kernel_rfl
theorem cells22 : Try.prog.cellsOf 22 = 1 := by kernel_rfl
theorem cells23 : Try.prog.cellsOf 23 = 1 := by kernel_rfl
theorem cells24 : Try.prog.cellsOf 24 = 1 := by kernel_rfl
theorem dec26 {H : Type} {enc : TypeId × Value → H} {W : World} {base fuel : Nat} {spare : Nat → Bool} {held : Bool} {cs : List Value} {x : DataW H × List MemPlace} (h : DataW.trod enc Try.prog W base spare held fuel 26 cs = some x) :
    ∃ (x_0 : Int) (x_1 : Int) (x_2 : Int) (x_3 : Int) (x_4 : Int) (x_5 : Int) (x_6 : Option Addr) (x_6n x_6c : Nat) (x_7 : Option Addr) (x_7n x_7c : Nat) (x_8 : Option Addr) (x_8n x_8c : Nat), cs = [.int .i64 x_0, .int .i64 x_1, .int .i64 x_2, .int .i64 x_3, .int .i64 x_4, .int .i64 x_5, .slice x_6 x_6n x_6c, .slice x_7 x_7n x_7c, .slice x_8 x_8n x_8c] ∧ (Lit.int .i64 x_0).wf = true ∧ (Lit.int .i64 x_1).wf = true ∧ (Lit.int .i64 x_2).wf = true ∧ (Lit.int .i64 x_3).wf = true ∧ (Lit.int .i64 x_4).wf = true ∧ (Lit.int .i64 x_5).wf = true ∧ (∃ d ps, DataW.Trod enc Try.prog W base spare held 22 (.slice x_6 x_6n x_6c) d ps ∧ Rows.uptoBulk d + 1 ≤ Rows.uptoBulk x.1 ∧ ∀ m ∈ d.weights Try.prog 22, m ∈ x.1.weights Try.prog 26) ∧ x_6n ≤ x_6c ∧ x_6c ≤ maxLen ∧ (∃ d ps, DataW.Trod enc Try.prog W base spare held 23 (.slice x_7 x_7n x_7c) d ps ∧ Rows.uptoBulk d + 1 ≤ Rows.uptoBulk x.1 ∧ ∀ m ∈ d.weights Try.prog 23, m ∈ x.1.weights Try.prog 26) ∧ x_7n ≤ x_7c ∧ x_7c ≤ maxLen ∧ (∃ d ps, DataW.Trod enc Try.prog W base spare held 24 (.slice x_8 x_8n x_8c) d ps ∧ Rows.uptoBulk d + 1 ≤ Rows.uptoBulk x.1 ∧ ∀ m ∈ d.weights Try.prog 24, m ∈ x.1.weights Try.prog 26) ∧ x_8n ≤ x_8c ∧ x_8c ≤ maxLen := by
  obtain ⟨n, xs, hx, hl, hf⟩ := trod_at Try.underlying26 h
  rw [cells26] at hl
  obtain ⟨y0, hy0, ht0⟩ := hf 0 _ rfl
  obtain ⟨y1, hy1, ht1⟩ := hf 1 _ rfl
  obtain ⟨y2, hy2, ht2⟩ := hf 2 _ rfl
  obtain ⟨y3, hy3, ht3⟩ := hf 3 _ rfl
  obtain ⟨y4, hy4, ht4⟩ := hf 4 _ rfl
  obtain ⟨y5, hy5, ht5⟩ := hf 5 _ rfl
  obtain ⟨y6, hy6, ht6⟩ := hf 6 _ rfl
  obtain ⟨y7, hy7, ht7⟩ := hf 7 _ rfl
  obtain ⟨y8, hy8, ht8⟩ := hf 8 _ rfl
  obtain ⟨c0, c1, c2, c3, c4, c5, c6, c7, c8, rfl⟩ := list_9 hl
  replace ht0 : DataW.trod enc Try.prog W base spare held n 3 ((List.drop 0 [c0, c1, c2, c3, c4, c5, c6, c7, c8]).take (Try.prog.cellsOf 3)) = some y0 := ht0
  rw [cells3] at ht0
  replace ht0 : DataW.trod enc Try.prog W base spare held n 3 [c0] = some y0 := ht0
  have hb0 := bulk_part hx hy0
  have hw0 := light_part Try.underlying26 (show _ = some _ from rfl : (_ : Array Field)[0]? = _) hx hy0
  replace ht1 : DataW.trod enc Try.prog W base spare held n 3 ((List.drop 1 [c0, c1, c2, c3, c4, c5, c6, c7, c8]).take (Try.prog.cellsOf 3)) = some y1 := ht1
  rw [cells3] at ht1
  replace ht1 : DataW.trod enc Try.prog W base spare held n 3 [c1] = some y1 := ht1
  have hb1 := bulk_part hx hy1
  have hw1 := light_part Try.underlying26 (show _ = some _ from rfl : (_ : Array Field)[1]? = _) hx hy1
  replace ht2 : DataW.trod enc Try.prog W base spare held n 3 ((List.drop 2 [c0, c1, c2, c3, c4, c5, c6, c7, c8]).take (Try.prog.cellsOf 3)) = some y2 := ht2
  rw [cells3] at ht2
  replace ht2 : DataW.trod enc Try.prog W base spare held n 3 [c2] = some y2 := ht2
  have hb2 := bulk_part hx hy2
  have hw2 := light_part Try.underlying26 (show _ = some _ from rfl : (_ : Array Field)[2]? = _) hx hy2
  replace ht3 : DataW.trod enc Try.prog W base spare held n 3 ((List.drop 3 [c0, c1, c2, c3, c4, c5, c6, c7, c8]).take (Try.prog.cellsOf 3)) = some y3 := ht3
  rw [cells3] at ht3
  replace ht3 : DataW.trod enc Try.prog W base spare held n 3 [c3] = some y3 := ht3
  have hb3 := bulk_part hx hy3
  have hw3 := light_part Try.underlying26 (show _ = some _ from rfl : (_ : Array Field)[3]? = _) hx hy3
  replace ht4 : DataW.trod enc Try.prog W base spare held n 3 ((List.drop 4 [c0, c1, c2, c3, c4, c5, c6, c7, c8]).take (Try.prog.cellsOf 3)) = some y4 := ht4
  rw [cells3] at ht4
  replace ht4 : DataW.trod enc Try.prog W base spare held n 3 [c4] = some y4 := ht4
  have hb4 := bulk_part hx hy4
  have hw4 := light_part Try.underlying26 (show _ = some _ from rfl : (_ : Array Field)[4]? = _) hx hy4
  replace ht5 : DataW.trod enc Try.prog W base spare held n 3 ((List.drop 5 [c0, c1, c2, c3, c4, c5, c6, c7, c8]).take (Try.prog.cellsOf 3)) = some y5 := ht5
  rw [cells3] at ht5
  replace ht5 : DataW.trod enc Try.prog W base spare held n 3 [c5] = some y5 := ht5
  have hb5 := bulk_part hx hy5
  have hw5 := light_part Try.underlying26 (show _ = some _ from rfl : (_ : Array Field)[5]? = _) hx hy5
  replace ht6 : DataW.trod enc Try.prog W base spare held n 22 ((List.drop 6 [c0, c1, c2, c3, c4, c5, c6, c7, c8]).take (Try.prog.cellsOf 22)) = some y6 := ht6
  rw [cells22] at ht6
  replace ht6 : DataW.trod enc Try.prog W base spare held n 22 [c6] = some y6 := ht6
  have hb6 := bulk_part hx hy6
  have hw6 := light_part Try.underlying26 (show _ = some _ from rfl : (_ : Array Field)[6]? = _) hx hy6
  replace ht7 : DataW.trod enc Try.prog W base spare held n 23 ((List.drop 7 [c0, c1, c2, c3, c4, c5, c6, c7, c8]).take (Try.prog.cellsOf 23)) = some y7 := ht7
  rw [cells23] at ht7
  replace ht7 : DataW.trod enc Try.prog W base spare held n 23 [c7] = some y7 := ht7
  have hb7 := bulk_part hx hy7
  have hw7 := light_part Try.underlying26 (show _ = some _ from rfl : (_ : Array Field)[7]? = _) hx hy7
  replace ht8 : DataW.trod enc Try.prog W base spare held n 24 ((List.drop 8 [c0, c1, c2, c3, c4, c5, c6, c7, c8]).take (Try.prog.cellsOf 24)) = some y8 := ht8
  rw [cells24] at ht8
  replace ht8 : DataW.trod enc Try.prog W base spare held n 24 [c8] = some y8 := ht8
  have hb8 := bulk_part hx hy8
  have hw8 := light_part Try.underlying26 (show _ = some _ from rfl : (_ : Array Field)[8]? = _) hx hy8
  obtain ⟨x_0, e0, _, w0⟩ := DataW.trod_int Try.underlying3 ht0
  cases e0
  obtain ⟨x_1, e1, _, w1⟩ := DataW.trod_int Try.underlying3 ht1
  cases e1
  obtain ⟨x_2, e2, _, w2⟩ := DataW.trod_int Try.underlying3 ht2
  cases e2
  obtain ⟨x_3, e3, _, w3⟩ := DataW.trod_int Try.underlying3 ht3
  cases e3
  obtain ⟨x_4, e4, _, w4⟩ := DataW.trod_int Try.underlying3 ht4
  cases e4
  obtain ⟨x_5, e5, _, w5⟩ := DataW.trod_int Try.underlying3 ht5
  cases e5
  obtain ⟨x_6, x_6n, x_6c, e6, q6, l6, m6⟩ := trod_sliceF Try.underlying22 ht6
  cases e6
  obtain ⟨x_7, x_7n, x_7c, e7, q7, l7, m7⟩ := trod_sliceF Try.underlying23 ht7
  cases e7
  obtain ⟨x_8, x_8n, x_8c, e8, q8, l8, m8⟩ := trod_sliceF Try.underlying24 ht8
  cases e8
  exact ⟨x_0, x_1, x_2, x_3, x_4, x_5, x_6, x_6n, x_6c, x_7, x_7n, x_7c, x_8, x_8n, x_8c, rfl, w0, w1, w2, w3, w4, w5, ⟨_, _, q6, hb6, hw6⟩, l6, m6, ⟨_, _, q7, hb7, hw7⟩, l7, m7, ⟨_, _, q8, hb8, hw8⟩, l8, m8⟩
theorem list_2 {l : List Value} (h : l.length = 2) : ∃ c0 c1, l = [c0, c1] := by
  match l, h with
  | [c0, c1], _ => exact ⟨c0, c1, rfl⟩
theorem cells40 : Try.prog.cellsOf 40 = 2 := by kernel_rfl
theorem cells4 : Try.prog.cellsOf 4 = 1 := by kernel_rfl
theorem cells38 : Try.prog.cellsOf 38 = 1 := by kernel_rfl
theorem dec40 {H : Type} {enc : TypeId × Value → H} {W : World} {base fuel : Nat} {spare : Nat → Bool} {held : Bool} {cs : List Value} {x : DataW H × List MemPlace} (h : DataW.trod enc Try.prog W base spare held fuel 40 cs = some x) :
    ∃ (x_0 : Bool) (x_1 : Int), cs = [.bool x_0, .int .u64 x_1] ∧ (Lit.int .u64 x_1).wf = true := by
  obtain ⟨n, xs, hx, hl, hf⟩ := trod_at Try.underlying40 h
  rw [cells40] at hl
  obtain ⟨y0, hy0, ht0⟩ := hf 0 _ rfl
  obtain ⟨y1, hy1, ht1⟩ := hf 1 _ rfl
  obtain ⟨c0, c1, rfl⟩ := list_2 hl
  replace ht0 : DataW.trod enc Try.prog W base spare held n 4 ((List.drop 0 [c0, c1]).take (Try.prog.cellsOf 4)) = some y0 := ht0
  rw [cells4] at ht0
  replace ht0 : DataW.trod enc Try.prog W base spare held n 4 [c0] = some y0 := ht0
  have hb0 := bulk_part hx hy0
  have hw0 := light_part Try.underlying40 (show _ = some _ from rfl : (_ : Array Field)[0]? = _) hx hy0
  replace ht1 : DataW.trod enc Try.prog W base spare held n 38 ((List.drop 1 [c0, c1]).take (Try.prog.cellsOf 38)) = some y1 := ht1
  rw [cells38] at ht1
  replace ht1 : DataW.trod enc Try.prog W base spare held n 38 [c1] = some y1 := ht1
  have hb1 := bulk_part hx hy1
  have hw1 := light_part Try.underlying40 (show _ = some _ from rfl : (_ : Array Field)[1]? = _) hx hy1
  obtain ⟨x_0, e0, _⟩ := DataW.trod_bool Try.underlying4 ht0
  cases e0
  obtain ⟨x_1, e1, _, w1⟩ := DataW.trod_int Try.underlying38 ht1
  cases e1
  exact ⟨x_0, x_1, rfl, w1⟩
theorem list_3 {l : List Value} (h : l.length = 3) : ∃ c0 c1 c2, l = [c0, c1, c2] := by
  match l, h with
  | [c0, c1, c2], _ => exact ⟨c0, c1, c2, rfl⟩
theorem cells42 : Try.prog.cellsOf 42 = 3 := by kernel_rfl
theorem dec42 {H : Type} {enc : TypeId × Value → H} {W : World} {base fuel : Nat} {spare : Nat → Bool} {held : Bool} {cs : List Value} {x : DataW H × List MemPlace} (h : DataW.trod enc Try.prog W base spare held fuel 42 cs = some x) :
    ∃ (x_0 : Int) (x_1_0 : Bool) (x_1_1 : Int), cs = [.int .u64 x_0, .bool x_1_0, .int .u64 x_1_1] ∧ (Lit.int .u64 x_0).wf = true ∧ (Lit.int .u64 x_1_1).wf = true := by
  obtain ⟨n, xs, hx, hl, hf⟩ := trod_at Try.underlying42 h
  rw [cells42] at hl
  obtain ⟨y0, hy0, ht0⟩ := hf 0 _ rfl
  obtain ⟨y1, hy1, ht1⟩ := hf 1 _ rfl
  obtain ⟨c0, c1, c2, rfl⟩ := list_3 hl
  replace ht0 : DataW.trod enc Try.prog W base spare held n 38 ((List.drop 0 [c0, c1, c2]).take (Try.prog.cellsOf 38)) = some y0 := ht0
  rw [cells38] at ht0
  replace ht0 : DataW.trod enc Try.prog W base spare held n 38 [c0] = some y0 := ht0
  have hb0 := bulk_part hx hy0
  have hw0 := light_part Try.underlying42 (show _ = some _ from rfl : (_ : Array Field)[0]? = _) hx hy0
  replace ht1 : DataW.trod enc Try.prog W base spare held n 40 ((List.drop 1 [c0, c1, c2]).take (Try.prog.cellsOf 40)) = some y1 := ht1
  rw [cells40] at ht1
  replace ht1 : DataW.trod enc Try.prog W base spare held n 40 [c1, c2] = some y1 := ht1
  have hb1 := bulk_part hx hy1
  have hw1 := light_part Try.underlying42 (show _ = some _ from rfl : (_ : Array Field)[1]? = _) hx hy1
  obtain ⟨x_0, e0, _, w0⟩ := DataW.trod_int Try.underlying38 ht0
  cases e0
  obtain ⟨x_1_0, x_1_1, e1, g1_0⟩ := dec40 ht1
  cases e1
  exact ⟨x_0, x_1_0, x_1_1, rfl, w0, g1_0⟩
theorem cells45 : Try.prog.cellsOf 45 = 2 := by kernel_rfl
theorem cells28 : Try.prog.cellsOf 28 = 1 := by kernel_rfl
theorem dec45 {H : Type} {enc : TypeId × Value → H} {W : World} {base fuel : Nat} {spare : Nat → Bool} {held : Bool} {cs : List Value} {x : DataW H × List MemPlace} (h : DataW.trod enc Try.prog W base spare held fuel 45 cs = some x) :
    ∃ (x_0 : Int) (x_1 : Option Addr) (x_1n x_1c : Nat), cs = [.int .i64 x_0, .slice x_1 x_1n x_1c] ∧ (Lit.int .i64 x_0).wf = true ∧ (∃ d ps, DataW.Trod enc Try.prog W base spare held 28 (.slice x_1 x_1n x_1c) d ps ∧ Rows.uptoBulk d + 1 ≤ Rows.uptoBulk x.1 ∧ ∀ m ∈ d.weights Try.prog 28, m ∈ x.1.weights Try.prog 45) ∧ x_1n ≤ x_1c ∧ x_1c ≤ maxLen := by
  obtain ⟨n, xs, hx, hl, hf⟩ := trod_at Try.underlying45 h
  rw [cells45] at hl
  obtain ⟨y0, hy0, ht0⟩ := hf 0 _ rfl
  obtain ⟨y1, hy1, ht1⟩ := hf 1 _ rfl
  obtain ⟨c0, c1, rfl⟩ := list_2 hl
  replace ht0 : DataW.trod enc Try.prog W base spare held n 3 ((List.drop 0 [c0, c1]).take (Try.prog.cellsOf 3)) = some y0 := ht0
  rw [cells3] at ht0
  replace ht0 : DataW.trod enc Try.prog W base spare held n 3 [c0] = some y0 := ht0
  have hb0 := bulk_part hx hy0
  have hw0 := light_part Try.underlying45 (show _ = some _ from rfl : (_ : Array Field)[0]? = _) hx hy0
  replace ht1 : DataW.trod enc Try.prog W base spare held n 28 ((List.drop 1 [c0, c1]).take (Try.prog.cellsOf 28)) = some y1 := ht1
  rw [cells28] at ht1
  replace ht1 : DataW.trod enc Try.prog W base spare held n 28 [c1] = some y1 := ht1
  have hb1 := bulk_part hx hy1
  have hw1 := light_part Try.underlying45 (show _ = some _ from rfl : (_ : Array Field)[1]? = _) hx hy1
  obtain ⟨x_0, e0, _, w0⟩ := DataW.trod_int Try.underlying3 ht0
  cases e0
  obtain ⟨x_1, x_1n, x_1c, e1, q1, l1, m1⟩ := trod_sliceF Try.underlying28 ht1
  cases e1
  exact ⟨x_0, x_1, x_1n, x_1c, rfl, w0, ⟨_, _, q1, hb1, hw1⟩, l1, m1⟩
theorem cells78 : Try.prog.cellsOf 78 = 3 := by kernel_rfl
theorem cells51 : Try.prog.cellsOf 51 = 1 := by kernel_rfl
theorem dec78 {H : Type} {enc : TypeId × Value → H} {W : World} {base fuel : Nat} {spare : Nat → Bool} {held : Bool} {cs : List Value} {x : DataW H × List MemPlace} (h : DataW.trod enc Try.prog W base spare held fuel 78 cs = some x) :
    ∃ (x_0 : Int) (x_1 : Int) (x_2 : Option Addr) (x_2n x_2c : Nat), cs = [.int .i64 x_0, .int .i64 x_1, .slice x_2 x_2n x_2c] ∧ (Lit.int .i64 x_0).wf = true ∧ (Lit.int .i64 x_1).wf = true ∧ (∃ d ps, DataW.Trod enc Try.prog W base spare held 51 (.slice x_2 x_2n x_2c) d ps ∧ Rows.uptoBulk d + 1 ≤ Rows.uptoBulk x.1 ∧ ∀ m ∈ d.weights Try.prog 51, m ∈ x.1.weights Try.prog 78) ∧ x_2n ≤ x_2c ∧ x_2c ≤ maxLen := by
  obtain ⟨n, xs, hx, hl, hf⟩ := trod_at Try.underlying78 h
  rw [cells78] at hl
  obtain ⟨y0, hy0, ht0⟩ := hf 0 _ rfl
  obtain ⟨y1, hy1, ht1⟩ := hf 1 _ rfl
  obtain ⟨y2, hy2, ht2⟩ := hf 2 _ rfl
  obtain ⟨c0, c1, c2, rfl⟩ := list_3 hl
  replace ht0 : DataW.trod enc Try.prog W base spare held n 3 ((List.drop 0 [c0, c1, c2]).take (Try.prog.cellsOf 3)) = some y0 := ht0
  rw [cells3] at ht0
  replace ht0 : DataW.trod enc Try.prog W base spare held n 3 [c0] = some y0 := ht0
  have hb0 := bulk_part hx hy0
  have hw0 := light_part Try.underlying78 (show _ = some _ from rfl : (_ : Array Field)[0]? = _) hx hy0
  replace ht1 : DataW.trod enc Try.prog W base spare held n 3 ((List.drop 1 [c0, c1, c2]).take (Try.prog.cellsOf 3)) = some y1 := ht1
  rw [cells3] at ht1
  replace ht1 : DataW.trod enc Try.prog W base spare held n 3 [c1] = some y1 := ht1
  have hb1 := bulk_part hx hy1
  have hw1 := light_part Try.underlying78 (show _ = some _ from rfl : (_ : Array Field)[1]? = _) hx hy1
  replace ht2 : DataW.trod enc Try.prog W base spare held n 51 ((List.drop 2 [c0, c1, c2]).take (Try.prog.cellsOf 51)) = some y2 := ht2
  rw [cells51] at ht2
  replace ht2 : DataW.trod enc Try.prog W base spare held n 51 [c2] = some y2 := ht2
  have hb2 := bulk_part hx hy2
  have hw2 := light_part Try.underlying78 (show _ = some _ from rfl : (_ : Array Field)[2]? = _) hx hy2
  obtain ⟨x_0, e0, _, w0⟩ := DataW.trod_int Try.underlying3 ht0
  cases e0
  obtain ⟨x_1, e1, _, w1⟩ := DataW.trod_int Try.underlying3 ht1
  cases e1
  obtain ⟨x_2, x_2n, x_2c, e2, q2, l2, m2⟩ := trod_sliceF Try.underlying51 ht2
  cases e2
  exact ⟨x_0, x_1, x_2, x_2n, x_2c, rfl, w0, w1, ⟨_, _, q2, hb2, hw2⟩, l2, m2⟩
theorem list_1 {l : List Value} (h : l.length = 1) : ∃ c0, l = [c0] := by
  match l, h with
  | [c0], _ => exact ⟨c0, rfl⟩
theorem cells99 : Try.prog.cellsOf 99 = 1 := by kernel_rfl
theorem cells29 : Try.prog.cellsOf 29 = 1 := by kernel_rfl
theorem dec99 {H : Type} {enc : TypeId × Value → H} {W : World} {base fuel : Nat} {spare : Nat → Bool} {held : Bool} {cs : List Value} {x : DataW H × List MemPlace} (h : DataW.trod enc Try.prog W base spare held fuel 99 cs = some x) :
    ∃ (x_0 : Int), cs = [.int .i64 x_0] ∧ (Lit.int .i64 x_0).wf = true := by
  obtain ⟨n, xs, hx, hl, hf⟩ := trod_at Try.underlying99 h
  rw [cells99] at hl
  obtain ⟨y0, hy0, ht0⟩ := hf 0 _ rfl
  obtain ⟨c0, rfl⟩ := list_1 hl
  replace ht0 : DataW.trod enc Try.prog W base spare held n 29 ((List.drop 0 [c0]).take (Try.prog.cellsOf 29)) = some y0 := ht0
  rw [cells29] at ht0
  replace ht0 : DataW.trod enc Try.prog W base spare held n 29 [c0] = some y0 := ht0
  have hb0 := bulk_part hx hy0
  have hw0 := light_part Try.underlying99 (show _ = some _ from rfl : (_ : Array Field)[0]? = _) hx hy0
  obtain ⟨x_0, e0, _, w0⟩ := DataW.trod_int Try.underlying29 ht0
  cases e0
  exact ⟨x_0, rfl, w0⟩
theorem cells103 : Try.prog.cellsOf 103 = 1 := by kernel_rfl
theorem dec103 {H : Type} {enc : TypeId × Value → H} {W : World} {base fuel : Nat} {spare : Nat → Bool} {held : Bool} {cs : List Value} {x : DataW H × List MemPlace} (h : DataW.trod enc Try.prog W base spare held fuel 103 cs = some x) :
    ∃ (x_0 : Option Addr) (x_0n x_0c : Nat), cs = [.slice x_0 x_0n x_0c] ∧ (∃ d ps, DataW.Trod enc Try.prog W base spare held 28 (.slice x_0 x_0n x_0c) d ps ∧ Rows.uptoBulk d + 1 ≤ Rows.uptoBulk x.1 ∧ ∀ m ∈ d.weights Try.prog 28, m ∈ x.1.weights Try.prog 103) ∧ x_0n ≤ x_0c ∧ x_0c ≤ maxLen := by
  obtain ⟨n, xs, hx, hl, hf⟩ := trod_at Try.underlying103 h
  rw [cells103] at hl
  obtain ⟨y0, hy0, ht0⟩ := hf 0 _ rfl
  obtain ⟨c0, rfl⟩ := list_1 hl
  replace ht0 : DataW.trod enc Try.prog W base spare held n 28 ((List.drop 0 [c0]).take (Try.prog.cellsOf 28)) = some y0 := ht0
  rw [cells28] at ht0
  replace ht0 : DataW.trod enc Try.prog W base spare held n 28 [c0] = some y0 := ht0
  have hb0 := bulk_part hx hy0
  have hw0 := light_part Try.underlying103 (show _ = some _ from rfl : (_ : Array Field)[0]? = _) hx hy0
  obtain ⟨x_0, x_0n, x_0c, e0, q0, l0, m0⟩ := trod_sliceF Try.underlying28 ht0
  cases e0
  exact ⟨x_0, x_0n, x_0c, rfl, ⟨_, _, q0, hb0, hw0⟩, l0, m0⟩
theorem cells120 : Try.prog.cellsOf 120 = 2 := by kernel_rfl
theorem dec120 {H : Type} {enc : TypeId × Value → H} {W : World} {base fuel : Nat} {spare : Nat → Bool} {held : Bool} {cs : List Value} {x : DataW H × List MemPlace} (h : DataW.trod enc Try.prog W base spare held fuel 120 cs = some x) :
    ∃ (x_0 : Int) (x_1 : Option Addr) (x_1n x_1c : Nat), cs = [.int .i64 x_0, .slice x_1 x_1n x_1c] ∧ (Lit.int .i64 x_0).wf = true ∧ (∃ d ps, DataW.Trod enc Try.prog W base spare held 22 (.slice x_1 x_1n x_1c) d ps ∧ Rows.uptoBulk d + 1 ≤ Rows.uptoBulk x.1 ∧ ∀ m ∈ d.weights Try.prog 22, m ∈ x.1.weights Try.prog 120) ∧ x_1n ≤ x_1c ∧ x_1c ≤ maxLen := by
  obtain ⟨n, xs, hx, hl, hf⟩ := trod_at Try.underlying120 h
  rw [cells120] at hl
  obtain ⟨y0, hy0, ht0⟩ := hf 0 _ rfl
  obtain ⟨y1, hy1, ht1⟩ := hf 1 _ rfl
  obtain ⟨c0, c1, rfl⟩ := list_2 hl
  replace ht0 : DataW.trod enc Try.prog W base spare held n 3 ((List.drop 0 [c0, c1]).take (Try.prog.cellsOf 3)) = some y0 := ht0
  rw [cells3] at ht0
  replace ht0 : DataW.trod enc Try.prog W base spare held n 3 [c0] = some y0 := ht0
  have hb0 := bulk_part hx hy0
  have hw0 := light_part Try.underlying120 (show _ = some _ from rfl : (_ : Array Field)[0]? = _) hx hy0
  replace ht1 : DataW.trod enc Try.prog W base spare held n 22 ((List.drop 1 [c0, c1]).take (Try.prog.cellsOf 22)) = some y1 := ht1
  rw [cells22] at ht1
  replace ht1 : DataW.trod enc Try.prog W base spare held n 22 [c1] = some y1 := ht1
  have hb1 := bulk_part hx hy1
  have hw1 := light_part Try.underlying120 (show _ = some _ from rfl : (_ : Array Field)[1]? = _) hx hy1
  obtain ⟨x_0, e0, _, w0⟩ := DataW.trod_int Try.underlying3 ht0
  cases e0
  obtain ⟨x_1, x_1n, x_1c, e1, q1, l1, m1⟩ := trod_sliceF Try.underlying22 ht1
  cases e1
  exact ⟨x_0, x_1, x_1n, x_1c, rfl, w0, ⟨_, _, q1, hb1, hw1⟩, l1, m1⟩
-- 122: dec 122: pointer
theorem list_6 {l : List Value} (h : l.length = 6) : ∃ c0 c1 c2 c3 c4 c5, l = [c0, c1, c2, c3, c4, c5] := by
  match l, h with
  | [c0, c1, c2, c3, c4, c5], _ => exact ⟨c0, c1, c2, c3, c4, c5, rfl⟩
theorem cells129 : Try.prog.cellsOf 129 = 6 := by kernel_rfl
theorem cells55 : Try.prog.cellsOf 55 = 1 := by kernel_rfl
theorem dec129 {H : Type} {enc : TypeId × Value → H} {W : World} {base fuel : Nat} {spare : Nat → Bool} {held : Bool} {cs : List Value} {x : DataW H × List MemPlace} (h : DataW.trod enc Try.prog W base spare held fuel 129 cs = some x) :
    ∃ (x_0 : Option Addr) (x_0n x_0c : Nat) (x_1 : Bool) (x_2 : Bool) (x_3 : Int) (x_4 : Int) (x_5 : Int), cs = [.slice x_0 x_0n x_0c, .bool x_1, .bool x_2, .int .i64 x_3, .int .i64 x_4, .int .i64 x_5] ∧ (∃ d ps, DataW.Trod enc Try.prog W base spare held 55 (.slice x_0 x_0n x_0c) d ps ∧ Rows.uptoBulk d + 1 ≤ Rows.uptoBulk x.1 ∧ ∀ m ∈ d.weights Try.prog 55, m ∈ x.1.weights Try.prog 129) ∧ x_0n ≤ x_0c ∧ x_0c ≤ maxLen ∧ (Lit.int .i64 x_3).wf = true ∧ (Lit.int .i64 x_4).wf = true ∧ (Lit.int .i64 x_5).wf = true := by
  obtain ⟨n, xs, hx, hl, hf⟩ := trod_at Try.underlying129 h
  rw [cells129] at hl
  obtain ⟨y0, hy0, ht0⟩ := hf 0 _ rfl
  obtain ⟨y1, hy1, ht1⟩ := hf 1 _ rfl
  obtain ⟨y2, hy2, ht2⟩ := hf 2 _ rfl
  obtain ⟨y3, hy3, ht3⟩ := hf 3 _ rfl
  obtain ⟨y4, hy4, ht4⟩ := hf 4 _ rfl
  obtain ⟨y5, hy5, ht5⟩ := hf 5 _ rfl
  obtain ⟨c0, c1, c2, c3, c4, c5, rfl⟩ := list_6 hl
  replace ht0 : DataW.trod enc Try.prog W base spare held n 55 ((List.drop 0 [c0, c1, c2, c3, c4, c5]).take (Try.prog.cellsOf 55)) = some y0 := ht0
  rw [cells55] at ht0
  replace ht0 : DataW.trod enc Try.prog W base spare held n 55 [c0] = some y0 := ht0
  have hb0 := bulk_part hx hy0
  have hw0 := light_part Try.underlying129 (show _ = some _ from rfl : (_ : Array Field)[0]? = _) hx hy0
  replace ht1 : DataW.trod enc Try.prog W base spare held n 4 ((List.drop 1 [c0, c1, c2, c3, c4, c5]).take (Try.prog.cellsOf 4)) = some y1 := ht1
  rw [cells4] at ht1
  replace ht1 : DataW.trod enc Try.prog W base spare held n 4 [c1] = some y1 := ht1
  have hb1 := bulk_part hx hy1
  have hw1 := light_part Try.underlying129 (show _ = some _ from rfl : (_ : Array Field)[1]? = _) hx hy1
  replace ht2 : DataW.trod enc Try.prog W base spare held n 4 ((List.drop 2 [c0, c1, c2, c3, c4, c5]).take (Try.prog.cellsOf 4)) = some y2 := ht2
  rw [cells4] at ht2
  replace ht2 : DataW.trod enc Try.prog W base spare held n 4 [c2] = some y2 := ht2
  have hb2 := bulk_part hx hy2
  have hw2 := light_part Try.underlying129 (show _ = some _ from rfl : (_ : Array Field)[2]? = _) hx hy2
  replace ht3 : DataW.trod enc Try.prog W base spare held n 3 ((List.drop 3 [c0, c1, c2, c3, c4, c5]).take (Try.prog.cellsOf 3)) = some y3 := ht3
  rw [cells3] at ht3
  replace ht3 : DataW.trod enc Try.prog W base spare held n 3 [c3] = some y3 := ht3
  have hb3 := bulk_part hx hy3
  have hw3 := light_part Try.underlying129 (show _ = some _ from rfl : (_ : Array Field)[3]? = _) hx hy3
  replace ht4 : DataW.trod enc Try.prog W base spare held n 3 ((List.drop 4 [c0, c1, c2, c3, c4, c5]).take (Try.prog.cellsOf 3)) = some y4 := ht4
  rw [cells3] at ht4
  replace ht4 : DataW.trod enc Try.prog W base spare held n 3 [c4] = some y4 := ht4
  have hb4 := bulk_part hx hy4
  have hw4 := light_part Try.underlying129 (show _ = some _ from rfl : (_ : Array Field)[4]? = _) hx hy4
  replace ht5 : DataW.trod enc Try.prog W base spare held n 3 ((List.drop 5 [c0, c1, c2, c3, c4, c5]).take (Try.prog.cellsOf 3)) = some y5 := ht5
  rw [cells3] at ht5
  replace ht5 : DataW.trod enc Try.prog W base spare held n 3 [c5] = some y5 := ht5
  have hb5 := bulk_part hx hy5
  have hw5 := light_part Try.underlying129 (show _ = some _ from rfl : (_ : Array Field)[5]? = _) hx hy5
  obtain ⟨x_0, x_0n, x_0c, e0, q0, l0, m0⟩ := trod_sliceF Try.underlying55 ht0
  cases e0
  obtain ⟨x_1, e1, _⟩ := DataW.trod_bool Try.underlying4 ht1
  cases e1
  obtain ⟨x_2, e2, _⟩ := DataW.trod_bool Try.underlying4 ht2
  cases e2
  obtain ⟨x_3, e3, _, w3⟩ := DataW.trod_int Try.underlying3 ht3
  cases e3
  obtain ⟨x_4, e4, _, w4⟩ := DataW.trod_int Try.underlying3 ht4
  cases e4
  obtain ⟨x_5, e5, _, w5⟩ := DataW.trod_int Try.underlying3 ht5
  cases e5
  exact ⟨x_0, x_0n, x_0c, x_1, x_2, x_3, x_4, x_5, rfl, ⟨_, _, q0, hb0, hw0⟩, l0, m0, w3, w4, w5⟩
theorem list_5 {l : List Value} (h : l.length = 5) : ∃ c0 c1 c2 c3 c4, l = [c0, c1, c2, c3, c4] := by
  match l, h with
  | [c0, c1, c2, c3, c4], _ => exact ⟨c0, c1, c2, c3, c4, rfl⟩
theorem cells135 : Try.prog.cellsOf 135 = 5 := by kernel_rfl
theorem dec135 {H : Type} {enc : TypeId × Value → H} {W : World} {base fuel : Nat} {spare : Nat → Bool} {held : Bool} {cs : List Value} {x : DataW H × List MemPlace} (h : DataW.trod enc Try.prog W base spare held fuel 135 cs = some x) :
    ∃ (x_0 : Option Addr) (x_0n x_0c : Nat) (x_1 : Bool) (x_2 : Int) (x_3 : Int) (x_4 : Int), cs = [.slice x_0 x_0n x_0c, .bool x_1, .int .i64 x_2, .int .i64 x_3, .int .i64 x_4] ∧ (∃ d ps, DataW.Trod enc Try.prog W base spare held 55 (.slice x_0 x_0n x_0c) d ps ∧ Rows.uptoBulk d + 1 ≤ Rows.uptoBulk x.1 ∧ ∀ m ∈ d.weights Try.prog 55, m ∈ x.1.weights Try.prog 135) ∧ x_0n ≤ x_0c ∧ x_0c ≤ maxLen ∧ (Lit.int .i64 x_2).wf = true ∧ (Lit.int .i64 x_3).wf = true ∧ (Lit.int .i64 x_4).wf = true := by
  obtain ⟨n, xs, hx, hl, hf⟩ := trod_at Try.underlying135 h
  rw [cells135] at hl
  obtain ⟨y0, hy0, ht0⟩ := hf 0 _ rfl
  obtain ⟨y1, hy1, ht1⟩ := hf 1 _ rfl
  obtain ⟨y2, hy2, ht2⟩ := hf 2 _ rfl
  obtain ⟨y3, hy3, ht3⟩ := hf 3 _ rfl
  obtain ⟨y4, hy4, ht4⟩ := hf 4 _ rfl
  obtain ⟨c0, c1, c2, c3, c4, rfl⟩ := list_5 hl
  replace ht0 : DataW.trod enc Try.prog W base spare held n 55 ((List.drop 0 [c0, c1, c2, c3, c4]).take (Try.prog.cellsOf 55)) = some y0 := ht0
  rw [cells55] at ht0
  replace ht0 : DataW.trod enc Try.prog W base spare held n 55 [c0] = some y0 := ht0
  have hb0 := bulk_part hx hy0
  have hw0 := light_part Try.underlying135 (show _ = some _ from rfl : (_ : Array Field)[0]? = _) hx hy0
  replace ht1 : DataW.trod enc Try.prog W base spare held n 4 ((List.drop 1 [c0, c1, c2, c3, c4]).take (Try.prog.cellsOf 4)) = some y1 := ht1
  rw [cells4] at ht1
  replace ht1 : DataW.trod enc Try.prog W base spare held n 4 [c1] = some y1 := ht1
  have hb1 := bulk_part hx hy1
  have hw1 := light_part Try.underlying135 (show _ = some _ from rfl : (_ : Array Field)[1]? = _) hx hy1
  replace ht2 : DataW.trod enc Try.prog W base spare held n 3 ((List.drop 2 [c0, c1, c2, c3, c4]).take (Try.prog.cellsOf 3)) = some y2 := ht2
  rw [cells3] at ht2
  replace ht2 : DataW.trod enc Try.prog W base spare held n 3 [c2] = some y2 := ht2
  have hb2 := bulk_part hx hy2
  have hw2 := light_part Try.underlying135 (show _ = some _ from rfl : (_ : Array Field)[2]? = _) hx hy2
  replace ht3 : DataW.trod enc Try.prog W base spare held n 3 ((List.drop 3 [c0, c1, c2, c3, c4]).take (Try.prog.cellsOf 3)) = some y3 := ht3
  rw [cells3] at ht3
  replace ht3 : DataW.trod enc Try.prog W base spare held n 3 [c3] = some y3 := ht3
  have hb3 := bulk_part hx hy3
  have hw3 := light_part Try.underlying135 (show _ = some _ from rfl : (_ : Array Field)[3]? = _) hx hy3
  replace ht4 : DataW.trod enc Try.prog W base spare held n 3 ((List.drop 4 [c0, c1, c2, c3, c4]).take (Try.prog.cellsOf 3)) = some y4 := ht4
  rw [cells3] at ht4
  replace ht4 : DataW.trod enc Try.prog W base spare held n 3 [c4] = some y4 := ht4
  have hb4 := bulk_part hx hy4
  have hw4 := light_part Try.underlying135 (show _ = some _ from rfl : (_ : Array Field)[4]? = _) hx hy4
  obtain ⟨x_0, x_0n, x_0c, e0, q0, l0, m0⟩ := trod_sliceF Try.underlying55 ht0
  cases e0
  obtain ⟨x_1, e1, _⟩ := DataW.trod_bool Try.underlying4 ht1
  cases e1
  obtain ⟨x_2, e2, _, w2⟩ := DataW.trod_int Try.underlying3 ht2
  cases e2
  obtain ⟨x_3, e3, _, w3⟩ := DataW.trod_int Try.underlying3 ht3
  cases e3
  obtain ⟨x_4, e4, _, w4⟩ := DataW.trod_int Try.underlying3 ht4
  cases e4
  exact ⟨x_0, x_0n, x_0c, x_1, x_2, x_3, x_4, rfl, ⟨_, _, q0, hb0, hw0⟩, l0, m0, w2, w3, w4⟩
-- 138: dec 138: pointer
end Go.Proofs.Ytipkfdeiallifaa.Lg
