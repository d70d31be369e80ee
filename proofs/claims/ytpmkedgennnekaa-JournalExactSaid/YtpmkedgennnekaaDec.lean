/-
  How structs are read, cell by cell. By program (gen/dec.py).
-/
import Derived.Test.YtpmkedgennnekaaRw
import Derived.Test.YtpmkedgennnekaaTy
import Derived.KernelRfl
set_option linter.unusedVariables false
set_option linter.unusedSimpArgs false
namespace Go.Proofs.Ytpmkedgennnekaa.Lg
open Go Go.RowKit Go.ChangeShapes Go.WideShapes Go.Deep
theorem list_2 {l : List Value} (h : l.length = 2) : ∃ c0 c1, l = [c0, c1] := by
  match l, h with
  | [c0, c1], _ => exact ⟨c0, c1, rfl⟩
theorem cells33 : Try.prog.cellsOf 33 = 2 := by kernel_rfl
theorem cells3 : Try.prog.cellsOf 3 = 1 := by kernel_rfl
theorem cells31 : Try.prog.cellsOf 31 = 1 := by kernel_rfl
theorem dec33 {H : Type} {enc : TypeId × Value → H} {W : World} {base fuel : Nat} {spare : Nat → Bool} {held : Bool} {cs : List Value} {x : DataW H × List MemPlace} (h : DataW.trod enc Try.prog W base spare held fuel 33 cs = some x) :
    ∃ (x_0 : Int) (x_1 : Option Addr) (x_1n x_1c : Nat), cs = [.int .i64 x_0, .slice x_1 x_1n x_1c] ∧ (Lit.int .i64 x_0).wf = true ∧ (∃ d ps, DataW.Trod enc Try.prog W base spare held 31 (.slice x_1 x_1n x_1c) d ps ∧ Rows.uptoBulk d + 1 ≤ Rows.uptoBulk x.1 ∧ ∀ m ∈ d.weights Try.prog 31, m ∈ x.1.weights Try.prog 33) ∧ x_1n ≤ x_1c ∧ x_1c ≤ maxLen := by
  obtain ⟨n, xs, hx, hl, hf⟩ := trod_at Try.underlying33 h
  rw [cells33] at hl
  obtain ⟨y0, hy0, ht0⟩ := hf 0 _ rfl
  obtain ⟨y1, hy1, ht1⟩ := hf 1 _ rfl
  obtain ⟨c0, c1, rfl⟩ := list_2 hl
  replace ht0 : DataW.trod enc Try.prog W base spare held n 3 ((List.drop 0 [c0, c1]).take (Try.prog.cellsOf 3)) = some y0 := ht0
  rw [cells3] at ht0
  replace ht0 : DataW.trod enc Try.prog W base spare held n 3 [c0] = some y0 := ht0
  have hb0 := bulk_part hx hy0
  have hw0 := light_part Try.underlying33 (show _ = some _ from rfl : (_ : Array Field)[0]? = _) hx hy0
  replace ht1 : DataW.trod enc Try.prog W base spare held n 31 ((List.drop 1 [c0, c1]).take (Try.prog.cellsOf 31)) = some y1 := ht1
  rw [cells31] at ht1
  replace ht1 : DataW.trod enc Try.prog W base spare held n 31 [c1] = some y1 := ht1
  have hb1 := bulk_part hx hy1
  have hw1 := light_part Try.underlying33 (show _ = some _ from rfl : (_ : Array Field)[1]? = _) hx hy1
  obtain ⟨x_0, e0, _, w0⟩ := DataW.trod_int Try.underlying3 ht0
  cases e0
  obtain ⟨x_1, x_1n, x_1c, e1, q1, l1, m1⟩ := trod_sliceF Try.underlying31 ht1
  cases e1
  exact ⟨x_0, x_1, x_1n, x_1c, rfl, w0, ⟨_, _, q1, hb1, hw1⟩, l1, m1⟩
theorem list_4 {l : List Value} (h : l.length = 4) : ∃ c0 c1 c2 c3, l = [c0, c1, c2, c3] := by
  match l, h with
  | [c0, c1, c2, c3], _ => exact ⟨c0, c1, c2, c3, rfl⟩
theorem cells54 : Try.prog.cellsOf 54 = 4 := by kernel_rfl
theorem dec54 {H : Type} {enc : TypeId × Value → H} {W : World} {base fuel : Nat} {spare : Nat → Bool} {held : Bool} {cs : List Value} {x : DataW H × List MemPlace} (h : DataW.trod enc Try.prog W base spare held fuel 54 cs = some x) :
    ∃ (x_0 : Int) (x_1 : Int) (x_2 : Int) (x_3 : Option Addr) (x_3n x_3c : Nat), cs = [.int .i64 x_0, .int .i64 x_1, .int .i64 x_2, .slice x_3 x_3n x_3c] ∧ (Lit.int .i64 x_0).wf = true ∧ (Lit.int .i64 x_1).wf = true ∧ (Lit.int .i64 x_2).wf = true ∧ (∃ d ps, DataW.Trod enc Try.prog W base spare held 31 (.slice x_3 x_3n x_3c) d ps ∧ Rows.uptoBulk d + 1 ≤ Rows.uptoBulk x.1 ∧ ∀ m ∈ d.weights Try.prog 31, m ∈ x.1.weights Try.prog 54) ∧ x_3n ≤ x_3c ∧ x_3c ≤ maxLen := by
  obtain ⟨n, xs, hx, hl, hf⟩ := trod_at Try.underlying54 h
  rw [cells54] at hl
  obtain ⟨y0, hy0, ht0⟩ := hf 0 _ rfl
  obtain ⟨y1, hy1, ht1⟩ := hf 1 _ rfl
  obtain ⟨y2, hy2, ht2⟩ := hf 2 _ rfl
  obtain ⟨y3, hy3, ht3⟩ := hf 3 _ rfl
  obtain ⟨c0, c1, c2, c3, rfl⟩ := list_4 hl
  replace ht0 : DataW.trod enc Try.prog W base spare held n 3 ((List.drop 0 [c0, c1, c2, c3]).take (Try.prog.cellsOf 3)) = some y0 := ht0
  rw [cells3] at ht0
  replace ht0 : DataW.trod enc Try.prog W base spare held n 3 [c0] = some y0 := ht0
  have hb0 := bulk_part hx hy0
  have hw0 := light_part Try.underlying54 (show _ = some _ from rfl : (_ : Array Field)[0]? = _) hx hy0
  replace ht1 : DataW.trod enc Try.prog W base spare held n 3 ((List.drop 1 [c0, c1, c2, c3]).take (Try.prog.cellsOf 3)) = some y1 := ht1
  rw [cells3] at ht1
  replace ht1 : DataW.trod enc Try.prog W base spare held n 3 [c1] = some y1 := ht1
  have hb1 := bulk_part hx hy1
  have hw1 := light_part Try.underlying54 (show _ = some _ from rfl : (_ : Array Field)[1]? = _) hx hy1
  replace ht2 : DataW.trod enc Try.prog W base spare held n 3 ((List.drop 2 [c0, c1, c2, c3]).take (Try.prog.cellsOf 3)) = some y2 := ht2
  rw [cells3] at ht2
  replace ht2 : DataW.trod enc Try.prog W base spare held n 3 [c2] = some y2 := ht2
  have hb2 := bulk_part hx hy2
  have hw2 := light_part Try.underlying54 (show _ = some _ from rfl : (_ : Array Field)[2]? = _) hx hy2
  replace ht3 : DataW.trod enc Try.prog W base spare held n 31 ((List.drop 3 [c0, c1, c2, c3]).take (Try.prog.cellsOf 31)) = some y3 := ht3
  rw [cells31] at ht3
  replace ht3 : DataW.trod enc Try.prog W base spare held n 31 [c3] = some y3 := ht3
  have hb3 := bulk_part hx hy3
  have hw3 := light_part Try.underlying54 (show _ = some _ from rfl : (_ : Array Field)[3]? = _) hx hy3
  obtain ⟨x_0, e0, _, w0⟩ := DataW.trod_int Try.underlying3 ht0
  cases e0
  obtain ⟨x_1, e1, _, w1⟩ := DataW.trod_int Try.underlying3 ht1
  cases e1
  obtain ⟨x_2, e2, _, w2⟩ := DataW.trod_int Try.underlying3 ht2
  cases e2
  obtain ⟨x_3, x_3n, x_3c, e3, q3, l3, m3⟩ := trod_sliceF Try.underlying31 ht3
  cases e3
  exact ⟨x_0, x_1, x_2, x_3, x_3n, x_3c, rfl, w0, w1, w2, ⟨_, _, q3, hb3, hw3⟩, l3, m3⟩
theorem list_3 {l : List Value} (h : l.length = 3) : ∃ c0 c1 c2, l = [c0, c1, c2] := by
  match l, h with
  | [c0, c1, c2], _ => exact ⟨c0, c1, c2, rfl⟩
theorem cells64 : Try.prog.cellsOf 64 = 3 := by kernel_rfl
theorem cells62 : Try.prog.cellsOf 62 = 1 := by kernel_rfl
theorem dec64 {H : Type} {enc : TypeId × Value → H} {W : World} {base fuel : Nat} {spare : Nat → Bool} {held : Bool} {cs : List Value} {x : DataW H × List MemPlace} (h : DataW.trod enc Try.prog W base spare held fuel 64 cs = some x) :
    ∃ (x_0 : Int) (x_1 : Option Addr) (x_1n x_1c : Nat) (x_2 : Option Addr) (x_2n x_2c : Nat), cs = [.int .i64 x_0, .slice x_1 x_1n x_1c, .slice x_2 x_2n x_2c] ∧ (Lit.int .i64 x_0).wf = true ∧ (∃ d ps, DataW.Trod enc Try.prog W base spare held 62 (.slice x_1 x_1n x_1c) d ps ∧ Rows.uptoBulk d + 1 ≤ Rows.uptoBulk x.1 ∧ ∀ m ∈ d.weights Try.prog 62, m ∈ x.1.weights Try.prog 64) ∧ x_1n ≤ x_1c ∧ x_1c ≤ maxLen ∧ (∃ d ps, DataW.Trod enc Try.prog W base spare held 62 (.slice x_2 x_2n x_2c) d ps ∧ Rows.uptoBulk d + 1 ≤ Rows.uptoBulk x.1 ∧ ∀ m ∈ d.weights Try.prog 62, m ∈ x.1.weights Try.prog 64) ∧ x_2n ≤ x_2c ∧ x_2c ≤ maxLen := by
  obtain ⟨n, xs, hx, hl, hf⟩ := trod_at Try.underlying64 h
  rw [cells64] at hl
  obtain ⟨y0, hy0, ht0⟩ := hf 0 _ rfl
  obtain ⟨y1, hy1, ht1⟩ := hf 1 _ rfl
  obtain ⟨y2, hy2, ht2⟩ := hf 2 _ rfl
  obtain ⟨c0, c1, c2, rfl⟩ := list_3 hl
  replace ht0 : DataW.trod enc Try.prog W base spare held n 3 ((List.drop 0 [c0, c1, c2]).take (Try.prog.cellsOf 3)) = some y0 := ht0
  rw [cells3] at ht0
  replace ht0 : DataW.trod enc Try.prog W base spare held n 3 [c0] = some y0 := ht0
  have hb0 := bulk_part hx hy0
  have hw0 := light_part Try.underlying64 (show _ = some _ from rfl : (_ : Array Field)[0]? = _) hx hy0
  replace ht1 : DataW.trod enc Try.prog W base spare held n 62 ((List.drop 1 [c0, c1, c2]).take (Try.prog.cellsOf 62)) = some y1 := ht1
  rw [cells62] at ht1
  replace ht1 : DataW.trod enc Try.prog W base spare held n 62 [c1] = some y1 := ht1
  have hb1 := bulk_part hx hy1
  have hw1 := light_part Try.underlying64 (show _ = some _ from rfl : (_ : Array Field)[1]? = _) hx hy1
  replace ht2 : DataW.trod enc Try.prog W base spare held n 62 ((List.drop 2 [c0, c1, c2]).take (Try.prog.cellsOf 62)) = some y2 := ht2
  rw [cells62] at ht2
  replace ht2 : DataW.trod enc Try.prog W base spare held n 62 [c2] = some y2 := ht2
  have hb2 := bulk_part hx hy2
  have hw2 := light_part Try.underlying64 (show _ = some _ from rfl : (_ : Array Field)[2]? = _) hx hy2
  obtain ⟨x_0, e0, _, w0⟩ := DataW.trod_int Try.underlying3 ht0
  cases e0
  obtain ⟨x_1, x_1n, x_1c, e1, q1, l1, m1⟩ := trod_sliceF Try.underlying62 ht1
  cases e1
  obtain ⟨x_2, x_2n, x_2c, e2, q2, l2, m2⟩ := trod_sliceF Try.underlying62 ht2
  cases e2
  exact ⟨x_0, x_1, x_1n, x_1c, x_2, x_2n, x_2c, rfl, w0, ⟨_, _, q1, hb1, hw1⟩, l1, m1, ⟨_, _, q2, hb2, hw2⟩, l2, m2⟩
theorem cells66 : Try.prog.cellsOf 66 = 4 := by kernel_rfl
theorem dec66 {H : Type} {enc : TypeId × Value → H} {W : World} {base fuel : Nat} {spare : Nat → Bool} {held : Bool} {cs : List Value} {x : DataW H × List MemPlace} (h : DataW.trod enc Try.prog W base spare held fuel 66 cs = some x) :
    ∃ (x_0_0 : Int) (x_0_1 : Option Addr) (x_0_1n x_0_1c : Nat) (x_0_2 : Option Addr) (x_0_2n x_0_2c : Nat) (x_1 : Int), cs = [.int .i64 x_0_0, .slice x_0_1 x_0_1n x_0_1c, .slice x_0_2 x_0_2n x_0_2c, .int .i64 x_1] ∧ (Lit.int .i64 x_0_0).wf = true ∧ (∃ d ps, DataW.Trod enc Try.prog W base spare held 62 (.slice x_0_1 x_0_1n x_0_1c) d ps ∧ Rows.uptoBulk d + 1 ≤ Rows.uptoBulk x.1 ∧ ∀ m ∈ d.weights Try.prog 62, m ∈ x.1.weights Try.prog 66) ∧ x_0_1n ≤ x_0_1c ∧ x_0_1c ≤ maxLen ∧ (∃ d ps, DataW.Trod enc Try.prog W base spare held 62 (.slice x_0_2 x_0_2n x_0_2c) d ps ∧ Rows.uptoBulk d + 1 ≤ Rows.uptoBulk x.1 ∧ ∀ m ∈ d.weights Try.prog 62, m ∈ x.1.weights Try.prog 66) ∧ x_0_2n ≤ x_0_2c ∧ x_0_2c ≤ maxLen ∧ (Lit.int .i64 x_1).wf = true := by
  obtain ⟨n, xs, hx, hl, hf⟩ := trod_at Try.underlying66 h
  rw [cells66] at hl
  obtain ⟨y0, hy0, ht0⟩ := hf 0 _ rfl
  obtain ⟨y1, hy1, ht1⟩ := hf 1 _ rfl
  obtain ⟨c0, c1, c2, c3, rfl⟩ := list_4 hl
  replace ht0 : DataW.trod enc Try.prog W base spare held n 64 ((List.drop 0 [c0, c1, c2, c3]).take (Try.prog.cellsOf 64)) = some y0 := ht0
  rw [cells64] at ht0
  replace ht0 : DataW.trod enc Try.prog W base spare held n 64 [c0, c1, c2] = some y0 := ht0
  have hb0 := bulk_part hx hy0
  have hw0 := light_part Try.underlying66 (show _ = some _ from rfl : (_ : Array Field)[0]? = _) hx hy0
  replace ht1 : DataW.trod enc Try.prog W base spare held n 3 ((List.drop 3 [c0, c1, c2, c3]).take (Try.prog.cellsOf 3)) = some y1 := ht1
  rw [cells3] at ht1
  replace ht1 : DataW.trod enc Try.prog W base spare held n 3 [c3] = some y1 := ht1
  have hb1 := bulk_part hx hy1
  have hw1 := light_part Try.underlying66 (show _ = some _ from rfl : (_ : Array Field)[1]? = _) hx hy1
  obtain ⟨x_0_0, x_0_1, x_0_1n, x_0_1c, x_0_2, x_0_2n, x_0_2c, e0, g0_0, g0_1, g0_2, g0_3, g0_4, g0_5, g0_6⟩ := dec64 ht0
  cases e0
  obtain ⟨x_1, e1, _, w1⟩ := DataW.trod_int Try.underlying3 ht1
  cases e1
  exact ⟨x_0_0, x_0_1, x_0_1n, x_0_1c, x_0_2, x_0_2n, x_0_2c, x_1, rfl, g0_0, (let ⟨d, ps, h1, h2, h3⟩ := g0_1; ⟨d, ps, h1, by omega, fun m hm => hw0 m (h3 m hm)⟩), g0_2, g0_3, (let ⟨d, ps, h1, h2, h3⟩ := g0_4; ⟨d, ps, h1, by omega, fun m hm => hw0 m (h3 m hm)⟩), g0_5, g0_6, w1⟩
theorem list_5 {l : List Value} (h : l.length = 5) : ∃ c0 c1 c2 c3 c4, l = [c0, c1, c2, c3, c4] := by
  match l, h with
  | [c0, c1, c2, c3, c4], _ => exact ⟨c0, c1, c2, c3, c4, rfl⟩
theorem cells70 : Try.prog.cellsOf 70 = 5 := by kernel_rfl
theorem cells4 : Try.prog.cellsOf 4 = 1 := by kernel_rfl
theorem dec70 {H : Type} {enc : TypeId × Value → H} {W : World} {base fuel : Nat} {spare : Nat → Bool} {held : Bool} {cs : List Value} {x : DataW H × List MemPlace} (h : DataW.trod enc Try.prog W base spare held fuel 70 cs = some x) :
    ∃ (x_0 : Option Addr) (x_0n x_0c : Nat) (x_1 : Int) (x_2 : Bool) (x_3 : Bool) (x_4 : Int), cs = [.slice x_0 x_0n x_0c, .int .i64 x_1, .bool x_2, .bool x_3, .int .i64 x_4] ∧ (∃ d ps, DataW.Trod enc Try.prog W base spare held 62 (.slice x_0 x_0n x_0c) d ps ∧ Rows.uptoBulk d + 1 ≤ Rows.uptoBulk x.1 ∧ ∀ m ∈ d.weights Try.prog 62, m ∈ x.1.weights Try.prog 70) ∧ x_0n ≤ x_0c ∧ x_0c ≤ maxLen ∧ (Lit.int .i64 x_1).wf = true ∧ (Lit.int .i64 x_4).wf = true := by
  obtain ⟨n, xs, hx, hl, hf⟩ := trod_at Try.underlying70 h
  rw [cells70] at hl
  obtain ⟨y0, hy0, ht0⟩ := hf 0 _ rfl
  obtain ⟨y1, hy1, ht1⟩ := hf 1 _ rfl
  obtain ⟨y2, hy2, ht2⟩ := hf 2 _ rfl
  obtain ⟨y3, hy3, ht3⟩ := hf 3 _ rfl
  obtain ⟨y4, hy4, ht4⟩ := hf 4 _ rfl
  obtain ⟨c0, c1, c2, c3, c4, rfl⟩ := list_5 hl
  replace ht0 : DataW.trod enc Try.prog W base spare held n 62 ((List.drop 0 [c0, c1, c2, c3, c4]).take (Try.prog.cellsOf 62)) = some y0 := ht0
  rw [cells62] at ht0
  replace ht0 : DataW.trod enc Try.prog W base spare held n 62 [c0] = some y0 := ht0
  have hb0 := bulk_part hx hy0
  have hw0 := light_part Try.underlying70 (show _ = some _ from rfl : (_ : Array Field)[0]? = _) hx hy0
  replace ht1 : DataW.trod enc Try.prog W base spare held n 3 ((List.drop 1 [c0, c1, c2, c3, c4]).take (Try.prog.cellsOf 3)) = some y1 := ht1
  rw [cells3] at ht1
  replace ht1 : DataW.trod enc Try.prog W base spare held n 3 [c1] = some y1 := ht1
  have hb1 := bulk_part hx hy1
  have hw1 := light_part Try.underlying70 (show _ = some _ from rfl : (_ : Array Field)[1]? = _) hx hy1
  replace ht2 : DataW.trod enc Try.prog W base spare held n 4 ((List.drop 2 [c0, c1, c2, c3, c4]).take (Try.prog.cellsOf 4)) = some y2 := ht2
  rw [cells4] at ht2
  replace ht2 : DataW.trod enc Try.prog W base spare held n 4 [c2] = some y2 := ht2
  have hb2 := bulk_part hx hy2
  have hw2 := light_part Try.underlying70 (show _ = some _ from rfl : (_ : Array Field)[2]? = _) hx hy2
  replace ht3 : DataW.trod enc Try.prog W base spare held n 4 ((List.drop 3 [c0, c1, c2, c3, c4]).take (Try.prog.cellsOf 4)) = some y3 := ht3
  rw [cells4] at ht3
  replace ht3 : DataW.trod enc Try.prog W base spare held n 4 [c3] = some y3 := ht3
  have hb3 := bulk_part hx hy3
  have hw3 := light_part Try.underlying70 (show _ = some _ from rfl : (_ : Array Field)[3]? = _) hx hy3
  replace ht4 : DataW.trod enc Try.prog W base spare held n 3 ((List.drop 4 [c0, c1, c2, c3, c4]).take (Try.prog.cellsOf 3)) = some y4 := ht4
  rw [cells3] at ht4
  replace ht4 : DataW.trod enc Try.prog W base spare held n 3 [c4] = some y4 := ht4
  have hb4 := bulk_part hx hy4
  have hw4 := light_part Try.underlying70 (show _ = some _ from rfl : (_ : Array Field)[4]? = _) hx hy4
  obtain ⟨x_0, x_0n, x_0c, e0, q0, l0, m0⟩ := trod_sliceF Try.underlying62 ht0
  cases e0
  obtain ⟨x_1, e1, _, w1⟩ := DataW.trod_int Try.underlying3 ht1
  cases e1
  obtain ⟨x_2, e2, _⟩ := DataW.trod_bool Try.underlying4 ht2
  cases e2
  obtain ⟨x_3, e3, _⟩ := DataW.trod_bool Try.underlying4 ht3
  cases e3
  obtain ⟨x_4, e4, _, w4⟩ := DataW.trod_int Try.underlying3 ht4
  cases e4
  exact ⟨x_0, x_0n, x_0c, x_1, x_2, x_3, x_4, rfl, ⟨_, _, q0, hb0, hw0⟩, l0, m0, w1, w4⟩
theorem list_6 {l : List Value} (h : l.length = 6) : ∃ c0 c1 c2 c3 c4 c5, l = [c0, c1, c2, c3, c4, c5] := by
  match l, h with
  | [c0, c1, c2, c3, c4, c5], _ => exact ⟨c0, c1, c2, c3, c4, c5, rfl⟩
theorem cells80 : Try.prog.cellsOf 80 = 6 := by kernel_rfl
theorem dec80 {H : Type} {enc : TypeId × Value → H} {W : World} {base fuel : Nat} {spare : Nat → Bool} {held : Bool} {cs : List Value} {x : DataW H × List MemPlace} (h : DataW.trod enc Try.prog W base spare held fuel 80 cs = some x) :
    ∃ (x_0 : Int) (x_1 : Int) (x_2_0_0 : Int) (x_2_0_1 : Option Addr) (x_2_0_1n x_2_0_1c : Nat) (x_2_0_2 : Option Addr) (x_2_0_2n x_2_0_2c : Nat) (x_2_1 : Int), cs = [.int .i64 x_0, .int .i64 x_1, .int .i64 x_2_0_0, .slice x_2_0_1 x_2_0_1n x_2_0_1c, .slice x_2_0_2 x_2_0_2n x_2_0_2c, .int .i64 x_2_1] ∧ (Lit.int .i64 x_0).wf = true ∧ (Lit.int .i64 x_1).wf = true ∧ (Lit.int .i64 x_2_0_0).wf = true ∧ (∃ d ps, DataW.Trod enc Try.prog W base spare held 62 (.slice x_2_0_1 x_2_0_1n x_2_0_1c) d ps ∧ Rows.uptoBulk d + 1 ≤ Rows.uptoBulk x.1 ∧ ∀ m ∈ d.weights Try.prog 62, m ∈ x.1.weights Try.prog 80) ∧ x_2_0_1n ≤ x_2_0_1c ∧ x_2_0_1c ≤ maxLen ∧ (∃ d ps, DataW.Trod enc Try.prog W base spare held 62 (.slice x_2_0_2 x_2_0_2n x_2_0_2c) d ps ∧ Rows.uptoBulk d + 1 ≤ Rows.uptoBulk x.1 ∧ ∀ m ∈ d.weights Try.prog 62, m ∈ x.1.weights Try.prog 80) ∧ x_2_0_2n ≤ x_2_0_2c ∧ x_2_0_2c ≤ maxLen ∧ (Lit.int .i64 x_2_1).wf = true := by
  obtain ⟨n, xs, hx, hl, hf⟩ := trod_at Try.underlying80 h
  rw [cells80] at hl
  obtain ⟨y0, hy0, ht0⟩ := hf 0 _ rfl
  obtain ⟨y1, hy1, ht1⟩ := hf 1 _ rfl
  obtain ⟨y2, hy2, ht2⟩ := hf 2 _ rfl
  obtain ⟨c0, c1, c2, c3, c4, c5, rfl⟩ := list_6 hl
  replace ht0 : DataW.trod enc Try.prog W base spare held n 3 ((List.drop 0 [c0, c1, c2, c3, c4, c5]).take (Try.prog.cellsOf 3)) = some y0 := ht0
  rw [cells3] at ht0
  replace ht0 : DataW.trod enc Try.prog W base spare held n 3 [c0] = some y0 := ht0
  have hb0 := bulk_part hx hy0
  have hw0 := light_part Try.underlying80 (show _ = some _ from rfl : (_ : Array Field)[0]? = _) hx hy0
  replace ht1 : DataW.trod enc Try.prog W base spare held n 3 ((List.drop 1 [c0, c1, c2, c3, c4, c5]).take (Try.prog.cellsOf 3)) = some y1 := ht1
  rw [cells3] at ht1
  replace ht1 : DataW.trod enc Try.prog W base spare held n 3 [c1] = some y1 := ht1
  have hb1 := bulk_part hx hy1
  have hw1 := light_part Try.underlying80 (show _ = some _ from rfl : (_ : Array Field)[1]? = _) hx hy1
  replace ht2 : DataW.trod enc Try.prog W base spare held n 66 ((List.drop 2 [c0, c1, c2, c3, c4, c5]).take (Try.prog.cellsOf 66)) = some y2 := ht2
  rw [cells66] at ht2
  replace ht2 : DataW.trod enc Try.prog W base spare held n 66 [c2, c3, c4, c5] = some y2 := ht2
  have hb2 := bulk_part hx hy2
  have hw2 := light_part Try.underlying80 (show _ = some _ from rfl : (_ : Array Field)[2]? = _) hx hy2
  obtain ⟨x_0, e0, _, w0⟩ := DataW.trod_int Try.underlying3 ht0
  cases e0
  obtain ⟨x_1, e1, _, w1⟩ := DataW.trod_int Try.underlying3 ht1
  cases e1
  obtain ⟨x_2_0_0, x_2_0_1, x_2_0_1n, x_2_0_1c, x_2_0_2, x_2_0_2n, x_2_0_2c, x_2_1, e2, g2_0, g2_1, g2_2, g2_3, g2_4, g2_5, g2_6, g2_7⟩ := dec66 ht2
  cases e2
  exact ⟨x_0, x_1, x_2_0_0, x_2_0_1, x_2_0_1n, x_2_0_1c, x_2_0_2, x_2_0_2n, x_2_0_2c, x_2_1, rfl, w0, w1, g2_0, (let ⟨d, ps, h1, h2, h3⟩ := g2_1; ⟨d, ps, h1, by omega, fun m hm => hw2 m (h3 m hm)⟩), g2_2, g2_3, (let ⟨d, ps, h1, h2, h3⟩ := g2_4; ⟨d, ps, h1, by omega, fun m hm => hw2 m (h3 m hm)⟩), g2_5, g2_6, g2_7⟩
theorem cells85 : Try.prog.cellsOf 85 = 6 := by kernel_rfl
theorem cells28 : Try.prog.cellsOf 28 = 1 := by kernel_rfl
theorem dec85 {H : Type} {enc : TypeId × Value → H} {W : World} {base fuel : Nat} {spare : Nat → Bool} {held : Bool} {cs : List Value} {x : DataW H × List MemPlace} (h : DataW.trod enc Try.prog W base spare held fuel 85 cs = some x) :
    ∃ (x_0 : Option Addr) (x_0n x_0c : Nat) (x_1 : Bool) (x_2 : Bool) (x_3 : Int) (x_4 : Int) (x_5 : Int), cs = [.slice x_0 x_0n x_0c, .bool x_1, .bool x_2, .int .i64 x_3, .int .i64 x_4, .int .i64 x_5] ∧ (∃ d ps, DataW.Trod enc Try.prog W base spare held 28 (.slice x_0 x_0n x_0c) d ps ∧ Rows.uptoBulk d + 1 ≤ Rows.uptoBulk x.1 ∧ ∀ m ∈ d.weights Try.prog 28, m ∈ x.1.weights Try.prog 85) ∧ x_0n ≤ x_0c ∧ x_0c ≤ maxLen ∧ (Lit.int .i64 x_3).wf = true ∧ (Lit.int .i64 x_4).wf = true ∧ (Lit.int .i64 x_5).wf = true := by
  obtain ⟨n, xs, hx, hl, hf⟩ := trod_at Try.underlying85 h
  rw [cells85] at hl
  obtain ⟨y0, hy0, ht0⟩ := hf 0 _ rfl
  obtain ⟨y1, hy1, ht1⟩ := hf 1 _ rfl
  obtain ⟨y2, hy2, ht2⟩ := hf 2 _ rfl
  obtain ⟨y3, hy3, ht3⟩ := hf 3 _ rfl
  obtain ⟨y4, hy4, ht4⟩ := hf 4 _ rfl
  obtain ⟨y5, hy5, ht5⟩ := hf 5 _ rfl
  obtain ⟨c0, c1, c2, c3, c4, c5, rfl⟩ := list_6 hl
  replace ht0 : DataW.trod enc Try.prog W base spare held n 28 ((List.drop 0 [c0, c1, c2, c3, c4, c5]).take (Try.prog.cellsOf 28)) = some y0 := ht0
  rw [cells28] at ht0
  replace ht0 : DataW.trod enc Try.prog W base spare held n 28 [c0] = some y0 := ht0
  have hb0 := bulk_part hx hy0
  have hw0 := light_part Try.underlying85 (show _ = some _ from rfl : (_ : Array Field)[0]? = _) hx hy0
  replace ht1 : DataW.trod enc Try.prog W base spare held n 4 ((List.drop 1 [c0, c1, c2, c3, c4, c5]).take (Try.prog.cellsOf 4)) = some y1 := ht1
  rw [cells4] at ht1
  replace ht1 : DataW.trod enc Try.prog W base spare held n 4 [c1] = some y1 := ht1
  have hb1 := bulk_part hx hy1
  have hw1 := light_part Try.underlying85 (show _ = some _ from rfl : (_ : Array Field)[1]? = _) hx hy1
  replace ht2 : DataW.trod enc Try.prog W base spare held n 4 ((List.drop 2 [c0, c1, c2, c3, c4, c5]).take (Try.prog.cellsOf 4)) = some y2 := ht2
  rw [cells4] at ht2
  replace ht2 : DataW.trod enc Try.prog W base spare held n 4 [c2] = some y2 := ht2
  have hb2 := bulk_part hx hy2
  have hw2 := light_part Try.underlying85 (show _ = some _ from rfl : (_ : Array Field)[2]? = _) hx hy2
  replace ht3 : DataW.trod enc Try.prog W base spare held n 3 ((List.drop 3 [c0, c1, c2, c3, c4, c5]).take (Try.prog.cellsOf 3)) = some y3 := ht3
  rw [cells3] at ht3
  replace ht3 : DataW.trod enc Try.prog W base spare held n 3 [c3] = some y3 := ht3
  have hb3 := bulk_part hx hy3
  have hw3 := light_part Try.underlying85 (show _ = some _ from rfl : (_ : Array Field)[3]? = _) hx hy3
  replace ht4 : DataW.trod enc Try.prog W base spare held n 3 ((List.drop 4 [c0, c1, c2, c3, c4, c5]).take (Try.prog.cellsOf 3)) = some y4 := ht4
  rw [cells3] at ht4
  replace ht4 : DataW.trod enc Try.prog W base spare held n 3 [c4] = some y4 := ht4
  have hb4 := bulk_part hx hy4
  have hw4 := light_part Try.underlying85 (show _ = some _ from rfl : (_ : Array Field)[4]? = _) hx hy4
  replace ht5 : DataW.trod enc Try.prog W base spare held n 3 ((List.drop 5 [c0, c1, c2, c3, c4, c5]).take (Try.prog.cellsOf 3)) = some y5 := ht5
  rw [cells3] at ht5
  replace ht5 : DataW.trod enc Try.prog W base spare held n 3 [c5] = some y5 := ht5
  have hb5 := bulk_part hx hy5
  have hw5 := light_part Try.underlying85 (show _ = some _ from rfl : (_ : Array Field)[5]? = _) hx hy5
  obtain ⟨x_0, x_0n, x_0c, e0, q0, l0, m0⟩ := trod_sliceF Try.underlying28 ht0
  cases e0
  obtain ⟨x_1, e1, _⟩ := DataW.trod_bool Try.underlying4 ht1
  cases e1
  obtain ⟨x_2, e2, _⟩ := DataW.trod_bool Try.underlying4 ht2
  cases e2
  obtain ⟨x_3, e3, _, w3⟩ := DataW.trod_int Try.underlying3 ht3
  cases e3
  obtain ⟨x_4, e4, _, w4⟩ := DataW.trod_int Try.underlying3 ht4
  cases e4
  obtain ⟨x_5, e5, _, w5⟩ := DataW.trod_int Try.underlying3 ht5
  cases e5
  exact ⟨x_0, x_0n, x_0c, x_1, x_2, x_3, x_4, x_5, rfl, ⟨_, _, q0, hb0, hw0⟩, l0, m0, w3, w4, w5⟩
theorem cells92 : Try.prog.cellsOf 92 = 5 := by kernel_rfl
theorem dec92 {H : Type} {enc : TypeId × Value → H} {W : World} {base fuel : Nat} {spare : Nat → Bool} {held : Bool} {cs : List Value} {x : DataW H × List MemPlace} (h : DataW.trod enc Try.prog W base spare held fuel 92 cs = some x) :
    ∃ (x_0 : Option Addr) (x_0n x_0c : Nat) (x_1 : Bool) (x_2 : Int) (x_3 : Int) (x_4 : Int), cs = [.slice x_0 x_0n x_0c, .bool x_1, .int .i64 x_2, .int .i64 x_3, .int .i64 x_4] ∧ (∃ d ps, DataW.Trod enc Try.prog W base spare held 28 (.slice x_0 x_0n x_0c) d ps ∧ Rows.uptoBulk d + 1 ≤ Rows.uptoBulk x.1 ∧ ∀ m ∈ d.weights Try.prog 28, m ∈ x.1.weights Try.prog 92) ∧ x_0n ≤ x_0c ∧ x_0c ≤ maxLen ∧ (Lit.int .i64 x_2).wf = true ∧ (Lit.int .i64 x_3).wf = true ∧ (Lit.int .i64 x_4).wf = true := by
  obtain ⟨n, xs, hx, hl, hf⟩ := trod_at Try.underlying92 h
  rw [cells92] at hl
  obtain ⟨y0, hy0, ht0⟩ := hf 0 _ rfl
  obtain ⟨y1, hy1, ht1⟩ := hf 1 _ rfl
  obtain ⟨y2, hy2, ht2⟩ := hf 2 _ rfl
  obtain ⟨y3, hy3, ht3⟩ := hf 3 _ rfl
  obtain ⟨y4, hy4, ht4⟩ := hf 4 _ rfl
  obtain ⟨c0, c1, c2, c3, c4, rfl⟩ := list_5 hl
  replace ht0 : DataW.trod enc Try.prog W base spare held n 28 ((List.drop 0 [c0, c1, c2, c3, c4]).take (Try.prog.cellsOf 28)) = some y0 := ht0
  rw [cells28] at ht0
  replace ht0 : DataW.trod enc Try.prog W base spare held n 28 [c0] = some y0 := ht0
  have hb0 := bulk_part hx hy0
  have hw0 := light_part Try.underlying92 (show _ = some _ from rfl : (_ : Array Field)[0]? = _) hx hy0
  replace ht1 : DataW.trod enc Try.prog W base spare held n 4 ((List.drop 1 [c0, c1, c2, c3, c4]).take (Try.prog.cellsOf 4)) = some y1 := ht1
  rw [cells4] at ht1
  replace ht1 : DataW.trod enc Try.prog W base spare held n 4 [c1] = some y1 := ht1
  have hb1 := bulk_part hx hy1
  have hw1 := light_part Try.underlying92 (show _ = some _ from rfl : (_ : Array Field)[1]? = _) hx hy1
  replace ht2 : DataW.trod enc Try.prog W base spare held n 3 ((List.drop 2 [c0, c1, c2, c3, c4]).take (Try.prog.cellsOf 3)) = some y2 := ht2
  rw [cells3] at ht2
  replace ht2 : DataW.trod enc Try.prog W base spare held n 3 [c2] = some y2 := ht2
  have hb2 := bulk_part hx hy2
  have hw2 := light_part Try.underlying92 (show _ = some _ from rfl : (_ : Array Field)[2]? = _) hx hy2
  replace ht3 : DataW.trod enc Try.prog W base spare held n 3 ((List.drop 3 [c0, c1, c2, c3, c4]).take (Try.prog.cellsOf 3)) = some y3 := ht3
  rw [cells3] at ht3
  replace ht3 : DataW.trod enc Try.prog W base spare held n 3 [c3] = some y3 := ht3
  have hb3 := bulk_part hx hy3
  have hw3 := light_part Try.underlying92 (show _ = some _ from rfl : (_ : Array Field)[3]? = _) hx hy3
  replace ht4 : DataW.trod enc Try.prog W base spare held n 3 ((List.drop 4 [c0, c1, c2, c3, c4]).take (Try.prog.cellsOf 3)) = some y4 := ht4
  rw [cells3] at ht4
  replace ht4 : DataW.trod enc Try.prog W base spare held n 3 [c4] = some y4 := ht4
  have hb4 := bulk_part hx hy4
  have hw4 := light_part Try.underlying92 (show _ = some _ from rfl : (_ : Array Field)[4]? = _) hx hy4
  obtain ⟨x_0, x_0n, x_0c, e0, q0, l0, m0⟩ := trod_sliceF Try.underlying28 ht0
  cases e0
  obtain ⟨x_1, e1, _⟩ := DataW.trod_bool Try.underlying4 ht1
  cases e1
  obtain ⟨x_2, e2, _, w2⟩ := DataW.trod_int Try.underlying3 ht2
  cases e2
  obtain ⟨x_3, e3, _, w3⟩ := DataW.trod_int Try.underlying3 ht3
  cases e3
  obtain ⟨x_4, e4, _, w4⟩ := DataW.trod_int Try.underlying3 ht4
  cases e4
  exact ⟨x_0, x_0n, x_0c, x_1, x_2, x_3, x_4, rfl, ⟨_, _, q0, hb0, hw0⟩, l0, m0, w2, w3, w4⟩
theorem cells96 : Try.prog.cellsOf 96 = 5 := by kernel_rfl
theorem dec96 {H : Type} {enc : TypeId × Value → H} {W : World} {base fuel : Nat} {spare : Nat → Bool} {held : Bool} {cs : List Value} {x : DataW H × List MemPlace} (h : DataW.trod enc Try.prog W base spare held fuel 96 cs = some x) :
    ∃ (x_0_0_0 : Int) (x_0_0_1 : Option Addr) (x_0_0_1n x_0_0_1c : Nat) (x_0_0_2 : Option Addr) (x_0_0_2n x_0_0_2c : Nat) (x_0_1 : Int) (x_1 : Int), cs = [.int .i64 x_0_0_0, .slice x_0_0_1 x_0_0_1n x_0_0_1c, .slice x_0_0_2 x_0_0_2n x_0_0_2c, .int .i64 x_0_1, .int .i64 x_1] ∧ (Lit.int .i64 x_0_0_0).wf = true ∧ (∃ d ps, DataW.Trod enc Try.prog W base spare held 62 (.slice x_0_0_1 x_0_0_1n x_0_0_1c) d ps ∧ Rows.uptoBulk d + 1 ≤ Rows.uptoBulk x.1 ∧ ∀ m ∈ d.weights Try.prog 62, m ∈ x.1.weights Try.prog 96) ∧ x_0_0_1n ≤ x_0_0_1c ∧ x_0_0_1c ≤ maxLen ∧ (∃ d ps, DataW.Trod enc Try.prog W base spare held 62 (.slice x_0_0_2 x_0_0_2n x_0_0_2c) d ps ∧ Rows.uptoBulk d + 1 ≤ Rows.uptoBulk x.1 ∧ ∀ m ∈ d.weights Try.prog 62, m ∈ x.1.weights Try.prog 96) ∧ x_0_0_2n ≤ x_0_0_2c ∧ x_0_0_2c ≤ maxLen ∧ (Lit.int .i64 x_0_1).wf = true ∧ (Lit.int .i64 x_1).wf = true := by
  obtain ⟨n, xs, hx, hl, hf⟩ := trod_at Try.underlying96 h
  rw [cells96] at hl
  obtain ⟨y0, hy0, ht0⟩ := hf 0 _ rfl
  obtain ⟨y1, hy1, ht1⟩ := hf 1 _ rfl
  obtain ⟨c0, c1, c2, c3, c4, rfl⟩ := list_5 hl
  replace ht0 : DataW.trod enc Try.prog W base spare held n 66 ((List.drop 0 [c0, c1, c2, c3, c4]).take (Try.prog.cellsOf 66)) = some y0 := ht0
  rw [cells66] at ht0
  replace ht0 : DataW.trod enc Try.prog W base spare held n 66 [c0, c1, c2, c3] = some y0 := ht0
  have hb0 := bulk_part hx hy0
  have hw0 := light_part Try.underlying96 (show _ = some _ from rfl : (_ : Array Field)[0]? = _) hx hy0
  replace ht1 : DataW.trod enc Try.prog W base spare held n 3 ((List.drop 4 [c0, c1, c2, c3, c4]).take (Try.prog.cellsOf 3)) = some y1 := ht1
  rw [cells3] at ht1
  replace ht1 : DataW.trod enc Try.prog W base spare held n 3 [c4] = some y1 := ht1
  have hb1 := bulk_part hx hy1
  have hw1 := light_part Try.underlying96 (show _ = some _ from rfl : (_ : Array Field)[1]? = _) hx hy1
  obtain ⟨x_0_0_0, x_0_0_1, x_0_0_1n, x_0_0_1c, x_0_0_2, x_0_0_2n, x_0_0_2c, x_0_1, e0, g0_0, g0_1, g0_2, g0_3, g0_4, g0_5, g0_6, g0_7⟩ := dec66 ht0
  cases e0
  obtain ⟨x_1, e1, _, w1⟩ := DataW.trod_int Try.underlying3 ht1
  cases e1
  exact ⟨x_0_0_0, x_0_0_1, x_0_0_1n, x_0_0_1c, x_0_0_2, x_0_0_2n, x_0_0_2c, x_0_1, x_1, rfl, g0_0, (let ⟨d, ps, h1, h2, h3⟩ := g0_1; ⟨d, ps, h1, by omega, fun m hm => hw0 m (h3 m hm)⟩), g0_2, g0_3, (let ⟨d, ps, h1, h2, h3⟩ := g0_4; ⟨d, ps, h1, by omega, fun m hm => hw0 m (h3 m hm)⟩), g0_5, g0_6, g0_7, w1⟩
-- 98: dec 98: pointer
-- 107: dec 107: pointer
end Go.Proofs.Ytpmkedgennnekaa.Lg
