/-
  The disk and the reference's: alike call by call; disks that may be none. No program in sight.
-/
import Derived.Test.YtipkfdeiallifaaDiskRef
import Derived.Test.YtipkfdeiallifaaFv
set_option linter.unusedVariables false
set_option linter.unusedSimpArgs false
namespace Go.Proofs.Ytipkfdeiallifaa.Lg
open Go Go.RowKit
theorem w64o {n : Int} (h : -9223372036854775808 ≤ n ∧ n ≤ 9223372036854775807) : IntKind.i64.wrap n = n := by rw [IntKind.wrap_i64]; omega
theorem alike_cut {d : DSt} {r : RSt} (h : Alike d r) (n : Int) : Alike (dcut d n) (rcut r n) := by
  obtain ⟨h1, h2, h3, h4, h5, h6, h7⟩ := h
  refine ⟨h1, h2, h3, h4, ?_, decide_eq_decide.2 ?_, ?_⟩
  · show -1 ≤ (if n < 0 then (-1 : Int) else n)
    split <;> omega
  · show 0 ≤ n ↔ 0 ≤ (if n < 0 then (-1 : Int) else n)
    split <;> omega
  · show 0 ≤ (if n < 0 then (-1 : Int) else n) → n = (if n < 0 then (-1 : Int) else n)
    split <;> omega
theorem alike_off {d : DSt} {r : RSt} (h : Alike d r) : Alike (doff d) (roff r) := by
  obtain ⟨h1, h2, h3, h4, h5, h6, h7⟩ := h
  exact ⟨h1, rfl, h3, h4, by simp [roff], by simp [roff, doff, dset], by simp [roff]⟩
theorem alike_on {d : DSt} {r : RSt} (h : Alike d r) : Alike (don d) (ron r) := by
  obtain ⟨h1, h2, h3, h4, h5, h6, h7⟩ := h
  exact ⟨h1, rfl, h3, h4, by simp [ron], by simp [ron, don, dset], by simp [ron]⟩
theorem alike_read {d : DSt} {r : RSt} (h : Alike d r) (i : Int) : (dread d i).1 = (rread r i).1 ∧ (dread d i).2.1 = (rread r i).2.1 ∧ Alike (dread d i).2.2 (rread r i).2.2 := by
  have hc := alike_check h i
  have h' := h
  obtain ⟨h1, h2, h3, h4, h5, h6, h7⟩ := h
  unfold dread rread
  rw [← hc]
  split
  · refine ⟨by rw [h1], rfl, h1, h2, by simp only [h3], h4, h5, h6, h7⟩
  · exact ⟨rfl, rfl, h'⟩
theorem alike_write {d : DSt} {r : RSt} (h : Alike d r) (hm : r.left ≤ 9223372036854775807) (i : Int) (b : List Int) : (dwrite d i b).1 = (rwrite r i b).1 ∧ Alike (dwrite d i b).2 (rwrite r i b).2 := by
  have hc := alike_check h i
  have h' := h
  obtain ⟨h1, h2, h3, h4, h5, h6, h7⟩ := h
  unfold dwrite rwrite
  rw [← hc]
  split
  · exact ⟨rfl, h'⟩
  · split
    · exact ⟨rfl, h'⟩
    · have e : (d.armed = true ∧ d.left = 0) ↔ r.left = 0 := by
        rw [h6]
        constructor
        · rintro ⟨ha, hb⟩; have := of_decide_eq_true ha; have := h7 this; omega
        · intro h0; exact ⟨decide_eq_true (by omega), by have := h7 (by omega); omega⟩
      by_cases h0 : r.left = 0
      · rw [if_pos (e.2 h0), if_pos h0]; exact ⟨rfl, alike_off h'⟩
      · rw [if_neg (fun q => h0 (e.1 q)), if_neg h0]
        refine ⟨rfl, by simp only [h1], h2, h3, by simp only [h4], ?_, ?_, ?_⟩ <;> simp only
        · split <;> omega
        · rw [h6]
          by_cases hp : 0 < r.left
          · rw [if_pos hp, decide_eq_true (by omega), decide_eq_true (by omega)]
          · rw [if_neg hp]
        · by_cases hp : 0 < r.left
          · rw [if_pos hp]; intro _; have := h7 (by omega); rw [this, w64o (by omega)]
          · rw [if_neg hp]; intro h8; omega
/-- A disk and the reference's, alike and within their bounds. -/
def DR (d : DSt) (r : RSt) : Prop := Alike d r ∧ (∀ x ∈ d.bl, IsBytes x ∧ x.length ≤ 1024) ∧ d.bl.length ≤ 64 ∧ r.left ≤ 9223372036854775807
theorem DR.cut {d : DSt} {r : RSt} (h : DR d r) {n : Int} (hn : n ≤ 9223372036854775807) : DR (dcut d n) (rcut r n) := ⟨alike_cut h.1 n, h.2.1, h.2.2.1, by simp only [rcut]; split <;> omega⟩
theorem DR.off {d : DSt} {r : RSt} (h : DR d r) : DR (doff d) (roff r) := ⟨alike_off h.1, h.2.1, h.2.2.1, by simp [roff]⟩
theorem DR.on {d : DSt} {r : RSt} (h : DR d r) : DR (don d) (ron r) := ⟨alike_on h.1, h.2.1, h.2.2.1, by simp [ron]⟩
theorem DR.read {d : DSt} {r : RSt} (h : DR d r) (i : Int) : DR (dread d i).2.2 (rread r i).2.2 := by
  refine ⟨(alike_read h.1 i).2.2, ?_, ?_, ?_⟩
  · unfold dread; split
    · exact h.2.1
    · exact h.2.1
  · unfold dread; split
    · exact h.2.2.1
    · exact h.2.2.1
  · unfold rread; split
    · exact h.2.2.2
    · exact h.2.2.2
theorem DR.rows {d : DSt} {r : RSt} (h : DR d r) : ∀ x ∈ r.bl, x.length ≤ 1024 := fun x hx => (h.2.1 x (by rw [h.1.1]; exact hx)).2

/-- A disk that may be none. -/
def DO (TD TS TB : TypeId) (p : Option Addr) : Option DSt → Assn
  | none => fun h => p = none ∧ ∀ b, h b = none
  | some s => fun h => ∃ b, p = some ⟨b, 0, none⟩ ∧ DiskA TD TS TB b s h
def RO (TD TS TB : TypeId) (p : Option Addr) : Option RSt → Assn
  | none => fun h => p = none ∧ ∀ b, h b = none
  | some s => fun h => ∃ b, p = some ⟨b, 0, none⟩ ∧ RefA TD TS TB b s h
section
variable {B w : World} {TD TS TB b : Nat} {p : Option Addr} {s : DSt} {r : RSt} {L : List Assn}
theorem Sat.doNone (hs : Sat B w (DO TD TS TB p none :: L)) : p = none ∧ Sat B w L := by
  obtain ⟨h, h2⟩ := Sat.pure (p := p = none) (A := fun h => ∀ b, h b = none) hs
  exact ⟨h, h2.tail⟩
theorem Sat.doSome (hs : Sat B w (DO TD TS TB p (some s) :: L)) : ∃ b, p = some ⟨b, 0, none⟩ ∧ Sat B w (DiskA TD TS TB b s :: L) := by
  obtain ⟨b, h⟩ := Sat.ex (A := fun b h => p = some ⟨b, 0, none⟩ ∧ DiskA TD TS TB b s h) hs
  exact ⟨b, h.pure⟩
theorem Sat.toDoNone (hs : Sat B w L) : Sat B w (DO TD TS TB none none :: L) := hs.addNone ⟨rfl, fun _ => rfl⟩
theorem Sat.toDoSome (hs : Sat B w (DiskA TD TS TB b s :: L)) : Sat B w (DO TD TS TB (some ⟨b, 0, none⟩) (some s) :: L) := hs.imp fun h hh => ⟨b, rfl, hh⟩
theorem Sat.roNone (hs : Sat B w (RO TD TS TB p none :: L)) : p = none ∧ Sat B w L := by
  obtain ⟨h, h2⟩ := Sat.pure (p := p = none) (A := fun h => ∀ b, h b = none) hs
  exact ⟨h, h2.tail⟩
theorem Sat.roSome (hs : Sat B w (RO TD TS TB p (some r) :: L)) : ∃ b, p = some ⟨b, 0, none⟩ ∧ Sat B w (RefA TD TS TB b r :: L) := by
  obtain ⟨b, h⟩ := Sat.ex (A := fun b h => p = some ⟨b, 0, none⟩ ∧ RefA TD TS TB b r h) hs
  exact ⟨b, h.pure⟩
theorem Sat.toRoNone (hs : Sat B w L) : Sat B w (RO TD TS TB none none :: L) := hs.addNone ⟨rfl, fun _ => rfl⟩
theorem Sat.toRoSome (hs : Sat B w (RefA TD TS TB b r :: L)) : Sat B w (RO TD TS TB (some ⟨b, 0, none⟩) (some r) :: L) := hs.imp fun h hh => ⟨b, rfl, hh⟩
end
def obl : Option DSt → List (List Int) | none => [] | some s => s.bl
def orbl : Option RSt → List (List Int) | none => [] | some s => s.bl
def DRo : Option DSt → Option RSt → Prop
  | none, none => True
  | some d, some r => DR d r
  | _, _ => False
theorem DRo.bl {d : Option DSt} {r : Option RSt} (h : DRo d r) : obl d = orbl r := by
  cases d <;> cases r
  · rfl
  · cases h
  · cases h
  · exact h.1.1
theorem DRo.ok {d : Option DSt} {r : Option RSt} (h : DRo d r) : (∀ x ∈ obl d, IsBytes x ∧ x.length ≤ 1024) ∧ (obl d).length ≤ 64 := by
  cases d <;> cases r
  · exact ⟨fun x hx => absurd hx (by simp [obl]), by simp [obl]⟩
  · cases h
  · cases h
  · exact ⟨h.2.1, h.2.2.1⟩
def sel3 {α : Type} (k : Nat) (a b c : α) : α := if k = 0 then a else if k = 1 then b else c
theorem sel3_cell {k : Nat} (hk : k < 3) (pa pb pc : Option Addr) : ([Value.pointer pa, .pointer pb, .pointer pc])[k]? = some (.pointer (sel3 k pa pb pc)) := by
  rcases (show k = 0 ∨ k = 1 ∨ k = 2 by omega) with rfl | rfl | rfl <;> rfl
theorem isNone_iff {p q : Option Addr} {d : Option DSt} {r : Option RSt} (h1 : p.isNone = d.isNone) (h2 : q.isNone = r.isNone) (h : DRo d r) : p.isNone = q.isNone := by
  rw [h1, h2]
  cases d <;> cases r <;> first | rfl | cases h
end Go.Proofs.Ytipkfdeiallifaa.Lg
