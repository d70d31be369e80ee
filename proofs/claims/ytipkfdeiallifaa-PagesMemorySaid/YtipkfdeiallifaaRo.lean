/-
  From a law's arguments, as its row reads them, to what the walks take. Plain theorems; no program in sight.
-/
import Derived.Test.YtipkfdeiallifaaMo
import Derived.ProofKit
import Derived.OpenShut
import Derived.ShutString
import Derived.ChangeOld
import Derived.SizedLaws
import Derived.ChangeSlices
set_option linter.unusedVariables false
set_option linter.unusedSimpArgs false
namespace Go.Proofs.Ytipkfdeiallifaa.Lg
open Go Go.RowKit Go.ChangeShapes Go.WideShapes

theorem wf_u64 {x : Int} (h : (Lit.int .u64 x).wf = true) : 0 ≤ x ∧ x < 18446744073709551616 := by
  simp [Lit.wf, IntKind.min, IntKind.max, IntKind.bits, IntKind.signed] at h
  omega
theorem wf_u8 {x : Int} (h : (Lit.int .u8 x).wf = true) : 0 ≤ x ∧ x ≤ 255 := by
  simp [Lit.wf, IntKind.min, IntKind.max, IntKind.bits, IntKind.signed] at h
  omega
theorem wf_i64 {x : Int} (h : (Lit.int .i64 x).wf = true) : -9223372036854775808 ≤ x ∧ x ≤ 9223372036854775807 := by
  simp [Lit.wf, IntKind.min, IntKind.max, IntKind.bits, IntKind.signed] at h
  omega

theorem rd_cells {w : World} {x : Addr} {len cap : Nat} {k : IntKind} {zs : List Int} (hl : len ≤ cap) (hz : zs.length = cap) (hc : ∀ i, i < zs.length → w.cell? (x.add i) = some (.int k (zs.getD i 0))) : Rd w (some x) len cap 1 ((El.int k).flat (zs.take len)) := by
  have hlen : (zs.take len).length = len := by rw [List.length_take]; omega
  refine ⟨by rw [El.flat_length, hlen]; rfl, hl, fun hp => ?_, fun h => by cases h⟩
  have h0 := hc 0 (by omega)
  have ex : x.add 0 = x := by simp [Addr.add]
  rw [ex] at h0
  obtain ⟨b, off, sp⟩ := x
  have hsp : sp = none := by
    cases sp with
    | none => rfl
    | some s =>
      simp only [World.cell?] at h0
      split at h0 <;> simp at h0
  subst hsp
  refine ⟨b, off, rfl, World.block_lt_of_cell? w _ h0, fun j u hj => ?_⟩
  have hj' : j < len := by
    have := (List.getElem?_eq_some_iff.1 hj).1
    rw [El.flat_length, hlen] at this
    simpa [El.int] using this
  have h1 := hc j (by omega)
  rw [Addr.add_lit] at h1
  rw [h1, ← hj, El.int_flat]
  simp [List.getD_eq_getElem?_getD, hj', show j < zs.length by omega]

/-- A slice of whole numbers among the arguments. -/
theorem rd_ints {H : Type} {enc : TypeId × Value → H} {P : Program} {W : World} {base : Nat} {spare : Nat → Bool} {held : Bool} {t e : TypeId} {k : IntKind} {a : Option Addr} {len cap : Nat} {d : DataW H} {ps : List MemPlace}
    (hu : P.underlying t = some (.slice e)) (he : P.underlying e = some (.int k)) (hc : P.cellsOf e = 1) (h : DataW.Trod enc P W base spare held t (.slice a len cap) d ps) :
    ∃ l : List Int, Rd W a len cap 1 ((El.int k).flat l) ∧ l.length = len ∧ ∀ x ∈ l, (Lit.int k x).wf = true := by
  obtain ⟨fuel, hf⟩ := h
  rcases open_ints hu he hc hf with ⟨hcs, _⟩ | ⟨x, l, c, zs, hcs, _, hl, hm, hz, _, hcell, hwz⟩
  · simp [Value.cells] at hcs
    obtain ⟨rfl, rfl, rfl⟩ := hcs
    exact ⟨[], Rd.none W 1, rfl, by simp⟩
  · simp [Value.cells] at hcs
    obtain ⟨rfl, rfl, rfl⟩ := hcs
    refine ⟨zs.take len, ?_, ?_, fun x hx => hwz x (List.mem_of_mem_take hx)⟩
    · split at hz
      · exact rd_cells hl hz hcell
      · obtain ⟨r1, r2, r3, r4⟩ := rd_cells (cap := len) (Nat.le_refl _) hz hcell
        exact ⟨r1, hl, r3, fun h => by cases h⟩
    · rw [List.length_take]; split at hz <;> omega

/-- Such a slice is no longer than its weight allows. -/
theorem sized_nums {H : Type} {enc : TypeId × Value → H} {P : Program} {W : World} {base : Nat} {spare : Nat → Bool} {held : Bool} {t e : TypeId} {k : IntKind} {a : Option Addr} {len cap : Nat} {d : DataW H} {ps : List MemPlace} {ts : List TypeId} {ds : List (DataW H)} {j : Nat}
    (hsz : (DataW.weightsEach P ts ds).all (· ≤ reachBytes) = true) (ht : ts[j]? = some t) (hd : ds[j]? = some d) (hu : P.underlying t = some (.slice e)) (he : P.underlying e = some (.int k)) (hc : P.cellsOf e = 1) {B : Nat} (hB : P.bytesOf e = B)
    (h : DataW.Trod enc P W base spare held t (.slice a len cap) d ps) : len * B ≤ 140737488351232 := by
  obtain ⟨fuel, hf⟩ := h
  rcases open_ints hu he hc hf with ⟨hcs, _⟩ | ⟨x, l, c, zs, hcs, _, hl, _, hz, hx, _, _⟩
  · simp [Value.cells] at hcs
    obtain ⟨rfl, rfl, rfl⟩ := hcs
    simp
  · simp [Value.cells] at hcs
    obtain ⟨rfl, rfl, rfl⟩ := hcs
    obtain ⟨hx, _⟩ := Prod.mk.inj hx
    subst hx
    have z := sized_slice hsz ht hd hu
    rw [hB] at z
    have hl2 : len ≤ zs.length := by
      rw [hz]
      split
      · exact hl
      · exact Nat.le_refl _
    have h1 : (lits (H := H) k (zs.take len)).length + (lits (H := H) k (zs.drop len)).length = zs.length := by
      simp [lits]
      omega
    rw [h1] at z
    exact Nat.le_trans (Nat.mul_le_mul_right _ hl2) z
end Go.Proofs.Ytipkfdeiallifaa.Lg
