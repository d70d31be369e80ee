/-
  The disk's laws: images, laid, awake. By program (gen/disk4.py).
-/
import Derived.Test.YtipkfdeiallifaaDisk3
set_option linter.unusedVariables false
set_option linter.unusedSimpArgs false
namespace Go.Proofs.Ytipkfdeiallifaa.Lg
open Go Go.RowKit
theorem Sat.ofBelow {w w' : World} (h : Below w.heap.size w w') : Sat w w' [] := ⟨h, fun _ => none, fun _ => rfl, fun b o h => by cases h⟩
/-- A disk's block, read. -/
theorem Sat.dhd {B w : World} {TD TS TB b : Nat} {s : DSt} {L : List Assn} (hs : Sat B w (DiskA TD TS TB b s :: L)) : ∃ (A : Option Addr) (c : Nat), w.heap[b]? = some (.cells (dcells s A c).toArray TD (0, 0)) := by
  obtain ⟨vs, A, c, _, h⟩ := hs.dopen
  exact ⟨A, c, (h.is_at 0 rfl).2⟩

def a1 : DSt := (dwrite (dnew 3) 1 [97, 98]).2
def a2 : DSt := (dread a1 1).2.2
def a3 : DSt := dcut a2 1
def a4 : DSt := (dwrite a3 0 [99]).2
def a5 : DSt := (dwrite a4 0 [100]).2
theorem a5_bytes : ∀ r ∈ a5.bl, IsBytes r := by
  have e : a5.bl = [[99], [97, 98], []] := by decide
  rw [e]; simp [IsBytes]
end Go.Proofs.Ytipkfdeiallifaa.Lg
