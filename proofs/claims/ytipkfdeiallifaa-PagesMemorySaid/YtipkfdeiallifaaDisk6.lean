/-
  The law DiskCut, walked. By program (gen/disk6.py).
-/
import Derived.Test.YtipkfdeiallifaaDisk5
set_option linter.unusedVariables false
set_option linter.unusedSimpArgs false
namespace Go.Proofs.Ytipkfdeiallifaa.Lg
open Go Go.RowKit
def CutInv (n : Int) (done : Nat) (st : DSt) : Prop := st.writes = done ∧ st.bl.length = 8 ∧ (st.down = false → st.armed = decide (0 ≤ n) ∧ (0 ≤ n → st.left = n - done ∧ 0 ≤ n - done))
theorem dwrite_far {s : DSt} {i : Int} {l : List Int} (h1 : s.down = false) (h : (s.bl.length : Int) ≤ i) : dwrite s i l = (81, s) := by
  have hc : dcheck s i = 81 := by unfold dcheck; rw [if_neg (by simp [h1]), if_pos (.inr h)]
  unfold dwrite
  rw [if_pos (by omega), hc]
theorem dwrite_gone {s : DSt} {k : Nat} {l : List Int} (h1 : s.down = false) (hk : k < s.bl.length) (hl : l.length ≤ 1024) (h2 : s.armed = true) (h3 : s.left = 0) : dwrite s (k : Int) l = (80, doff s) := by
  have hc : dcheck s (k : Int) = 0 := by unfold dcheck; rw [if_neg (by simp [h1]), if_neg (by omega)]
  unfold dwrite
  rw [if_neg (by omega), if_neg (by omega), if_pos ⟨h2, h3⟩]
theorem dwrite_goes {s : DSt} {k : Nat} {l : List Int} (h1 : s.down = false) (hk : k < s.bl.length) (hl : l.length ≤ 1024) (h2 : ¬ (s.armed = true ∧ s.left = 0)) :
    dwrite s (k : Int) l = (0, { s with left := IntKind.i64.wrap (s.left - 1), bl := s.bl.set k l, writes := IntKind.i64.wrap (s.writes + 1) }) := by
  have hc : dcheck s (k : Int) = 0 := by unfold dcheck; rw [if_neg (by simp [h1]), if_neg (by omega)]
  unfold dwrite
  rw [if_neg (by omega), if_neg (by omega), if_neg h2]
  rfl
theorem dread_0 {st s6 : DSt} {rr : List Int} {re : Int} (hil : st.bl.length = 8) (h : dread st 0 = (rr, re, s6)) : s6.down = st.down ∧ s6.bl = st.bl ∧ s6.writes = st.writes ∧ (decide (re = 80) = st.down) := by
  unfold dread at h
  cases hd : st.down with
  | true =>
    have hc : dcheck st 0 = 80 := by unfold dcheck; rw [if_pos hd]
    rw [if_neg (by omega), hc] at h
    simp only [Prod.mk.injEq] at h
    obtain ⟨_, rfl, rfl⟩ := h
    exact ⟨hd, rfl, rfl, rfl⟩
  | false =>
    have hc : dcheck st 0 = 0 := by unfold dcheck; rw [if_neg (by simp [hd]), if_neg (by omega)]
    rw [if_pos hc] at h
    simp only [Prod.mk.injEq] at h
    obtain ⟨_, rfl, rfl⟩ := h
    exact ⟨hd, rfl, rfl, rfl⟩
end Go.Proofs.Ytipkfdeiallifaa.Lg
