/-
  The law DiskLast, walked. By program (gen/disk5.py).
-/
import Derived.Test.YtipkfdeiallifaaDisk4
set_option linter.unusedVariables false
set_option linter.unusedSimpArgs false
namespace Go.Proofs.Ytipkfdeiallifaa.Lg
open Go Go.RowKit
/-- A block's number and its bytes. -/
def KPut : El (Int × Option Addr × Nat × Nat) := ⟨2, fun o => [.int .i64 o.1, .slice o.2.1 o.2.2.1 o.2.2.2], (0, none, 0, 0), fun _ => rfl⟩
def KBool : El Bool := ⟨1, fun b => [.bool b], false, fun _ => rfl⟩
def PutOk (w : World) (x : Int × Option Addr × Nat × Nat) : Prop := (-9223372036854775808 ≤ x.1 ∧ x.1 ≤ 9223372036854775807) ∧ ∃ l, Rd w x.2.1 x.2.2.1 x.2.2.2 1 (bytesV l) ∧ IsBytes l
theorem rem_nn (a b : Nat) : Int.tmod (a : Int) (b : Int) = ((a % b : Nat) : Int) := by
  rw [Int.tmod_eq_emod_of_nonneg (Int.natCast_nonneg a)]; simp
theorem u64_nat (i : Int) : ∃ u : Nat, IntKind.u64.wrap i = (u : Int) ∧ u < 18446744073709551616 := by
  refine ⟨(IntKind.u64.wrap i).toNat, ?_, ?_⟩ <;> rw [IntKind.wrap_u64] <;> omega
theorem PartsK.set {w : World} {vs : List Value} {xss : List (List Int)} {A : Option Addr} {n c k : Nat} {l : List Int} (h : PartsK (El.int .u8) w vs xss) (hr : Rd w A n c 1 (bytesV l)) (hk : k < xss.length) : PartsK (El.int .u8) w (vs.set k (.slice A n c)) (xss.set k l) :=
  ⟨by simp [h.1], fun i hi => by
    have h1 := h.1
    simp only [List.length_set] at hi
    by_cases e : k = i
    · subst e
      have e1 : (vs.set k (Value.slice A n c)).getD k nilV = .slice A n c := by simp [List.getD_eq_getElem?_getD, show k < vs.length by omega]
      have e2 : (xss.set k l).getD k [] = l := by simp [List.getD_eq_getElem?_getD, hk]
      rw [e1, e2]; exact ⟨A, n, c, rfl, by rw [← bytesV_flat]; exact hr⟩
    · have e1 : (vs.set k (Value.slice A n c)).getD i nilV = vs.getD i nilV := by simp [List.getD_eq_getElem?_getD, List.getElem?_set_ne e]
      have e2 : (xss.set k l).getD i [] = xss.getD i [] := by simp [List.getD_eq_getElem?_getD, List.getElem?_set_ne e]
      rw [e1, e2]; exact h.2 i hi⟩
theorem PartsK.empty (w : World) (m : Nat) : PartsK (El.int .u8) w (List.replicate m nilV) (dnew m).bl :=
  ⟨by simp [dnew], fun i hi => by
    have hi' : i < m := by simpa [dnew] using hi
    refine ⟨none, 0, 0, ?_, ?_⟩
    · rw [List.getD_eq_getElem?_getD, List.getElem?_replicate, if_pos hi']; rfl
    · have e : (dnew m).bl.getD i [] = [] := by
        unfold dnew
        rw [List.getD_eq_getElem?_getD, List.getElem?_replicate, if_pos hi']; rfl
      rw [e]; exact Rd.none w 1⟩
theorem getElem_mem3 {α : Type} {l : List α} {d : α} {i : Nat} (h : i < l.length) : l.getD i d ∈ l := by
  rw [List.getD_eq_getElem?_getD, List.getElem?_eq_getElem h]; exact List.getElem_mem _
theorem set_mem {P : List Int → Prop} {bl : List (List Int)} {k : Nat} {l : List Int} (h : ∀ r ∈ bl, P r) (hl : P l) : ∀ r ∈ bl.set k l, P r := by
  intro r hr
  rcases List.mem_or_eq_of_mem_set hr with hr | rfl
  · exact h r hr
  · exact hl
theorem dwrite_ok {s : DSt} {k : Nat} {l : List Int} (h1 : s.down = false) (h2 : s.armed = false) (hk : k < s.bl.length) (hl : l.length ≤ 1024) :
    (dwrite s (k : Int) l).1 = 0 ∧ (dwrite s (k : Int) l).2.down = false ∧ (dwrite s (k : Int) l).2.armed = false ∧ (dwrite s (k : Int) l).2.bl = s.bl.set k l := by
  have hc : dcheck s (k : Int) = 0 := by unfold dcheck; rw [if_neg (by simp [h1]), if_neg (by omega)]
  unfold dwrite
  rw [if_neg (by omega), if_neg (by omega), if_neg (by simp [h2])]
  exact ⟨rfl, h1, h2, rfl⟩
theorem dwrite_down {s : DSt} {i : Int} {l : List Int} (h1 : s.down = true) : dwrite s i l = (80, s) := by
  have hc : dcheck s i = 80 := by unfold dcheck; rw [if_pos h1]
  unfold dwrite
  rw [if_pos (by omega), hc]
theorem dread_ok {s : DSt} {k : Nat} (h1 : s.down = false) (hk : k < s.bl.length) :
    (dread s (k : Int)).1 = s.bl.getD k [] ∧ (dread s (k : Int)).2.1 = 0 ∧ (dread s (k : Int)).2.2.down = s.down ∧ (dread s (k : Int)).2.2.armed = s.armed ∧ (dread s (k : Int)).2.2.bl = s.bl := by
  have hc : dcheck s (k : Int) = 0 := by unfold dcheck; rw [if_neg (by simp [h1]), if_neg (by omega)]
  unfold dread
  rw [if_pos hc]
  exact ⟨rfl, rfl, rfl, rfl, rfl⟩
end Go.Proofs.Ytipkfdeiallifaa.Lg
