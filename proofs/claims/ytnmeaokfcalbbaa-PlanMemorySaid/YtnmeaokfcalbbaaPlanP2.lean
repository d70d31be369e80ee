/-
  Plain facts for the plan's shares. No program in sight.
-/
import Derived.Test.YtnmeaokfcalbbaaPlanPure
set_option linter.unusedVariables false
set_option linter.unusedSimpArgs false
namespace Go.Proofs.Ytnmeaokfcalbbaa.PlanPure
open Go Go.Proofs.Ytnmeaokfcalbbaa.Lg
/-! Shares. -/
def cnts (st : Nat) (l : List Pr) : List Int := (List.range st).map fun n => ((row st l n).length : Int)
theorem cnts_len (st : Nat) (l : List Pr) : (cnts st l).length = st := by simp [cnts]
theorem cnts_getD (st : Nat) (l : List Pr) (n : Nat) (h : n < st) : (cnts st l).getD n 0 = ((row st l n).length : Int) := by
  simp [cnts, List.getD_eq_getElem?_getD, h]
theorem cnts_nil (st : Nat) : cnts st [] = List.replicate st 0 := by
  apply List.ext_getElem
  · simp [cnts]
  · intro i h1 h2; simp [cnts, row]
theorem cnts_snoc (st : Nat) (l : List Pr) (x : Pr) (k : Nat) (hk : x.1.toNat % st = k) (hlt : k < st) : cnts st (l ++ [x]) = (cnts st l).set k (((row st l k).length : Int) + 1) := by
  apply List.ext_getElem
  · simp [cnts]
  · intro i h1 h2
    have hi : i < st := by simpa [cnts] using h1
    rw [List.getElem_set]
    simp only [cnts, List.getElem_map, List.getElem_range, row_snoc]
    by_cases h : k = i
    · subst h; simp [hk]
    · rw [if_neg h, if_neg (by omega)]
/-- The i'th pair stands in its row behind those that came before it. -/
theorem row_split (st : Nat) (l : List Pr) (i k : Nat) (x : Pr) (hi : i < l.length) (hx : l.getD i (0, false, 0) = x) (hk : x.1.toNat % st = k) :
    row st l k = row st (l.take i) k ++ x :: row st (l.drop (i + 1)) k := by
  have e : l = l.take i ++ x :: l.drop (i + 1) := by
    rw [List.getD_eq_getElem?_getD, List.getElem?_eq_getElem hi] at hx
    simp only [Option.getD_some] at hx
    subst hx
    simp
  conv => lhs; rw [e]
  unfold row
  rw [List.filter_append, List.filter_cons, if_pos (by simpa using hk)]
theorem row_split_len (st : Nat) (l : List Pr) (i k : Nat) (x : Pr) (hi : i < l.length) (hx : l.getD i (0, false, 0) = x) (hk : x.1.toNat % st = k) : (row st (l.take i) k).length < (row st l k).length := by
  rw [row_split st l i k x hi hx hk]; simp
theorem row_split_get (st : Nat) (l : List Pr) (i k : Nat) (x : Pr) (hi : i < l.length) (hx : l.getD i (0, false, 0) = x) (hk : x.1.toNat % st = k) : (row st l k).getD (row st (l.take i) k).length (0, false, 0) = x := by
  rw [row_split st l i k x hi hx hk]
  simp [List.getD_eq_getElem?_getD]
def kf (wo st node : Int) : Int := if node < 0 ∨ 1 + wo + st ≤ node then 0 else if node = 0 then 1 else if node ≤ wo then 2 else 3
theorem kindOf_kf {p : PlanA} {l : List (Int × Int × Nat)} (h : chk p l = 0) (node : Int) : kindOf p l node = kf p.wo p.st node := by
  unfold kindOf kf nodes
  rw [if_pos h]
theorem kf_range (wo st node : Int) : 0 ≤ kf wo st node ∧ kf wo st node ≤ 3 := by
  unfold kf
  split
  · omega
  · split
    · omega
    · split <;> omega
/-- How many of the first i nodes, from -2 on, are of a kind. -/
def kc (wo st : Int) (i : Nat) (j : Nat) : Int := (((List.range i).filter fun m : Nat => decide (kf wo st ((m : Int) - 2) = (j : Int))).length : Int)
theorem kc_succ (wo st : Int) (i j : Nat) : kc wo st (i + 1) j = if kf wo st ((i : Int) - 2) = (j : Int) then kc wo st i j + 1 else kc wo st i j := by
  unfold kc
  rw [List.range_succ, List.filter_append]
  split <;> rename_i h <;> simp [h]
theorem kc_le (wo st : Int) (i j : Nat) : 0 ≤ kc wo st i j ∧ kc wo st i j ≤ i := by
  unfold kc
  have := List.length_filter_le (fun m : Nat => decide (kf wo st ((m : Int) - 2) = (j : Int))) (List.range i)
  rw [List.length_range] at this
  omega
theorem kc_end (wo st : Int) (hw : 1 ≤ wo ∧ wo ≤ 4) (hs : 1 ≤ st ∧ st ≤ 4) : kc wo st 14 1 = 1 ∧ kc wo st 14 2 = wo ∧ kc wo st 14 3 = st := by
  have h1 : wo = 1 ∨ wo = 2 ∨ wo = 3 ∨ wo = 4 := by omega
  have h2 : st = 1 ∨ st = 2 ∨ st = 3 ∨ st = 4 := by omega
  rcases h1 with rfl | rfl | rfl | rfl <;> rcases h2 with rfl | rfl | rfl | rfl <;> decide
/-- The four numbers, as cells. -/
def kcs (wo st : Int) (i : Nat) : List Value := [.int .i64 (kc wo st i 0), .int .i64 (kc wo st i 1), .int .i64 (kc wo st i 2), .int .i64 (kc wo st i 3)]
theorem kcs_get (wo st : Int) (i k : Nat) (hk : k ≤ 3) : (kcs wo st i)[k]? = some (.int .i64 (kc wo st i k)) := by
  have : k = 0 ∨ k = 1 ∨ k = 2 ∨ k = 3 := by omega
  rcases this with rfl | rfl | rfl | rfl <;> rfl
theorem kcs_succ (wo st : Int) (i k : Nat) (hk : kf wo st ((i : Int) - 2) = (k : Int)) (h3 : k ≤ 3) : kcs wo st (i + 1) = (kcs wo st i).set k (.int .i64 (kc wo st i k + 1)) := by
  have : k = 0 ∨ k = 1 ∨ k = 2 ∨ k = 3 := by omega
  unfold kcs
  simp only [kc_succ, hk]
  rcases this with rfl | rfl | rfl | rfl <;> simp
end Go.Proofs.Ytnmeaokfcalbbaa.PlanPure
