/-
  What a plan's functions answer, in plain Lean. No program in sight.
-/
import Derived.Test.YtnmeaokfcalbbaaMx
set_option linter.unusedVariables false
set_option linter.unusedSimpArgs false
namespace Go.Proofs.Ytnmeaokfcalbbaa.PlanPure
open Go Go.Proofs.Ytnmeaokfcalbbaa.Lg
structure PlanA where
  pa : Int
  st : Int
  wo : Int
  oA : Option Addr
  on : Nat
  oc : Nat
  ag : Int
  ba : Int
  wi : Int
  gu : Int
/-- A step: its kind, its number, its float's bits. -/
def KOp : El (Int × Int × Nat) := ⟨3, fun o => [.int .i64 o.1, .int .i64 o.2.1, .float .f64 o.2.2], (0, 0, 0), fun _ => rfl⟩
/-- Three numbers in a row. -/
def K3 : El (Int × Int × Int) := ⟨3, fun o => [.int .i64 o.1, .int .i64 o.2.1, .int .i64 o.2.2], (0, 0, 0), fun _ => rfl⟩
def opOk (k m : Int) : Prop := (k = 7 ∧ -2200 ≤ m ∧ m ≤ 2200) ∨ (k = 11 ∧ 1 ≤ m) ∨ (k ≠ 7 ∧ k ≠ 11 ∧ 1 ≤ k ∧ k ≤ 12)
instance (k m : Int) : Decidable (opOk k m) := by unfold opOk; infer_instance
def opsBad (l : List (Int × Int × Nat)) : Prop := 8 < l.length ∨ ∃ o ∈ l, ¬ opOk o.1 o.2.1
instance (l : List (Int × Int × Nat)) : Decidable (opsBad l) := by unfold opsBad; infer_instance
def opsChk (l : List (Int × Int × Nat)) : Int := if opsBad l then 30 else 0
def numsOk (p : PlanA) : Prop := (1 ≤ p.pa ∧ p.pa ≤ 4) ∧ (1 ≤ p.st ∧ p.st ≤ 4) ∧ (1 ≤ p.wo ∧ p.wo ≤ 4) ∧ (1 ≤ p.ba ∧ p.ba ≤ 16) ∧ (1 ≤ p.wi ∧ p.wi ≤ 4) ∧ (8 ≤ p.gu ∧ p.gu ≤ 64) ∧ (1 ≤ p.ag ∧ p.ag ≤ 4)
instance (p : PlanA) : Decidable (numsOk p) := by unfold numsOk; infer_instance
def chk (p : PlanA) (l : List (Int × Int × Nat)) : Int := if numsOk p then opsChk l else 140
theorem chk_ok {p : PlanA} {l : List (Int × Int × Nat)} (h : chk p l = 0) : numsOk p := by
  unfold chk at h
  split at h
  · assumption
  · simp at h
def nodes (p : PlanA) (l : List (Int × Int × Nat)) : Int := if chk p l = 0 then 1 + p.wo + p.st else 0
def kindOf (p : PlanA) (l : List (Int × Int × Nat)) (node : Int) : Int :=
  if node < 0 ∨ nodes p l ≤ node then 0 else if node = 0 then 1 else if node ≤ p.wo then 2 else 3
def workerOf (p : PlanA) (l : List (Int × Int × Nat)) (a : Int) : Int := if chk p l = 0 ∧ 1 ≤ a then 1 + a.tmod p.wo else -1
def storeOf (p : PlanA) (l : List (Int × Int × Nat)) (key : Nat) : Int := if chk p l = 0 then 1 + p.wo + ((key % p.st.toNat : Nat) : Int) else -1
theorem rem_n (a b : Nat) : Int.tmod (a : Int) (b : Int) = ((a % b : Nat) : Int) := by
  rw [Int.tmod_eq_emod_of_nonneg (Int.natCast_nonneg a)]; simp
theorem tmod_bd (a b : Int) (ha : 0 ≤ a) (hb : 1 ≤ b) : 0 ≤ a.tmod b ∧ a.tmod b < b := by
  rw [Int.tmod_eq_emod_of_nonneg ha]
  exact ⟨Int.emod_nonneg _ (by omega), Int.emod_lt_of_pos _ (by omega)⟩
theorem key_mod (key : Nat) (st : Int) (h : 1 ≤ st) : (key : Int).tmod st = ((key % st.toNat : Nat) : Int) := by
  rw [Int.tmod_eq_emod_of_nonneg (by omega)]
  have : st = (st.toNat : Int) := by omega
  rw [this]; simp
theorem key_lt (key : Nat) (st : Int) (h : 1 ≤ st) : ((key % st.toNat : Nat) : Int) < st := by
  have := Nat.mod_lt key (show 0 < st.toNat by omega)
  omega
theorem take_snoc3 {α : Type} {l : List α} {d : α} {i : Nat} (h : i < l.length) : l.take (i + 1) = l.take i ++ [l.getD i d] := by
  rw [List.take_succ_eq_append_getElem h, List.getD_eq_getElem?_getD, List.getElem?_eq_getElem h]; rfl
theorem getD_mem3 {α : Type} {l : List α} {d : α} {i : Nat} (h : i < l.length) : l.getD i d ∈ l := by
  rw [List.getD_eq_getElem?_getD, List.getElem?_eq_getElem h]; exact List.getElem_mem _
/-- A pair: its key, and its value's two parts. -/
abbrev Pr := Int × Bool × Int
def KP : El Pr := ⟨3, fun o => [.int .u64 o.1, .bool o.2.1, .int .u64 o.2.2], (0, false, 0), fun _ => rfl⟩
def row (st : Nat) (l : List Pr) (n : Nat) : List Pr := l.filter fun x => decide (x.1.toNat % st = n)
def dealt (st : Nat) (l : List Pr) : List (List Pr) := (List.range st).map (row st l)
theorem dealt_len (st : Nat) (l : List Pr) : (dealt st l).length = st := by simp [dealt]
theorem dealt_getD (st : Nat) (l : List Pr) (n : Nat) (h : n < st) : (dealt st l).getD n [] = row st l n := by
  simp [dealt, List.getD_eq_getElem?_getD, h]
theorem dealt_nil (st : Nat) : dealt st [] = List.replicate st [] := by
  apply List.ext_getElem
  · simp [dealt]
  · intro i h1 h2; simp [dealt, row]
theorem row_len (st : Nat) (l : List Pr) (n : Nat) : (row st l n).length ≤ l.length := List.length_filter_le _ _
theorem row_snoc (st : Nat) (l : List Pr) (x : Pr) (n : Nat) : row st (l ++ [x]) n = if x.1.toNat % st = n then row st l n ++ [x] else row st l n := by
  unfold row
  rw [List.filter_append]
  split <;> rename_i h <;> simp [h]
theorem dealt_snoc (st : Nat) (l : List Pr) (x : Pr) (k : Nat) (hk : x.1.toNat % st = k) (hlt : k < st) : dealt st (l ++ [x]) = (dealt st l).set k ((dealt st l).getD k [] ++ [x]) := by
  rw [dealt_getD st l k hlt]
  apply List.ext_getElem
  · simp [dealt]
  · intro i h1 h2
    have hi : i < st := by simpa [dealt] using h1
    rw [List.getElem_set]
    simp only [dealt, List.getElem_map, List.getElem_range, row_snoc]
    by_cases h : k = i
    · subst h; simp [hk]
    · rw [if_neg h, if_neg (by omega)]
def deal (p : PlanA) (l : List (Int × Int × Nat)) (table : List Pr) : List (List Pr) := if chk p l = 0 then dealt p.st.toNat table else []
theorem deal_len (p : PlanA) (l : List (Int × Int × Nat)) (table : List Pr) : (deal p l table).length ≤ 4 := by
  unfold deal
  split
  · rename_i h
    have hk := chk_ok h
    unfold numsOk at hk
    rw [dealt_len]; omega
  · simp
theorem deal_rows {p : PlanA} {l : List (Int × Int × Nat)} {table : List Pr} : ∀ x ∈ deal p l table, x.length ≤ table.length := by
  intro x hx
  unfold deal at hx
  split at hx
  · unfold dealt at hx
    obtain ⟨n, _, rfl⟩ := List.mem_map.1 hx
    exact row_len _ _ _
  · simp at hx
end Go.Proofs.Ytnmeaokfcalbbaa.PlanPure
