/-
  Plain facts on the wire's lists and runs. No program in sight.
-/
import Derived.Test.YtipkfdeiallifaaWirePure
import Derived.Test.YtipkfdeiallifaaMp
set_option linter.unusedVariables false
set_option linter.unusedSimpArgs false
namespace Go.Proofs.Ytipkfdeiallifaa.WirePure
open Go.Proofs.Ytipkfdeiallifaa.Lg
instance (l : List Int) : Decidable (anyNeg l) := by unfold anyNeg; infer_instance
def numsR (l : List Int) : List Int × Int := if anyNeg l then ([], 1) else (nm l, 0)
theorem numsR_ok {l b : List Int} (h : numsR l = (b, 0)) : ¬ anyNeg l ∧ b = nm l := by
  unfold numsR at h
  split at h
  · simp at h
  · rename_i h1; exact ⟨h1, by simpa using (Prod.mk.inj h).1.symm⟩
theorem numsR_cases {l b : List Int} {e : Int} (h : numsR l = (b, e)) : e = 1 ∨ e = 0 := by
  unfold numsR at h
  split at h <;> simp at h <;> omega
def tkw (n : Nat) (l : List Int) : Int × Int := if n < 8 then (0, 3) else ((tw (l.take 8) : Int), 0)
/-- A run's bytes. -/
def run (l : List Int) : List Int := pb l.length ++ l
theorem run_len (l : List Int) : (run l).length = (pb l.length).length + l.length := by simp [run]
theorem run_bytes {l : List Int} (h : ∀ x ∈ l, 0 ≤ x ∧ x ≤ 255) : ∀ x ∈ run l, 0 ≤ x ∧ x ≤ 255 := by
  intro x hx
  rcases List.mem_append.1 hx with hx | hx
  · exact pb_bytes _ x hx
  · exact h x hx
theorem trun_run (l r : List Int) (hl : l.length < 18446744073709551616) : trun (run l ++ r) = (l, (((pb l.length).length + l.length : Nat) : Int), 0) := by
  have h := tk_pb l.length 0 0 (l ++ r) hl (by omega)
  have h2 : tk 0 0 (run l ++ r) = ((l.length : Int), ((pb l.length).length : Int), 0) := by rw [run, List.append_assoc, h]; simp
  unfold trun
  rw [h2]
  simp only [ne_eq, not_true_eq_false, if_false]
  rw [if_neg (by simp [run]; omega)]
  refine Prod.ext ?_ (Prod.ext ?_ rfl)
  · simp [run]
  · simp
theorem run_sum : ∀ ls : List (List Int), (∀ l ∈ ls, l.length < 18446744073709551616) → ((ls.map run).map List.length).sum ≤ (ls.map List.length).sum + 10 * ls.length
  | [], _ => by simp
  | l :: ls, h => by
    have ih := run_sum ls (fun q hq => h q (by simp [hq]))
    have h1 := pb_len10 (h l (by simp))
    simp only [List.map_cons, List.sum_cons, List.length_cons, run_len]
    omega
theorem sum_mem {ls : List (List Int)} {l : List Int} (h : l ∈ ls) : l.length ≤ (ls.map List.length).sum := by
  induction ls with
  | nil => cases h
  | cons x r ih =>
    simp only [List.map_cons, List.sum_cons]
    rcases List.mem_cons.1 h with rfl | h
    · omega
    · have := ih h; omega
theorem map_run_getD (ls : List (List Int)) (i : Nat) (hi : i < ls.length) : (ls.map run).getD i [] = run (ls.getD i []) := by
  simp [List.getD_eq_getElem?_getD, hi]
theorem drop_flat (R : List (List Int)) (i : Nat) (hi : i < R.length) : (R.drop i).flatten = R.getD i [] ++ (R.drop (i + 1)).flatten := by
  rw [List.drop_eq_getElem_cons hi, List.getD_eq_getElem?_getD, List.getElem?_eq_getElem hi]
  rfl
theorem flat_bytes {ls : List (List Int)} (h : ∀ l ∈ ls, ∀ x ∈ l, 0 ≤ x ∧ x ≤ 255) : ∀ x ∈ ls.flatten, 0 ≤ x ∧ x ≤ 255 := by
  intro x hx
  obtain ⟨l, hl, hx⟩ := List.mem_flatten.1 hx
  exact h l hl x hx
theorem getD_mem_ls {ls : List (List Int)} {i : Nat} (hi : i < ls.length) : ls.getD i [] ∈ ls := by
  rw [List.getD_eq_getElem?_getD, List.getElem?_eq_getElem hi]; exact List.getElem_mem _
/-- Lists there and back. -/
def big (l : List Int) : Prop := ∃ x ∈ l, x > 4611686018427387904
theorem tnl_back (full r : List Int) : ∀ (rest : List Int) (at_ : Nat) (acc : List Int), full.drop at_ = nmB rest ++ r → (∀ x ∈ rest, 0 ≤ x ∧ x < 18446744073709551616) →
    (big rest → tnl full rest.length at_ acc = ([], 0, 4)) ∧ (¬ big rest → tnl full rest.length at_ acc = (acc ++ rest, ((at_ + (nmB rest).length : Nat) : Int), 0))
  | [], at_, acc, _, _ => ⟨fun ⟨x, hx, _⟩ => (by cases hx), fun _ => (by simp [tnl, nmB])⟩
  | x :: rest, at_, acc, hd, hx => by
    have hx0 := hx x (by simp)
    have hnm : nmB (x :: rest) = pb x.toNat ++ nmB rest := by simp [nmB]
    rw [hnm, List.append_assoc] at hd
    have htk := tk_pb x.toNat 0 0 (nmB rest ++ r) (by show x.toNat < 18446744073709551616; omega) (by omega)
    have htk2 : tk 0 0 (full.drop at_) = ((x.toNat : Int), ((pb x.toNat).length : Int), 0) := by rw [hd, htk]; simp
    have hd2 : full.drop (at_ + (pb x.toNat).length) = nmB rest ++ r := by rw [← List.drop_drop, hd]; simp
    obtain ⟨ih1, ih2⟩ := tnl_back full r rest (at_ + (pb x.toNat).length) (acc ++ [x]) hd2 (fun q hq => hx q (by simp [hq]))
    have hcast : (x.toNat : Int) = x := by omega
    rw [hcast] at htk2
    rw [List.length_cons, tnl_succ, htk2]
    simp only [ne_eq, not_true_eq_false, if_false, Int.toNat_natCast]
    by_cases hb : x > 4611686018427387904
    · refine ⟨fun _ => by rw [if_pos hb], fun hn => absurd ⟨x, by simp, hb⟩ hn⟩
    · rw [if_neg hb]
      refine ⟨fun ⟨q, hq, hq2⟩ => ih1 ?_, fun hn => ?_⟩
      · rcases List.mem_cons.1 hq with rfl | hq
        · exact absurd hq2 hb
        · exact ⟨q, hq, hq2⟩
      · rw [ih2 (fun ⟨q, hq, hq2⟩ => hn ⟨q, by simp [hq], hq2⟩), hnm]
        simp [Nat.add_assoc]
theorem tnum_back (l r : List Int) (hl : l.length < 18446744073709551616) (h : ∀ x ∈ l, 0 ≤ x ∧ x < 18446744073709551616) :
    (big l → tnum (nm l ++ r) (l.length : Int) = ([], 0, 4)) ∧ (¬ big l → tnum (nm l ++ r) (l.length : Int) = (l, ((nm l).length : Int), 0)) := by
  have htk := tk_pb l.length 0 0 (nmB l ++ r) hl (by omega)
  have htk2 : tk 0 0 (nm l ++ r) = ((l.length : Int), ((pb l.length).length : Int), 0) := by rw [nm, List.append_assoc, htk]; simp
  have hd : (nm l ++ r).drop (pb l.length).length = nmB l ++ r := by rw [nm, List.append_assoc]; simp
  obtain ⟨h1, h2⟩ := tnl_back (nm l ++ r) r l (pb l.length).length [] hd h
  unfold tnum
  rw [htk2]
  simp only [ne_eq, not_true_eq_false, if_false, Int.toNat_natCast]
  rw [if_neg (by omega)]
  refine ⟨h1, fun hn => ?_⟩
  rw [h2 hn]
  simp [nm]
end Go.Proofs.Ytipkfdeiallifaa.WirePure
