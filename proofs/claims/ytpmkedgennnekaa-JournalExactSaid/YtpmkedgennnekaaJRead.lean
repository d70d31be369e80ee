/-
  An entry's bytes read again, in plain Lean. No program in sight.
-/
import Derived.Test.YtpmkedgennnekaaJPure
import Derived.Test.YtpmkedgennnekaaWireP2
set_option linter.unusedVariables false
set_option linter.unusedSimpArgs false
namespace Go.Proofs.Ytpmkedgennnekaa.Lg
open Go Go.RowKit Go.Proofs.Ytpmkedgennnekaa.WirePure
/-- A number up to 2^40 and the bytes behind it; a list of up to four and the bytes behind it. -/
def tk1 (b : List Int) : Option (Int × List Int) := if (tk 0 0 b).2.2 ≠ 0 ∨ 1099511627776 < (tk 0 0 b).1 then none else some ((tk 0 0 b).1, b.drop (tk 0 0 b).2.1.toNat)
def tn1 (b : List Int) : Option (List Int × List Int) := if (tnum b 4).2.2 ≠ 0 then none else some ((tnum b 4).1, b.drop (tnum b 4).2.1.toNat)
def rdF (x0 x1 x2 : Int) (l1 l2 : List Int) (b : List Int) (parts : Int) : Option (NSt × Int) := if 0 < b.length ∨ x0 = 0 ∨ ¬ noteOk ⟨x1, l1, l2, x2⟩ parts then none else some (⟨x1, l1, l2, x2⟩, x0)
def rdN (k : Nat) (x0 x1 x2 : Int) (l1 l2 : List Int) (b : List Int) (parts : Int) : Option (NSt × Int) :=
  match k with
  | 0 => (match tn1 b with | none => none | some (l, b) => match tn1 b with | none => none | some (l2, b) => rdF x0 x1 x2 l l2 b parts)
  | 1 => (match tn1 b with | none => none | some (l2, b) => rdF x0 x1 x2 l1 l2 b parts)
  | _ => rdF x0 x1 x2 l1 l2 b parts
def rdK (k : Nat) (x0 x1 x2 : Int) (b : List Int) (parts : Int) : Option (NSt × Int) :=
  match k with
  | 0 => (match tk1 b with | none => none | some (x0, b) => match tk1 b with | none => none | some (x1, b) => match tk1 b with | none => none | some (x2, b) => rdN 0 x0 x1 x2 [] [] b parts)
  | 1 => (match tk1 b with | none => none | some (x1, b) => match tk1 b with | none => none | some (x2, b) => rdN 0 x0 x1 x2 [] [] b parts)
  | 2 => (match tk1 b with | none => none | some (x2, b) => rdN 0 x0 x1 x2 [] [] b parts)
  | _ => rdN 0 x0 x1 x2 [] [] b parts
/-- The note and the generation of an entry's bytes. -/
def rentry (b : List Int) (parts : Int) : Option (NSt × Int) := rdK 0 0 0 0 b parts
theorem rdK_none {k : Nat} (hk : k < 3) {x0 x1 x2 parts : Int} {b : List Int} (h : tk1 b = none) : rdK k x0 x1 x2 b parts = none := by
  rcases (show k = 0 ∨ k = 1 ∨ k = 2 by omega) with rfl | rfl | rfl <;> simp only [rdK, h]
theorem rdK_some {k : Nat} (hk : k < 3) {x0 x1 x2 parts x : Int} {b b' : List Int} (h : tk1 b = some (x, b')) :
    rdK k x0 x1 x2 b parts = rdK (k + 1) (if k = 0 then x else x0) (if k = 1 then x else x1) (if k = 2 then x else x2) b' parts := by
  rcases (show k = 0 ∨ k = 1 ∨ k = 2 by omega) with rfl | rfl | rfl <;> simp [rdK, h]
theorem rdK_3 {x0 x1 x2 parts : Int} {b : List Int} : rdK 3 x0 x1 x2 b parts = rdN 0 x0 x1 x2 [] [] b parts := rfl
theorem rdN_none {k : Nat} (hk : k < 2) {x0 x1 x2 parts : Int} {l1 l2 b : List Int} (h : tn1 b = none) : rdN k x0 x1 x2 l1 l2 b parts = none := by
  rcases (show k = 0 ∨ k = 1 by omega) with rfl | rfl <;> simp only [rdN, h]
theorem rdN_some {k : Nat} (hk : k < 2) {x0 x1 x2 parts : Int} {l1 l2 l b b' : List Int} (h : tn1 b = some (l, b')) :
    rdN k x0 x1 x2 l1 l2 b parts = rdN (k + 1) x0 x1 x2 (if k = 0 then l else l1) (if k = 0 then l2 else l) b' parts := by
  rcases (show k = 0 ∨ k = 1 by omega) with rfl | rfl <;> simp [rdN, h]
theorem rdN_2 {x0 x1 x2 parts : Int} {l1 l2 b : List Int} : rdN 2 x0 x1 x2 l1 l2 b parts = rdF x0 x1 x2 l1 l2 b parts := rfl
theorem tk1_none {b : List Int} {x a e : Int} (h : tk 0 0 b = (x, a, e)) (hx : e ≠ 0 ∨ 1099511627776 < x) : tk1 b = none := by unfold tk1; rw [h, if_pos hx]
theorem tk1_some {b : List Int} {x a : Int} (h : tk 0 0 b = (x, a, 0)) (hx : x ≤ 1099511627776) : tk1 b = some (x, b.drop a.toNat) := by unfold tk1; rw [h, if_neg (by simp; omega)]
theorem tn1_none {b l : List Int} {a e : Int} (h : tnum b 4 = (l, a, e)) (hx : e ≠ 0) : tn1 b = none := by unfold tn1; rw [h, if_pos hx]
theorem tn1_some {b l : List Int} {a : Int} (h : tnum b 4 = (l, a, 0)) : tn1 b = some (l, b.drop a.toNat) := by unfold tn1; rw [h, if_neg (by simp)]
theorem tnl_at {b : List Int} (hb : ∀ c ∈ b, 0 ≤ c ∧ c ≤ 255) : ∀ (k at_ : Nat) (acc l : List Int) (a : Int), at_ ≤ b.length → tnl b k at_ acc = (l, a, 0) → 0 ≤ a ∧ a ≤ (b.length : Int) ∧ l.length ≤ acc.length + k
  | 0, at_, acc, l, a, h, ht => by
    simp only [tnl, Prod.mk.injEq] at ht
    obtain ⟨rfl, rfl, _⟩ := ht
    omega
  | k + 1, at_, acc, l, a, h, ht => by
    rw [tnl_succ] at ht
    obtain ⟨⟨x, y, e⟩, hq⟩ : ∃ q, tk 0 0 (b.drop at_) = q := ⟨_, rfl⟩
    rw [hq] at ht
    simp only at ht
    by_cases he : e = 0
    · subst he
      have hr := tk_range (fun c hc => hb c (List.mem_of_mem_drop hc)) hq
      rw [List.length_drop] at hr
      simp only [ne_eq, not_true_eq_false, if_false] at ht
      split at ht
      · simp at ht
      · have ih := tnl_at hb k (at_ + y.toNat) (acc ++ [x]) l a (by omega) ht
        simp only [List.length_append, List.length_cons, List.length_nil] at ih
        omega
    · rw [if_pos he] at ht
      simp only [Prod.mk.injEq] at ht
      exact absurd ht.2.2 he
theorem tnum_at {b l : List Int} {a : Int} (hb : ∀ c ∈ b, 0 ≤ c ∧ c ≤ 255) (h : tnum b 4 = (l, a, 0)) : 0 ≤ a ∧ a ≤ (b.length : Int) ∧ l.length ≤ 4 := by
  unfold tnum at h
  obtain ⟨⟨x, y, e⟩, hq⟩ : ∃ q, tk 0 0 b = q := ⟨_, rfl⟩
  rw [hq] at h
  simp only at h
  by_cases he : e = 0
  · subst he
    have hr := tk_range hb hq
    simp only [ne_eq, not_true_eq_false, if_false] at h
    split at h
    · simp at h
    · have := tnl_at hb x.toNat y.toNat [] l a (by omega) h
      simp only [List.length_nil] at this
      omega
  · rw [if_pos he] at h
    simp only [Prod.mk.injEq] at h
    exact absurd h.2.2 he
theorem tk1_pb {x : Int} (h0 : 0 ≤ x) (h1 : x ≤ 1099511627776) (r : List Int) : tk1 (pb x.toNat ++ r) = some (x, r) := by
  have htk := tk_pb x.toNat 0 0 r (by show x.toNat < 18446744073709551616; omega) (by omega)
  have e : tk 0 0 (pb x.toNat ++ r) = (x, ((pb x.toNat).length : Int), 0) := by
    rw [htk]; simp; omega
  rw [tk1_some e h1]
  simp
theorem tn1_nm {l : List Int} (hl : l.length ≤ 4) (h : ∀ x ∈ l, 0 ≤ x ∧ x ≤ 256) (r : List Int) : tn1 (nm l ++ r) = some (l, r) := by
  have htk := tk_pb l.length 0 0 (nmB l ++ r) (by show l.length < 18446744073709551616; omega) (by omega)
  have htk2 : tk 0 0 (nm l ++ r) = ((l.length : Int), ((pb l.length).length : Int), 0) := by rw [nm, List.append_assoc, htk]; simp
  have hd : (nm l ++ r).drop (pb l.length).length = nmB l ++ r := by rw [nm, List.append_assoc]; simp
  obtain ⟨h1, h2⟩ := tnl_back (nm l ++ r) r l (pb l.length).length [] hd (fun x hx => by have := h x hx; omega)
  have e : tnum (nm l ++ r) 4 = (l, ((nm l).length : Int), 0) := by
    unfold tnum
    rw [htk2]
    simp only [ne_eq, not_true_eq_false, if_false, Int.toNat_natCast]
    rw [if_neg (by omega), h2 (fun ⟨x, hx, hb⟩ => by have := h x hx; omega)]
    simp [nm]
  rw [tn1_some e]
  simp
theorem rentry_nbytes {n : NSt} {p' gen parts : Int} (h : noteOk n p') (hp : p' ≤ 4) (hg : 1 ≤ gen) (hg2 : gen ≤ 1099511627776) : rentry (nbytes gen n) parts = if noteOk n parts then some (n, gen) else none := by
  have hpos := noteOk_pos h
  have hlen := noteOk_len h
  have hb := h.1
  have ha := h.2.1
  unfold within at hb ha
  have e : nbytes gen n = pb gen.toNat ++ (pb n.batch.toNat ++ (pb n.att.toNat ++ (nm n.prev ++ (nm n.cur ++ [])))) := by simp [nbytes]
  unfold rentry
  rw [e]
  simp only [rdK, tk1_pb (by omega) hg2, tk1_pb hb.1 hb.2, tk1_pb ha.1 ha.2, rdN, tn1_nm (show n.prev.length ≤ 4 by omega) hpos.1, tn1_nm (show n.cur.length ≤ 4 by omega) hpos.2, rdF]
  by_cases hn : noteOk n parts
  · rw [if_pos hn, if_neg (by
      intro q
      rcases q with q | q | q
      · simp at q
      · omega
      · exact q hn)]
  · rw [if_neg hn, if_pos (.inr (.inr hn))]
theorem rentry_nil (parts : Int) : rentry [] parts = none := rfl
theorem rdF_ok {x0 x1 x2 parts : Int} {l1 l2 b : List Int} {r : NSt × Int} (h : rdF x0 x1 x2 l1 l2 b parts = some r) : r = (⟨x1, l1, l2, x2⟩, x0) ∧ noteOk r.1 parts ∧ r.2 ≠ 0 := by
  unfold rdF at h
  split at h
  · cases h
  · rename_i q
    simp only [Option.some.injEq] at h
    subst h
    refine ⟨rfl, Decidable.not_not.1 (fun hn => q (.inr (.inr hn))), fun h0 => q (.inr (.inl h0))⟩
end Go.Proofs.Ytpmkedgennnekaa.Lg
