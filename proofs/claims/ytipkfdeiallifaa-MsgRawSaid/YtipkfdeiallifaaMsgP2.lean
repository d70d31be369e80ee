/-
  Messages there and back, in plain Lean. No program in sight.
-/
import Derived.Test.YtipkfdeiallifaaMsg5
import Derived.Test.YtipkfdeiallifaaMsg3
import Derived.Test.YtipkfdeiallifaaWireP2
set_option linter.unusedVariables false
set_option linter.unusedSimpArgs false
namespace Go.Proofs.Ytipkfdeiallifaa.Lg
open Go Go.Proofs.Ytipkfdeiallifaa.WirePure
theorem tk_pb0 (n : Nat) (rest : List Int) (hn : n < 18446744073709551616) : tk 0 0 (pb n ++ rest) = ((n : Int), ((pb n).length : Int), 0) := by
  rw [tk_pb n 0 0 rest hn (by omega)]; simp
theorem tk_cut0 (n k : Nat) (hn : n < 18446744073709551616) (hk : k < (pb n).length) : tk 0 0 ((pb n).take k) = (0, 0, 3) := tk_short n 0 0 k hn hk
theorem tkd_pb {n : Nat} {most over : Int} (rest : List Int) (hn : n < 18446744073709551616) (hm : (n : Int) ≤ most) : tkd (pb n ++ rest) most over = (0, (n : Int), rest) := by
  rw [tkd_ok (tk_pb0 n rest hn) (by omega)]; simp
theorem tkd_cut {n k : Nat} {most over : Int} (hn : n < 18446744073709551616) (hk : k < (pb n).length) : tkd ((pb n).take k) most over = (3, 0, []) := tkd_e (tk_cut0 n k hn hk) (by decide)
theorem tkd_form {l r : List Int} {most over x : Int} (hb : IsBytes l) (ho : over ≠ 0) (h : tkd l most over = (0, x, r)) : l = pb x.toNat ++ r ∧ 0 ≤ x ∧ x ≤ most ∧ x < 18446744073709551616 ∧ IsBytes r := by
  obtain ⟨⟨y, a, e⟩, hq⟩ : ∃ q, tk 0 0 l = q := ⟨_, rfl⟩
  by_cases h1 : e ≠ 0
  · rw [tkd_e hq h1] at h; simp only [Prod.mk.injEq] at h; exact absurd h.1 h1
  · have e0 : e = 0 := by omega
    subst e0
    have hr := tk_range hb hq
    by_cases h2 : y > most
    · rw [tkd_over hq h2] at h; simp only [Prod.mk.injEq] at h; exact absurd h.1 ho
    · obtain ⟨yn, rfl⟩ : ∃ k : Nat, y = (k : Int) := ⟨y.toNat, by omega⟩
      obtain ⟨an, rfl⟩ : ∃ k : Nat, a = (k : Int) := ⟨a.toNat, by omega⟩
      rw [tkd_ok hq h2] at h
      simp only [Prod.mk.injEq, true_and] at h
      obtain ⟨rfl, rfl⟩ := h
      refine ⟨?_, by omega, by omega, by omega, hb.drop' an⟩
      have h3 := hr.2.2.2.2.2
      simp only [Int.toNat_natCast] at h3 ⊢
      rw [← h3, List.take_append_drop]
theorem take_app {α : Type} {A B : List α} {k : Nat} (h : k < A.length) : (A ++ B).take k = A.take k := by rw [List.take_append_of_le_length (by omega)]
theorem take_app2 {α : Type} {A B : List α} {k : Nat} (h : A.length ≤ k) : (A ++ B).take k = A ++ B.take (k - A.length) := by rw [List.take_append, List.take_of_length_le h]
/-- Numbers one behind the other, each with a bound. -/
def numsD (most : Int) : Nat → List Int → List Int → Int × List Int × List Int
  | 0, l, acc => (0, acc, l)
  | k + 1, l, acc => if (tkd l most 4).1 ≠ 0 then ((tkd l most 4).1, [], []) else numsD most k (tkd l most 4).2.2 (acc ++ [(tkd l most 4).2.1])
theorem headD_eq : ∀ k l acc, headD k l acc = numsD 1099511627776 k l acc
  | 0, l, acc => rfl
  | k + 1, l, acc => by simp only [headD, numsD, headD_eq k]
theorem keysD_eq : ∀ k l acc, keysD k l acc = numsD 18446744073709551615 k l acc
  | 0, l, acc => rfl
  | k + 1, l, acc => by simp only [keysD, numsD, keysD_eq k]
theorem nmB_cons (y : Int) (h : List Int) : nmB (y :: h) = pb y.toNat ++ nmB h := by simp [nmB]
theorem numsD_back {most : Int} (hm : most < 18446744073709551616) : ∀ (h acc rest : List Int), (∀ y ∈ h, 0 ≤ y ∧ y ≤ most) → numsD most h.length (nmB h ++ rest) acc = (0, acc ++ h, rest)
  | [], acc, rest, _ => by simp [numsD, nmB]
  | y :: h, acc, rest, hy => by
    have h1 := hy y (by simp)
    have ht : tkd (pb y.toNat ++ (nmB h ++ rest)) most 4 = (0, (y.toNat : Int), nmB h ++ rest) := tkd_pb _ (by omega) (by omega)
    rw [nmB_cons, List.append_assoc, List.length_cons]
    simp only [numsD, ht]
    rw [if_neg (by simp), numsD_back hm h _ rest (fun z hz => hy z (by simp [hz]))]
    have : (y.toNat : Int) = y := by omega
    rw [this]; simp
theorem numsD_cut {most : Int} (hm : most < 18446744073709551616) : ∀ (h acc : List Int) (k : Nat), (∀ y ∈ h, 0 ≤ y ∧ y ≤ most) → k < (nmB h).length → numsD most h.length ((nmB h).take k) acc = (3, [], [])
  | [], acc, k, _, hk => by simp [nmB] at hk
  | y :: h, acc, k, hy, hk => by
    have h1 := hy y (by simp)
    rw [nmB_cons, List.length_append] at hk
    rw [nmB_cons, List.length_cons]
    by_cases hc : k < (pb y.toNat).length
    · rw [take_app hc]
      simp only [numsD, tkd_cut (most := most) (over := 4) (by omega : y.toNat < 18446744073709551616) hc]
      rw [if_pos (by decide)]
    · rw [take_app2 (by omega)]
      have ht : tkd (pb y.toNat ++ (nmB h).take (k - (pb y.toNat).length)) most 4 = (0, (y.toNat : Int), (nmB h).take (k - (pb y.toNat).length)) := tkd_pb _ (by omega) (by omega)
      simp only [numsD, ht]
      rw [if_neg (by simp), numsD_cut hm h _ _ (fun z hz => hy z (by simp [hz])) (by omega)]
theorem numsD_form {most : Int} : ∀ (n : Nat) (l acc acc' r : List Int), IsBytes l → numsD most n l acc = (0, acc', r) → ∃ h : List Int, acc' = acc ++ h ∧ h.length = n ∧ l = nmB h ++ r ∧ (∀ y ∈ h, 0 ≤ y ∧ y ≤ most ∧ y < 18446744073709551616) ∧ IsBytes r
  | 0, l, acc, acc', r, hb, h => by
    simp only [numsD, Prod.mk.injEq, true_and] at h
    obtain ⟨rfl, rfl⟩ := h
    exact ⟨[], by simp, rfl, by simp [nmB], by simp, hb⟩
  | n + 1, l, acc, acc', r, hb, h => by
    obtain ⟨⟨e, x, q⟩, ht⟩ : ∃ q, tkd l most 4 = q := ⟨_, rfl⟩
    simp only [numsD, ht] at h
    by_cases he : e ≠ 0
    · rw [if_pos he] at h; simp only [Prod.mk.injEq] at h; exact absurd h.1 he
    · rw [if_neg he] at h
      have e0 : e = 0 := by omega
      subst e0
      obtain ⟨hl, hx0, hxm, hx6, hbq⟩ := tkd_form hb (by decide) ht
      obtain ⟨g, h1, h2, h3, h4, h5⟩ := numsD_form n q _ acc' r hbq h
      refine ⟨x :: g, by rw [h1]; simp, by simp [h2], by rw [nmB_cons, List.append_assoc, ← h3]; exact hl, fun y hy => ?_, h5⟩
      rcases List.mem_cons.1 hy with rfl | hy
      · exact ⟨hx0, hxm, hx6⟩
      · exact h4 y hy
/-! ### Pairs -/
theorem pairsB_cons (y : Pr) (h : List Pr) : pairsB (y :: h) = pb y.1.toNat ++ (wd 8 y.2.2.toNat ++ pairsB h) := by simp [pairsB]
theorem tw8 {x : Nat} {rest : List Int} (h : x < 18446744073709551616) : tw ((wd 8 x ++ rest).take 8) = x := by
  have hl := wd_len 8 x
  rw [List.take_append_of_le_length (by omega), List.take_of_length_le (by omega)]
  exact tw_wd 8 x (by simpa using h)
theorem wd_tw : ∀ (l : List Int), IsBytes l → wd l.length (tw l) = l
  | [], _ => rfl
  | c :: l, h => by
    have hc := h c (by simp)
    have ih := wd_tw l (fun d hd => h d (by simp [hd]))
    simp only [List.length_cons, wd, tw]
    have e1 : (c.toNat + 256 * tw l) % 256 = c.toNat := by omega
    have e2 : (c.toNat + 256 * tw l) / 256 = tw l := by omega
    rw [e1, e2, ih]
    have : (c.toNat : Int) = c := by omega
    rw [this]
def PrOk (y : Pr) : Prop := (0 ≤ y.1 ∧ y.1 < 18446744073709551616) ∧ 0 ≤ y.2.2 ∧ y.2.2 < 18446744073709551616
theorem pairsD_back : ∀ (h acc : List Pr) (rest : List Int), (∀ y ∈ h, PrOk y ∧ y.2.1 = true) → pairsD h.length (pairsB h ++ rest) acc = (0, acc ++ h, rest)
  | [], acc, rest, _ => by simp [pairsD, pairsB]
  | (a, b, c) :: h, acc, rest, hy => by
    have h1 := hy (a, b, c) (by simp)
    simp only [PrOk] at h1
    obtain ⟨⟨⟨ha, ha2⟩, hc, hc2⟩, hbt⟩ := h1
    subst hbt
    have ht : tkd (pb a.toNat ++ (wd 8 c.toNat ++ (pairsB h ++ rest))) 18446744073709551615 4 = (0, (a.toNat : Int), wd 8 c.toNat ++ (pairsB h ++ rest)) := tkd_pb _ (by omega) (by omega)
    have hl := wd_len 8 c.toNat
    rw [pairsB_cons, List.length_cons]
    simp only [List.append_assoc]
    rw [pairsD_ok ht (by rw [List.length_append]; omega), tw8 (by omega)]
    have hd : (wd 8 c.toNat ++ (pairsB h ++ rest)).drop 8 = pairsB h ++ rest := by
      rw [List.drop_append_of_le_length (by omega), List.drop_eq_nil_of_le (by omega)]; rfl
    rw [hd, pairsD_back h _ rest (fun z hz => hy z (by simp [hz]))]
    have e1 : (a.toNat : Int) = a := by omega
    have e2 : (c.toNat : Int) = c := by omega
    rw [e1, e2]; simp
theorem pairsD_cut : ∀ (h acc : List Pr) (k : Nat), (∀ y ∈ h, PrOk y ∧ y.2.1 = true) → k < (pairsB h).length → pairsD h.length ((pairsB h).take k) acc = (3, [], [])
  | [], acc, k, _, hk => by simp [pairsB] at hk
  | (a, b, c) :: h, acc, k, hy, hk => by
    have h1 := hy (a, b, c) (by simp)
    simp only [PrOk] at h1
    obtain ⟨⟨⟨ha, ha2⟩, hc, hc2⟩, hbt⟩ := h1
    have hl := wd_len 8 c.toNat
    rw [pairsB_cons] at hk ⊢
    simp only [List.length_append] at hk
    rw [List.length_cons]
    simp only at hk ⊢
    by_cases hc1 : k < (pb a.toNat).length
    · rw [take_app hc1]
      exact pairsD_e (tkd_cut (by omega) hc1) (by decide)
    · rw [take_app2 (by omega)]
      have ht : tkd (pb a.toNat ++ (wd 8 c.toNat ++ pairsB h).take (k - (pb a.toNat).length)) 18446744073709551615 4 = (0, (a.toNat : Int), (wd 8 c.toNat ++ pairsB h).take (k - (pb a.toNat).length)) := tkd_pb _ (by omega) (by omega)
      by_cases hc2 : k - (pb a.toNat).length < 8
      · exact pairsD_3 ht (by rw [List.length_take]; omega)
      · rw [pairsD_ok ht (by rw [List.length_take, List.length_append]; omega)]
        have hd : ((wd 8 c.toNat ++ pairsB h).take (k - (pb a.toNat).length)).drop 8 = (pairsB h).take (k - (pb a.toNat).length - 8) := by
          rw [take_app2 (by omega), List.drop_append_of_le_length (by omega), List.drop_eq_nil_of_le (by omega), hl]; rfl
        rw [hd]
        exact pairsD_cut h _ _ (fun z hz => hy z (by simp [hz])) (by omega)
theorem pairsD_form : ∀ (n : Nat) (l : List Int) (acc acc' : List Pr) (r : List Int), IsBytes l → pairsD n l acc = (0, acc', r) → ∃ h : List Pr, acc' = acc ++ h ∧ h.length = n ∧ l = pairsB h ++ r ∧ (∀ y ∈ h, PrOk y) ∧ IsBytes r
  | 0, l, acc, acc', r, hb, h => by
    simp only [pairsD, Prod.mk.injEq, true_and] at h
    obtain ⟨rfl, rfl⟩ := h
    exact ⟨[], by simp, rfl, by simp [pairsB], by simp, hb⟩
  | n + 1, l, acc, acc', r, hb, h => by
    obtain ⟨⟨e, x, q⟩, ht⟩ : ∃ q, tkd l 18446744073709551615 4 = q := ⟨_, rfl⟩
    by_cases he : e ≠ 0
    · have h' := h
      simp only [pairsD, ht] at h'
      rw [if_pos he] at h'; simp only [Prod.mk.injEq] at h'; exact absurd h'.1 he
    · have e0 : e = 0 := by omega
      subst e0
      obtain ⟨hl, hx0, hxm, hx6, hbq⟩ := tkd_form hb (by decide) ht
      by_cases h8 : q.length < 8
      · rw [pairsD_3 ht h8] at h; simp at h
      · rw [pairsD_ok ht (by omega)] at h
        obtain ⟨g, h1, h2, h3, h4, h5⟩ := pairsD_form n (q.drop 8) _ acc' r (hbq.drop' 8) h
        have hw := wd_tw (q.take 8) (hbq.take' 8)
        rw [List.length_take, Nat.min_eq_left (by omega)] at hw
        have hlt := tw_lt (q.take 8) (hbq.take' 8)
        rw [List.length_take, Nat.min_eq_left (by omega)] at hlt
        refine ⟨(x, true, (tw (q.take 8) : Int)) :: g, by rw [h1]; simp, by simp [h2], ?_, fun y hy => ?_, h5⟩
        · rw [pairsB_cons]
          simp only [Int.toNat_natCast, List.append_assoc]
          rw [hw, ← h3, List.take_append_drop]; exact hl
        · rcases List.mem_cons.1 hy with rfl | hy
          · have h256 : (256 : Nat) ^ 8 = 18446744073709551616 := by decide
            exact ⟨⟨hx0, hx6⟩, by simp only; omega, by simp only; omega⟩
          · exact h4 y hy
/-! ### Lists of ends -/
theorem tnum_most {l r : List Int} {most : Int} (hl : l.length < 18446744073709551616) (hm : (l.length : Int) ≤ most) : tnum (nm l ++ r) most = tnum (nm l ++ r) (l.length : Int) := by
  have htk2 : tk 0 0 (nm l ++ r) = ((l.length : Int), ((pb l.length).length : Int), 0) := by rw [nm, List.append_assoc]; exact tk_pb0 _ _ hl
  rw [tnum_o htk2 (by omega), tnum_o htk2 (by omega)]
theorem ends_back {l r : List Int} (h : endsOk l) : tnum (nm l ++ r) 4 = (l, ((nm l).length : Int), 0) := by
  rw [tnum_most (by have := h.2.2; omega) (by have := h.2.2; omega)]
  exact (tnum_back l r (by have := h.2.2; omega) (fun x hx => by have := h.1 x hx; omega)).2 (fun ⟨x, hx, hb⟩ => by have := h.1 x hx; omega)
theorem tnl_cut (full : List Int) : ∀ (rest : List Int) (at_ j : Nat) (acc : List Int), full.drop at_ = (nmB rest).take j → j < (nmB rest).length → (∀ x ∈ rest, 0 ≤ x ∧ x ≤ 256) → tnl full rest.length at_ acc = ([], 0, 3)
  | [], at_, j, acc, _, hj, _ => by simp [nmB] at hj
  | x :: rest, at_, j, acc, hd, hj, hx => by
    have h1 := hx x (by simp)
    rw [nmB_cons] at hd hj
    rw [List.length_append] at hj
    rw [List.length_cons]
    by_cases hc : j < (pb x.toNat).length
    · rw [take_app hc] at hd
      exact tnl_e (by rw [hd]; exact tk_cut0 _ _ (by omega) hc) (by decide)
    · rw [take_app2 (by omega)] at hd
      have htk : tk 0 0 (full.drop at_) = ((x.toNat : Int), ((pb x.toNat).length : Int), 0) := by rw [hd]; exact tk_pb0 _ _ (by omega)
      rw [tnl_o htk (by omega)]
      refine tnl_cut full rest _ (j - (pb x.toNat).length) _ ?_ (by omega) (fun y hy => hx y (by simp [hy]))
      rw [← List.drop_drop, hd, List.drop_append_of_le_length (by omega), List.drop_eq_nil_of_le (by omega)]; rfl
theorem ends_cut {l : List Int} {k : Nat} (h : endsOk l) (hk : k < (nm l).length) : tnum ((nm l).take k) 4 = ([], 0, 3) := by
  have hll := h.2.2
  unfold nm at hk ⊢
  rw [List.length_append] at hk
  by_cases hc : k < (pb l.length).length
  · rw [take_app hc]
    exact tnum_e (tk_cut0 _ _ (by omega) hc) (by decide)
  · rw [take_app2 (by omega)]
    rw [tnum_o (tk_pb0 _ _ (by omega)) (by omega)]
    refine tnl_cut _ l _ (k - (pb l.length).length) [] ?_ (by omega) h.1
    rw [List.drop_append_of_le_length (by omega), List.drop_eq_nil_of_le (by omega)]; rfl
theorem tnl_form {l : List Int} (hb : IsBytes l) : ∀ (k at_ : Nat) (acc es : List Int) (u : Int), at_ ≤ l.length → tnl l k at_ acc = (es, u, 0) →
    ∃ h : List Int, es = acc ++ h ∧ h.length = k ∧ l.drop at_ = nmB h ++ l.drop u.toNat ∧ (∀ y ∈ h, 0 ≤ y ∧ y ≤ 4611686018427387904) ∧ 0 ≤ u
  | 0, at_, acc, es, u, ha, h => by
    simp only [tnl, Prod.mk.injEq, and_true] at h
    obtain ⟨rfl, rfl⟩ := h
    exact ⟨[], by simp, rfl, by simp [nmB], by simp, by omega⟩
  | k + 1, at_, acc, es, u, ha, h => by
    obtain ⟨⟨x, b, e⟩, hq⟩ : ∃ q, tk 0 0 (l.drop at_) = q := ⟨_, rfl⟩
    by_cases h1 : e ≠ 0
    · rw [tnl_e hq h1] at h; simp only [Prod.mk.injEq] at h; exact absurd h.2.2 h1
    · have e0 : e = 0 := by omega
      subst e0
      have hr := tk_range (hb.drop' at_) hq
      rw [List.length_drop] at hr
      by_cases h2 : x > 4611686018427387904
      · rw [tnl_4 hq h2] at h; simp at h
      · obtain ⟨xn, rfl⟩ : ∃ k : Nat, x = (k : Int) := ⟨x.toNat, by omega⟩
        obtain ⟨bn, rfl⟩ : ∃ k : Nat, b = (k : Int) := ⟨b.toNat, by omega⟩
        rw [tnl_o hq h2] at h
        obtain ⟨g, g1, g2, g3, g4, g5⟩ := tnl_form hb k (at_ + bn) _ es u (by omega) h
        have h3 := hr.2.2.2.2.2
        simp only [Int.toNat_natCast] at h3
        refine ⟨(xn : Int) :: g, by rw [g1]; simp, by simp [g2], ?_, fun y hy => ?_, g5⟩
        · rw [nmB_cons, List.append_assoc, ← g3, ← List.drop_drop]
          simp only [Int.toNat_natCast]
          rw [← h3, List.take_append_drop]
        · rcases List.mem_cons.1 hy with rfl | hy
          · omega
          · exact g4 y hy
theorem ends_form {l es : List Int} {u : Int} (hb : IsBytes l) (h : tnum l 4 = (es, u, 0)) : l = nm es ++ l.drop u.toNat ∧ (∀ y ∈ es, 0 ≤ y ∧ y ≤ 4611686018427387904) := by
  obtain ⟨⟨x, b, e⟩, hq⟩ : ∃ q, tk 0 0 l = q := ⟨_, rfl⟩
  by_cases h1 : e ≠ 0
  · rw [tnum_e hq h1] at h; simp only [Prod.mk.injEq] at h; exact absurd h.2.2 h1
  · have e0 : e = 0 := by omega
    subst e0
    have hr := tk_range hb hq
    by_cases h2 : (4 : Int) < 0 ∨ x > 4
    · rw [tnum_6 hq h2] at h; simp at h
    · obtain ⟨xn, rfl⟩ : ∃ k : Nat, x = (k : Int) := ⟨x.toNat, by omega⟩
      obtain ⟨bn, rfl⟩ : ∃ k : Nat, b = (k : Int) := ⟨b.toNat, by omega⟩
      rw [tnum_o hq h2] at h
      obtain ⟨g, g1, g2, g3, g4, g5⟩ := tnl_form hb _ _ _ _ _ (by omega) h
      have h3 := hr.2.2.2.2.2
      simp only [Int.toNat_natCast] at h3
      simp only [List.nil_append] at g1
      subst g1
      refine ⟨?_, g4⟩
      unfold nm
      rw [g2, List.append_assoc, ← g3, ← h3, List.take_append_drop]
/-! ### What a kind asks for -/
def mhd (x : MC) : MC := ⟨x.k, x.f, x.t, x.b, x.a, 0, [], [], []⟩
theorem mof_cases {k : Int} (h : mof k ≠ 0) : mof k = 1 ∨ mof k = 2 ∨ mof k = 3 ∨ mof k = 4 := by have := mof_range k; omega
theorem mc_ext {x y : MC} (h1 : x.k = y.k) (h2 : x.f = y.f) (h3 : x.t = y.t) (h4 : x.b = y.b) (h5 : x.a = y.a) (h6 : x.c = y.c) (h7 : x.es = y.es) (h8 : x.ks = y.ks) (h9 : x.ps = y.ps) : x = y := by
  cases x; cases y; simp_all
theorem body_back {x : MC} (hs : Msound x) (hi : MIn x) (r : List Int) : bodyD (mhd x) (bodyB x ++ r) = (0, x, r) := by
  have hn := sound_num hs
  obtain ⟨h0, _, _, _, _, h1, n1, h2, n2, h3, n3, h4, n4⟩ := hs
  rcases mof_cases h0 with e | e | e | e
  · rw [body_1 e]
    have hb := ends_back (r := r) (h1 e)
    rw [body1_ok (x := mhd x) e (by rw [hb]), hb]
    simp only [Int.toNat_natCast, List.drop_left]
    congr 2
    exact mc_ext rfl rfl rfl rfl rfl (by rw [n4 (by omega)]; rfl) rfl (by rw [n2 (by omega)]; rfl) (by rw [n3 (by omega)]; rfl)
  · rw [body_2 e, List.append_assoc]
    have hk := numsD_back (most := 18446744073709551615) (by omega) x.ks [] r (fun y hy => by have := hi.ks y hy; omega)
    rw [← keysD_eq] at hk
    rw [body2_ok (x := mhd x) e (tkd_pb _ (by omega) (by omega)) hk]
    congr 2
    exact mc_ext rfl rfl rfl rfl rfl (by rw [n4 (by omega)]; rfl) (by rw [n1 (by omega)]; rfl) (by simp) (by rw [n3 (by omega)]; rfl)
  · rw [body_3 e, List.append_assoc]
    have hk := pairsD_back x.ps [] r (fun y hy => ⟨hi.ps y hy, (h3 e).2.1 y hy⟩)
    rw [body3_ok (x := mhd x) e (tkd_pb _ (by omega) (by omega)) hk]
    congr 2
    exact mc_ext rfl rfl rfl rfl rfl (by rw [n4 (by omega)]; rfl) (by rw [n1 (by omega)]; rfl) (by rw [n2 (by omega)]; rfl) (by simp)
  · rw [body_4 e]
    have hc := h4 e
    rw [body4_ok (x := mhd x) (by show mof x.k ≠ 1; omega) (by show mof x.k ≠ 2; omega) (by show mof x.k ≠ 3; omega) (tkd_pb _ (by omega) (by omega))]
    congr 2
    exact mc_ext rfl rfl rfl rfl rfl (by show ((x.c.toNat : Nat) : Int) = x.c; omega) (by rw [n1 (by omega)]; rfl) (by rw [n2 (by omega)]; rfl) (by rw [n3 (by omega)]; rfl)
theorem body_cut {x : MC} (hs : Msound x) (hi : MIn x) {k : Nat} (hk : k < (bodyB x).length) : bodyD (mhd x) ((bodyB x).take k) = (3, mhd x, []) := by
  have hn := sound_num hs
  obtain ⟨h0, _, _, _, _, h1, n1, h2, n2, h3, n3, h4, n4⟩ := hs
  rcases mof_cases h0 with e | e | e | e
  · rw [body_1 e] at hk ⊢
    have hb := ends_cut (h1 e) hk
    rw [body1_e (x := mhd x) e (by rw [hb]; decide), hb]
  · rw [body_2 e] at hk ⊢
    rw [List.length_append] at hk
    by_cases hc : k < (pb x.ks.length).length
    · rw [take_app hc]
      exact body2_e (x := mhd x) e (tkd_cut (by omega) hc) (by decide)
    · rw [take_app2 (by omega)]
      have hq := numsD_cut (most := 18446744073709551615) (by omega) x.ks [] (k - (pb x.ks.length).length) (fun y hy => by have := hi.ks y hy; omega) (by omega)
      rw [← keysD_eq] at hq
      exact body2_k (x := mhd x) e (tkd_pb _ (by omega) (by omega)) hq (by decide)
  · rw [body_3 e] at hk ⊢
    rw [List.length_append] at hk
    by_cases hc : k < (pb x.ps.length).length
    · rw [take_app hc]
      exact body3_e (x := mhd x) e (tkd_cut (by omega) hc) (by decide)
    · rw [take_app2 (by omega)]
      have hq := pairsD_cut x.ps [] (k - (pb x.ps.length).length) (fun y hy => ⟨hi.ps y hy, (h3 e).2.1 y hy⟩) (by omega)
      exact body3_k (x := mhd x) e (tkd_pb _ (by omega) (by omega)) hq (by decide)
  · rw [body_4 e] at hk ⊢
    have hc := h4 e
    exact body4_e (x := mhd x) (by show mof x.k ≠ 1; omega) (by show mof x.k ≠ 2; omega) (by show mof x.k ≠ 3; omega) (tkd_cut (by omega) hk) (by decide)
theorem body_form {x y : MC} {l r : List Int} (h0 : mof x.k ≠ 0) (hx : x = mhd x) (hb : IsBytes l) (h : bodyD x l = (0, y, r)) : l = bodyB y ++ r ∧ mhd y = x ∧ MIn y := by
  rcases mof_cases h0 with e | e | e | e
  · obtain ⟨⟨es, u, q⟩, hq⟩ : ∃ q, tnum l 4 = q := ⟨_, rfl⟩
    by_cases h1 : q ≠ 0
    · rw [body1_e e (by rw [hq]; exact h1), hq] at h; simp only [Prod.mk.injEq] at h; exact absurd h.1 h1
    · have q0 : q = 0 := by omega
      subst q0
      rw [body1_ok e (by rw [hq]), hq] at h
      simp only [Prod.mk.injEq, true_and] at h
      obtain ⟨rfl, rfl⟩ := h
      obtain ⟨f1, f2⟩ := ends_form hb hq
      refine ⟨?_, hx.symm, ⟨fun y hy => by have := f2 y hy; omega, fun y hy => ?_, fun y hy => ?_⟩⟩
      · rw [body_1 (x := { x with es := es }) e]; exact f1
      · rw [hx] at hy; simp [mhd] at hy
      · rw [hx] at hy; simp [mhd] at hy
  · obtain ⟨⟨q, n, s⟩, hq⟩ : ∃ q, tkd l 64 6 = q := ⟨_, rfl⟩
    by_cases h1 : q ≠ 0
    · have h' := h
      unfold bodyD at h'
      rw [if_neg (by omega), if_pos e, hq, if_pos h1] at h'
      simp only [Prod.mk.injEq] at h'; exact absurd h'.1 h1
    · have q0 : q = 0 := by omega
      subst q0
      obtain ⟨g1, g2, g3, g4, g5⟩ := tkd_form hb (by decide) hq
      obtain ⟨nn, rfl⟩ : ∃ k : Nat, n = (k : Int) := ⟨n.toNat, by omega⟩
      obtain ⟨⟨e2, ks, s2⟩, hk⟩ : ∃ q, keysD nn s [] = q := ⟨_, rfl⟩
      have h' := h
      unfold bodyD at h'
      rw [if_neg (by omega), if_pos e, hq, if_neg (by simp)] at h'
      simp only [Int.toNat_natCast, hk] at h'
      by_cases h2 : e2 ≠ 0
      · rw [if_pos h2] at h'; simp only [Prod.mk.injEq] at h'; exact absurd h'.1 h2
      · rw [if_neg h2] at h'
        have z : e2 = 0 := by omega
        subst z
        simp only [Prod.mk.injEq, true_and] at h'
        obtain ⟨rfl, rfl⟩ := h'
        rw [keysD_eq] at hk
        obtain ⟨g, k1, k2, k3, k4, k5⟩ := numsD_form nn s [] ks s2 g5 hk
        simp only [List.nil_append] at k1
        subst k1
        refine ⟨?_, hx.symm, ⟨fun y hy => ?_, fun y hy => by have := k4 y hy; omega, fun y hy => ?_⟩⟩
        · rw [body_2 (x := { x with ks := ks }) e]
          simp only
          rw [k2, List.append_assoc, ← k3]
          simpa using g1
        · rw [hx] at hy; simp [mhd] at hy
        · rw [hx] at hy; simp [mhd] at hy
  · obtain ⟨⟨q, n, s⟩, hq⟩ : ∃ q, tkd l 64 6 = q := ⟨_, rfl⟩
    by_cases h1 : q ≠ 0
    · have h' := h
      unfold bodyD at h'
      rw [if_neg (by omega), if_neg (by omega), if_pos e, hq, if_pos h1] at h'
      simp only [Prod.mk.injEq] at h'; exact absurd h'.1 h1
    · have q0 : q = 0 := by omega
      subst q0
      obtain ⟨g1, g2, g3, g4, g5⟩ := tkd_form hb (by decide) hq
      obtain ⟨nn, rfl⟩ : ∃ k : Nat, n = (k : Int) := ⟨n.toNat, by omega⟩
      obtain ⟨⟨e2, ks, s2⟩, hk⟩ : ∃ q, pairsD nn s [] = q := ⟨_, rfl⟩
      have h' := h
      unfold bodyD at h'
      rw [if_neg (by omega), if_neg (by omega), if_pos e, hq, if_neg (by simp)] at h'
      simp only [Int.toNat_natCast, hk] at h'
      by_cases h2 : e2 ≠ 0
      · rw [if_pos h2] at h'; simp only [Prod.mk.injEq] at h'; exact absurd h'.1 h2
      · rw [if_neg h2] at h'
        have z : e2 = 0 := by omega
        subst z
        simp only [Prod.mk.injEq, true_and] at h'
        obtain ⟨rfl, rfl⟩ := h'
        obtain ⟨g, k1, k2, k3, k4, k5⟩ := pairsD_form nn s [] ks s2 g5 hk
        simp only [List.nil_append] at k1
        subst k1
        refine ⟨?_, hx.symm, ⟨fun y hy => ?_, fun y hy => ?_, fun y hy => k4 y hy⟩⟩
        · rw [body_3 (x := { x with ps := ks }) e]
          simp only
          rw [k2, List.append_assoc, ← k3]
          simpa using g1
        · rw [hx] at hy; simp [mhd] at hy
        · rw [hx] at hy; simp [mhd] at hy
  · obtain ⟨⟨q, n, s⟩, hq⟩ : ∃ q, tkd l 1099511627776 4 = q := ⟨_, rfl⟩
    have h' := h
    unfold bodyD at h'
    rw [if_neg (by omega), if_neg (by omega), if_neg (by omega), hq] at h'
    by_cases h1 : q ≠ 0
    · rw [if_pos h1] at h'; simp only [Prod.mk.injEq] at h'; exact absurd h'.1 h1
    · rw [if_neg h1] at h'
      have q0 : q = 0 := by omega
      subst q0
      obtain ⟨g1, g2, g3, g4, g5⟩ := tkd_form hb (by decide) hq
      simp only [Prod.mk.injEq, true_and] at h'
      obtain ⟨rfl, rfl⟩ := h'
      refine ⟨?_, hx.symm, ⟨fun y hy => ?_, fun y hy => ?_, fun y hy => ?_⟩⟩
      · rw [body_4 (x := { x with c := n }) e]; exact g1
      · rw [hx] at hy; simp [mhd] at hy
      · rw [hx] at hy; simp [mhd] at hy
      · rw [hx] at hy; simp [mhd] at hy
/-! ### Whole messages -/
theorem sound_k {x : MC} (hs : Msound x) : 1 ≤ x.k ∧ x.k ≤ 8 := by
  have h0 := hs.1
  unfold mof at h0
  repeat (first | omega | split at h0)
theorem Menc_eq (x : MC) : Menc x = pb x.k.toNat ++ (nmB [x.f, x.t, x.b, x.a] ++ bodyB x) := by
  unfold Menc; rw [nmB_cons, List.append_assoc]
theorem mcOf4 (x : MC) : mcOf x.k [x.f, x.t, x.b, x.a] = mhd x := rfl
theorem head_in {x : MC} (hs : Msound x) : ∀ y ∈ [x.f, x.t, x.b, x.a], 0 ≤ y ∧ y ≤ 1099511627776 := by
  have hn := sound_num hs
  intro y hy
  simp only [List.mem_cons, List.not_mem_nil, or_false] at hy
  rcases hy with rfl | rfl | rfl | rfl <;> omega
theorem Mdec_back {x : MC} (hs : Msound x) (hi : MIn x) (r : List Int) : Mdec (Menc x ++ r) = if r.length = 0 then (x, 0) else (MC0, 5) := by
  have hk := sound_k hs
  rw [Menc_eq, List.append_assoc]
  have hh := numsD_back (most := 1099511627776) (by omega) [x.f, x.t, x.b, x.a] [] (bodyB x ++ r) (head_in hs)
  rw [← headD_eq] at hh
  rw [List.append_assoc, Mdec_t (tkd_pb _ (by omega) (by omega)) (by omega) hh]
  have e : (x.k.toNat : Int) = x.k := by omega
  rw [e, List.nil_append, mcOf4]
  by_cases hr : r.length = 0
  · rw [if_pos hr]; exact tailD_ok (body_back hs hi r) (by omega) hs
  · rw [if_neg hr]; exact tailD_5 (body_back hs hi r) (by omega)
theorem Mdec_cut {x : MC} (hs : Msound x) (hi : MIn x) {k : Nat} (hk : k < (Menc x).length) (hbt : IsBytes (Menc x)) : Mdec ((Menc x).take k) = (MC0, 3) := by
  have hkk := sound_k hs
  have hbk := hbt.take' k
  rw [Menc_eq] at hk hbk ⊢
  rw [List.length_append] at hk
  by_cases h1 : k < (pb x.k.toNat).length
  · rw [take_app h1] at hbk ⊢
    exact Mdec_e hbk (tkd_cut (by omega) h1) (by decide)
  · rw [take_app2 (by omega)]
    have ht : tkd (pb x.k.toNat ++ (nmB [x.f, x.t, x.b, x.a] ++ bodyB x).take (k - (pb x.k.toNat).length)) 18446744073709551615 4 = (0, (x.k.toNat : Int), (nmB [x.f, x.t, x.b, x.a] ++ bodyB x).take (k - (pb x.k.toNat).length)) := tkd_pb _ (by omega) (by omega)
    rw [List.length_append] at hk
    by_cases h2 : k - (pb x.k.toNat).length < (nmB [x.f, x.t, x.b, x.a]).length
    · rw [take_app h2] at ht ⊢
      have hh := numsD_cut (most := 1099511627776) (by omega) [x.f, x.t, x.b, x.a] [] _ (head_in hs) h2
      rw [← headD_eq] at hh
      exact Mdec_h ht (by omega) hh (by decide)
    · rw [take_app2 (by omega)] at ht ⊢
      have hh := numsD_back (most := 1099511627776) (by omega) [x.f, x.t, x.b, x.a] [] ((bodyB x).take (k - (pb x.k.toNat).length - (nmB [x.f, x.t, x.b, x.a]).length)) (head_in hs)
      rw [← headD_eq] at hh
      rw [Mdec_t ht (by omega) hh]
      have e : (x.k.toNat : Int) = x.k := by omega
      rw [e, List.nil_append, mcOf4]
      exact tailD_e (body_cut hs hi (by omega)) (by decide)
theorem Mdec_ok {l : List Int} {x : MC} (hb : IsBytes l) (h : Mdec l = (x, 0)) : Msound x ∧ Menc x = l ∧ MIn x := by
  obtain ⟨⟨e, k, r⟩, hq⟩ : ∃ q, tkd l 18446744073709551615 4 = q := ⟨_, rfl⟩
  by_cases h1 : e ≠ 0
  · exfalso
    have hz : k = 0 ∧ r = [] := by
      unfold tkd at hq
      split at hq
      · simp only [Prod.mk.injEq] at hq; exact ⟨hq.2.1.symm, hq.2.2.symm⟩
      · split at hq
        · simp only [Prod.mk.injEq] at hq; exact ⟨hq.2.1.symm, hq.2.2.symm⟩
        · simp only [Prod.mk.injEq] at hq; exact absurd hq.1.symm h1
    rw [hz.1, hz.2] at hq
    rw [Mdec_e hb hq h1] at h
    simp only [Prod.mk.injEq] at h; exact h1 h.2
  · have e0 : e = 0 := by omega
    subst e0
    obtain ⟨f1, f2, f3, f4, f5⟩ := tkd_form hb (by decide) hq
    by_cases hk : k < 1 ∨ k > 8
    · rw [Mdec_150 hq hk] at h; simp at h
    · obtain ⟨⟨e2, g, s⟩, hh⟩ : ∃ q, headD 4 r [] = q := ⟨_, rfl⟩
      by_cases h2 : e2 ≠ 0
      · exfalso
        have hd := h
        obtain ⟨i1, i2, i3⟩ := tkd_inv (by decide) hq
        unfold Mdec at hd
        rw [if_neg (by omega), i2, if_neg hk, i3, hh] at hd
        simp only at hd
        rw [if_pos h2] at hd
        simp only [Prod.mk.injEq] at hd; exact h2 hd.2
      · have z : e2 = 0 := by omega
        subst z
        rw [Mdec_t hq hk hh] at h
        rw [headD_eq] at hh
        obtain ⟨g', k1, k2, k3, k4, k5⟩ := numsD_form 4 r [] g s f5 hh
        simp only [List.nil_append] at k1
        subst k1
        obtain ⟨a1, a2, a3, a4, rfl⟩ := list4 k2
        have hm : mof (mcOf k [a1, a2, a3, a4]).k ≠ 0 := mof_pos hk
        unfold tailD at h
        obtain ⟨⟨e3, y, t⟩, hbd⟩ : ∃ q, bodyD (mcOf k [a1, a2, a3, a4]) s = q := ⟨_, rfl⟩
        rw [hbd] at h
        simp only at h
        by_cases h3 : e3 ≠ 0
        · rw [if_pos h3] at h; simp only [Prod.mk.injEq] at h; exact absurd h.2 h3
        · rw [if_neg h3] at h
          have z : e3 = 0 := by omega
          subst z
          by_cases h4 : t ≠ []
          · rw [if_pos h4] at h; simp at h
          · rw [if_neg h4] at h
            by_cases h5 : ¬ Msound y
            · rw [if_pos h5] at h; simp at h
            · rw [if_neg h5] at h
              simp only [Prod.mk.injEq, and_true] at h
              subst h
              have hs := Decidable.not_not.1 h5
              have ht := Decidable.not_not.1 h4
              subst ht
              obtain ⟨b1, b2, b3⟩ := body_form hm rfl k5 hbd
              refine ⟨hs, ?_, b3⟩
              rw [Menc_eq]
              have c1 := congrArg MC.k b2
              have c2 := congrArg MC.f b2
              have c3 := congrArg MC.t b2
              have c4 := congrArg MC.b b2
              have c5 := congrArg MC.a b2
              simp only [mhd, mcOf, List.getD_cons_zero, List.getD_cons_succ] at c1 c2 c3 c4 c5
              rw [c1, c2, c3, c4, c5]
              rw [List.append_nil] at b1
              rw [← b1, ← k3]
              exact f1.symm
theorem Mdec_zero {l : List Int} (h : (Mdec l).2 ≠ 0) : (Mdec l).1 = MC0 := by
  unfold Mdec at h ⊢
  split
  · rfl
  · split
    · rfl
    · simp only
      split
      · rfl
      · unfold tailD
        split
        · rfl
        · split
          · rfl
          · split
            · rfl
            · rename_i h1 h2 h3 h4 h5 h6
              exfalso
              rw [if_neg h1, if_neg h2] at h
              simp only at h
              rw [if_neg h3] at h
              unfold tailD at h
              rw [if_neg h4, if_neg h5, if_neg h6] at h
              exact h rfl
theorem in_0 : MIn MC0 := ⟨by simp [MC0], by simp [MC0], by simp [MC0]⟩
theorem Mdec_in {l : List Int} (hb : IsBytes l) : MIn (Mdec l).1 := by
  by_cases h : (Mdec l).2 = 0
  · exact (Mdec_ok hb (Prod.ext rfl h)).2.2
  · rw [Mdec_zero h]; exact in_0
theorem Menc_bytes (x : MC) : IsBytes (Menc x) := by
  have hnm : ∀ l : List Int, IsBytes (nmB l) := fun l c hc => by
    unfold nmB at hc
    obtain ⟨y, _, hy⟩ := List.mem_flatMap.1 hc
    exact pb_byte _ c hy
  intro c hc
  unfold Menc at hc
  rcases List.mem_append.1 hc with hc | hc
  · exact hnm _ c hc
  · unfold bodyB at hc
    split at hc
    · exact nm_bytes _ c hc
    · split at hc
      · rcases List.mem_append.1 hc with hc | hc
        · exact pb_byte _ c hc
        · exact hnm _ c hc
      · split at hc
        · rcases List.mem_append.1 hc with hc | hc
          · exact pb_byte _ c hc
          · unfold pairsB at hc
            obtain ⟨y, _, hy⟩ := List.mem_flatMap.1 hc
            rcases List.mem_append.1 hy with hy | hy
            · exact pb_byte _ c hy
            · exact wd_bytes _ _ c hy
        · split at hc
          · exact pb_byte _ c hc
          · cases hc
end Go.Proofs.Ytipkfdeiallifaa.Lg
