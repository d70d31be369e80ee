/-
  Pages and the reference's: alike call by call, and what holds of every book. No program in sight.
-/
import Derived.Test.YtipkfdeiallifaaPg6
set_option linter.unusedVariables false
set_option linter.unusedSimpArgs false
namespace Go.Proofs.Ytipkfdeiallifaa.Lg
open Go Go.RowKit Go.Proofs.Ytipkfdeiallifaa.WirePure
theorem DR.dok {d : DSt} {r : RSt} (h : DR d r) : DOk d := ⟨h.2.1, h.2.2.1⟩
theorem DR.rok {d : DSt} {r : RSt} (h : DR d r) : ROk r := ⟨fun x hx => h.2.1 x (by rw [h.1.1]; exact hx), by rw [← h.1.1]; exact h.2.2.1, h.1.2.2.2.2.1, h.2.2.2⟩
theorem DR.wrS {d : DSt} {r : RSt} (h : DR d r) (i : Int) {l : List Int} (hl : IsBytes l) : (dwrite d i l).1 = (rwrite r i l).1 ∧ DR (dwrite d i l).2 (rwrite r i l).2 := by
  have h1 := alike_write h.1 h.2.2.2 i l
  have h2 := h.dok.wr i hl
  have h3 := h.rok.wr i hl
  exact ⟨h1.1, h1.2, h2.1.1, h2.1.2, h3.1.2.2.2⟩
theorem DR.rdS {d : DSt} {r : RSt} (h : DR d r) (i : Int) : (dread d i).1 = (rread r i).1 ∧ (dread d i).2.1 = (rread r i).2.1 ∧ DR (dread d i).2.2 (rread r i).2.2 := ⟨(alike_read h.1 i).1, (alike_read h.1 i).2.1, h.read i⟩
theorem putL_same : ∀ (l : List Wr) (tb tk : List Int) (d : DSt) (r : RSt), DR d r → (∀ x ∈ l, IsBytes x.2) → (putL dO l tb tk d).1 = (putL rO l tb tk r).1 ∧ (putL dO l tb tk d).2.1 = (putL rO l tb tk r).2.1 ∧ DR (putL dO l tb tk d).2.2 (putL rO l tb tk r).2.2
  | [], tb, tk, d, r, h, _ => ⟨rfl, rfl, h⟩
  | (p, x) :: l, tb, tk, d, r, h, hb => by
    by_cases hx : x.length = 0
    · rw [putL_skip hx, putL_skip hx]; exact putL_same l _ _ d r h (fun y hy => hb y (List.mem_cons_of_mem _ hy))
    · have hw := h.wrS (free tk) (hb (p, x) (by simp))
      obtain ⟨⟨e, d2⟩, hd⟩ : ∃ q, dwrite d (free tk) x = q := ⟨_, rfl⟩
      obtain ⟨⟨e2, r2⟩, hr⟩ : ∃ q, rwrite r (free tk) x = q := ⟨_, rfl⟩
      rw [hd, hr] at hw
      simp only at hw
      obtain ⟨rfl, hw2⟩ := hw
      by_cases he : e = 0
      · subst he
        rw [putL_go (o := dO) hx hd, putL_go (o := rO) hx hr]
        exact putL_same l _ _ d2 r2 hw2 (fun y hy => hb y (List.mem_cons_of_mem _ hy))
      · rw [putL_fail (o := dO) hx hd he, putL_fail (o := rO) hx hr he]
        exact ⟨rfl, rfl, hw2⟩
theorem dwrite_err {d : DSt} {i : Int} {l : List Int} (h0 : 0 ≤ i) (h1 : i < (d.bl.length : Int)) (hl : l.length ≤ 1024) : (dwrite d i l).1 = 0 ∨ (dwrite d i l).1 = 80 := by
  have hc : dcheck d i = 0 ∨ dcheck d i = 80 := by
    unfold dcheck
    split
    · exact .inr rfl
    · rw [if_neg (by omega)]; exact .inl rfl
  unfold dwrite
  rcases hc with hc | hc
  · rw [if_neg (by omega), if_neg (by omega)]
    split
    · exact .inr rfl
    · exact .inl rfl
  · rw [if_pos (by omega)]; exact .inr hc
theorem putL_err : ∀ (l : List Wr) (tb tk : List Int) (d : DSt), DOk d → (∀ x ∈ l, IsBytes x.2 ∧ x.2.length ≤ 1024) → 2 + tk.length + l.length ≤ d.bl.length → (putL dO l tb tk d).1 = 0 ∨ (putL dO l tb tk d).1 = 80
  | [], tb, tk, d, _, _, _ => .inl rfl
  | (p, x) :: l, tb, tk, d, hd, hx, hl => by
    simp only [List.length_cons] at hl
    have hx0 := hx (p, x) (by simp)
    by_cases hz : x.length = 0
    · rw [putL_skip hz]; exact putL_err l _ _ d hd (fun y hy => hx y (List.mem_cons_of_mem _ hy)) (by omega)
    · obtain ⟨f1, f2, _, _⟩ := free_spec tk
      have he := dwrite_err (d := d) (i := free tk) (l := x) (by omega) (by omega) hx0.2
      have hk := hd.wr (free tk) hx0.1
      obtain ⟨⟨e, d2⟩, hw⟩ : ∃ q, dwrite d (free tk) x = q := ⟨_, rfl⟩
      rw [hw] at he hk
      simp only at he hk
      by_cases h0 : e = 0
      · subst h0
        rw [putL_go (o := dO) hz hw]
        exact putL_err l _ _ d2 hk.1 (fun y hy => hx y (List.mem_cons_of_mem _ hy)) (by rw [hk.2]; simp; omega)
      · rw [putL_fail (o := dO) hz hw h0]
        exact he
theorem putL_len : ∀ (l : List Wr) (tb tk : List Int) (d : DSt), DOk d → (∀ x ∈ l, IsBytes x.2) → DOk (putL dO l tb tk d).2.2 ∧ (putL dO l tb tk d).2.2.bl.length = d.bl.length ∧ (putL dO l tb tk d).2.1.length = tb.length
  | [], tb, tk, d, hd, _ => ⟨hd, rfl, rfl⟩
  | (p, x) :: l, tb, tk, d, hd, hx => by
    by_cases hz : x.length = 0
    · rw [putL_skip hz]
      have := putL_len l (tb.set p.toNat 0) tk d hd (fun y hy => hx y (List.mem_cons_of_mem _ hy))
      rw [List.length_set] at this; exact this
    · have hk := hd.wr (free tk) (hx (p, x) (by simp))
      obtain ⟨⟨e, d2⟩, hw⟩ : ∃ q, dwrite d (free tk) x = q := ⟨_, rfl⟩
      rw [hw] at hk
      simp only at hk
      by_cases h0 : e = 0
      · subst h0
        rw [putL_go (o := dO) hz hw]
        have := putL_len l (tb.set p.toNat (free tk)) (tk ++ [free tk]) d2 hk.1 (fun y hy => hx y (List.mem_cons_of_mem _ hy))
        rw [List.length_set] at this
        exact ⟨this.1, this.2.1.trans hk.2, this.2.2⟩
      · rw [putL_fail (o := dO) hz hw h0]
        exact ⟨hk.1, hk.2, rfl⟩
theorem putL_pos : ∀ (l : List Wr) (tb tk : List Int) (d : DSt), (∀ x ∈ tb, 0 ≤ x ∧ x ≤ 64) → 2 + tk.length + l.length ≤ 64 → ∀ x ∈ (putL dO l tb tk d).2.1, 0 ≤ x ∧ x ≤ 64
  | [], tb, tk, d, h, _ => h
  | (p, x) :: l, tb, tk, d, h, hl => by
    simp only [List.length_cons] at hl
    by_cases hz : x.length = 0
    · rw [putL_skip hz]; exact putL_pos l _ _ d (set_bd h (by decide)) (by omega)
    · obtain ⟨f1, f2, _, _⟩ := free_spec tk
      obtain ⟨⟨e, d2⟩, hw⟩ : ∃ q, dwrite d (free tk) x = q := ⟨_, rfl⟩
      by_cases h0 : e = 0
      · subst h0
        rw [putL_go (o := dO) hz hw]
        exact putL_pos l _ _ d2 (set_bd h (by omega)) (by simp; omega)
      · rw [putL_fail (o := dO) hz hw h0]
        exact h
theorem bend_same {s : BSt} {d : DSt} {r : RSt} (h : DR d r) : bend dO s d = bend rO s r := by
  unfold bend
  show { s with ended := s.ended || d.down } = { s with ended := s.ended || r.down }
  rw [h.1.2.1]
theorem bput_same {s : BSt} {d : DSt} {r : RSt} {l : List Wr} (h : DR d r) (hi : BInv s d.bl.length) (hb : ∀ x ∈ l, IsBytes x.2) :
    (bput dO (fun _ => 80) s d l).1 = (bput rO (fun e => e) s r l).1 ∧ (bput dO (fun _ => 80) s d l).2.1 = (bput rO (fun e => e) s r l).2.1 ∧ DR (bput dO (fun _ => 80) s d l).2.2 (bput rO (fun e => e) s r l).2.2 := by
  have he := bend_same (s := s) h
  by_cases h1 : (bend dO s d).ended = true
  · rw [bput_80 (o := dO) h1, bput_80 (o := rO) (by rw [← he]; exact h1)]
    exact ⟨rfl, he, h⟩
  · have h1' : ¬ (bend rO s r).ended = true := by rw [← he]; exact h1
    by_cases h2 : bfault s.tb.length l ≠ 0 ∨ l = []
    · rw [bput_e (o := dO) h1 h2, bput_e (o := rO) h1' h2]
      exact ⟨rfl, he, h⟩
    · by_cases h3 : 1099511627776 ≤ s.gen
      · rw [bput_92 (o := dO) h1 h2 h3, bput_92 (o := rO) h1' h2 h3]
        exact ⟨rfl, he, h⟩
      · have hf0 : bfault s.tb.length l = 0 := Decidable.not_not.1 fun q => h2 (.inl q)
        obtain ⟨hf1, hf2⟩ := bfault_ok hf0
        have hp := putL_same l s.tb s.tb d r h hb
        have hpe := putL_err l s.tb s.tb d h.dok (fun x hx => ⟨hb x hx, (hf1 x hx).2⟩) (by have := hi.room; omega)
        have hpl := putL_len l s.tb s.tb d h.dok hb
        obtain ⟨⟨e, tb2, d2⟩, hd⟩ : ∃ q, putL dO l s.tb s.tb d = q := ⟨_, rfl⟩
        obtain ⟨⟨e2, tb3, r2⟩, hr⟩ : ∃ q, putL rO l s.tb s.tb r = q := ⟨_, rfl⟩
        rw [hd, hr] at hp
        rw [hd] at hpe hpl
        simp only at hp hpe hpl
        obtain ⟨rfl, rfl, hp3⟩ := hp
        by_cases h4 : e = 0
        · subst h4
          have hw := hp3.wrS (1 - s.slot) (rbytes_bytes (s.gen + 1) tb2)
          have hpos : ∀ x ∈ s.tb, 0 ≤ x ∧ x ≤ 64 := fun x hx => by have := tabOk_pos hi.tab (by omega) x hx; have := h.2.2.1; omega
          obtain ⟨⟨e3, d3⟩, hd3⟩ : ∃ q, dwrite d2 (1 - s.slot) (rbytes (s.gen + 1) tb2) = q := ⟨_, rfl⟩
          obtain ⟨⟨e4, r3⟩, hr3⟩ : ∃ q, rwrite r2 (1 - s.slot) (rbytes (s.gen + 1) tb2) = q := ⟨_, rfl⟩
          rw [hd3, hr3] at hw
          simp only at hw
          obtain ⟨rfl, hw2⟩ := hw
          by_cases h5 : e3 = 0
          · subst h5
            rw [bput_ok (o := dO) h1 h2 h3 hd hd3, bput_ok (o := rO) h1' h2 h3 hr hr3, he]
            exact ⟨rfl, rfl, hw2⟩
          · rw [bput_f2 (o := dO) h1 h2 h3 hd hd3 h5, bput_f2 (o := rO) h1' h2 h3 hr hr3 h5, he]
            refine ⟨?_, rfl, hw2⟩
            show (80 : Int) = e3
            have := dwrite_err (d := d2) (i := 1 - s.slot) (l := rbytes (s.gen + 1) tb2) (by have := hi.slot; omega) (by rw [hpl.2.1]; have := hi.slot; have := hi.room; omega) (by
              have := rbytes_len (gen := s.gen + 1) (tb := tb2) (by have := hi.g1; omega) (by rw [hpl.2.2]; exact hi.l8) (by
                have := putL_pos l s.tb s.tb d hpos (by have := hi.l8; omega)
                rw [hd] at this; exact this)
              omega)
            rw [hd3] at this
            simp only at this
            omega
        · rw [bput_f1 (o := dO) h1 h2 h3 hd h4, bput_f1 (o := rO) h1' h2 h3 hr h4, he]
          exact ⟨by show (80 : Int) = e; omega, rfl, hp3⟩
theorem bget_same {s : BSt} {d : DSt} {r : RSt} (h : DR d r) (page : Int) : (bget dO s d page).1 = (bget rO s r page).1 ∧ (bget dO s d page).2.1 = (bget rO s r page).2.1 ∧ (bget dO s d page).2.2.1 = (bget rO s r page).2.2.1 ∧ DR (bget dO s d page).2.2.2 (bget rO s r page).2.2.2 := by
  have he := bend_same (s := s) h
  unfold bget
  rw [he]
  split
  · exact ⟨rfl, rfl, rfl, h⟩
  · split
    · exact ⟨rfl, rfl, rfl, h⟩
    · split
      · exact ⟨rfl, rfl, rfl, h⟩
      · have := h.rdS (s.tb.getD page.toNat 0)
        exact ⟨this.1, this.2.1, rfl, this.2.2⟩
theorem bformat_same {d : DSt} {r : RSt} (h : DR d r) (n : Int) : (bformat dO d n).1 = (bformat rO r n).1 ∧ (bformat dO d n).2.1 = (bformat rO r n).2.1 ∧ DR (bformat dO d n).2.2 (bformat rO r n).2.2 := by
  by_cases h1 : n < 1 ∨ 8 < n
  · rw [bformat_1 h1, bformat_1 h1]; exact ⟨rfl, rfl, h⟩
  · have hb : d.bl.length = r.bl.length := by rw [h.1.1]
    by_cases h2 : (d.bl.length : Int) < 2 + 2 * n
    · rw [bformat_92 (o := dO) h1 h2, bformat_92 (o := rO) h1 (by show (r.bl.length : Int) < _; omega)]; exact ⟨rfl, rfl, h⟩
    · have h2' : ¬ ((rO.nb r : Nat) : Int) < 2 + 2 * n := by show ¬ (r.bl.length : Int) < _; omega
      have hw := h.wrS 1 (l := []) (by simp [IsBytes])
      obtain ⟨⟨e, d2⟩, hd⟩ : ∃ q, dwrite d 1 [] = q := ⟨_, rfl⟩
      obtain ⟨⟨e2, r2⟩, hr⟩ : ∃ q, rwrite r 1 [] = q := ⟨_, rfl⟩
      rw [hd, hr] at hw
      simp only at hw
      obtain ⟨rfl, hw⟩ := hw
      by_cases h3 : e = 0
      · subst h3
        have hw2 := hw.wrS 0 (rbytes_bytes 1 (List.replicate n.toNat 0))
        obtain ⟨⟨e3, d3⟩, hd3⟩ : ∃ q, dwrite d2 0 (rbytes 1 (List.replicate n.toNat 0)) = q := ⟨_, rfl⟩
        obtain ⟨⟨e4, r3⟩, hr3⟩ : ∃ q, rwrite r2 0 (rbytes 1 (List.replicate n.toNat 0)) = q := ⟨_, rfl⟩
        rw [hd3, hr3] at hw2
        simp only at hw2
        obtain ⟨rfl, hw2⟩ := hw2
        by_cases h4 : e3 = 0
        · subst h4
          rw [bformat_ok (o := dO) h1 h2 hd hd3, bformat_ok (o := rO) h1 h2' hr hr3]; exact ⟨rfl, rfl, hw2⟩
        · rw [bformat_w2 (o := dO) h1 h2 hd hd3 h4, bformat_w2 (o := rO) h1 h2' hr hr3 h4]; exact ⟨rfl, rfl, hw2⟩
      · rw [bformat_w1 (o := dO) h1 h2 hd h3, bformat_w1 (o := rO) h1 h2' hr h3]; exact ⟨rfl, rfl, hw⟩
theorem broots_same {d : DSt} {r : RSt} (h : DR d r) : (broots dO d).1 = (broots rO r).1 ∧ (broots dO d).2.1 = (broots rO r).2.1 ∧ DR (broots dO d).2.2 (broots rO r).2.2 := by
  have hb : d.bl.length = r.bl.length := by rw [h.1.1]
  have h0 := h.rdS 0
  have h1 := h0.2.2.rdS 1
  unfold broots
  show (if d.bl.length < 2 then _ else _ : List Int × List Int × DSt).1 = (if r.bl.length < 2 then _ else _ : List Int × List Int × RSt).1 ∧ _
  rw [← hb]
  by_cases h2 : d.bl.length < 2
  · rw [if_pos h2, if_pos h2]
    refine ⟨h0.1, ?_, ?_⟩
    · rw [show dO.nb d = d.bl.length from rfl, show rO.nb r = d.bl.length from hb.symm, if_pos h2, if_pos h2]
    · rw [show dO.nb d = d.bl.length from rfl, show rO.nb r = d.bl.length from hb.symm, if_pos h2, if_pos h2]; exact h0.2.2
  · rw [if_neg h2, if_neg h2]
    refine ⟨h0.1, ?_, ?_⟩
    · rw [show dO.nb d = d.bl.length from rfl, show rO.nb r = d.bl.length from hb.symm, if_neg h2, if_neg h2]; exact h1.1
    · rw [show dO.nb d = d.bl.length from rfl, show rO.nb r = d.bl.length from hb.symm, if_neg h2, if_neg h2]; exact h1.2.2
theorem bopen_same {d : DSt} {r : RSt} (h : DR d r) : (bopen dO d).1 = (bopen rO r).1 ∧ (bopen dO d).2.1 = (bopen rO r).2.1 ∧ DR (bopen dO d).2.2 (bopen rO r).2.2 := by
  have hb : d.bl.length = r.bl.length := by rw [h.1.1]
  obtain ⟨h1, h2, h3⟩ := broots_same h
  unfold bopen
  rw [show dO.down d = rO.down r from h.1.2.1, show (dO.nb d) = (rO.nb r) from hb, h1, h2]
  split
  · exact ⟨rfl, rfl, h⟩
  · split
    · exact ⟨rfl, rfl, h3⟩
    · exact ⟨rfl, rfl, h3⟩
/-! ### What holds of every book -/
theorem tabOk_iff {tb : List Int} {nb : Int} : tabOk tb nb ↔ ∀ i, i < tb.length → tb.getD i 0 ≠ 0 → (2 ≤ tb.getD i 0 ∧ tb.getD i 0 < nb) ∧ ∀ j, j < tb.length → j ≠ i → tb.getD j 0 ≠ tb.getD i 0 := by
  constructor
  · intro h i hi h0
    have h1 := (h i hi).resolve_left h0
    refine ⟨h1.1, fun j hj hne e => ?_⟩
    rcases Nat.lt_or_gt_of_ne hne with hlt | hgt
    · exact h1.2 j hlt e
    · exact ((h j hj).resolve_left (by rw [e]; exact h0)).2 i hgt e.symm
  · intro h i hi
    by_cases h0 : tb.getD i 0 = 0
    · exact .inl h0
    · have := h i hi h0
      exact .inr ⟨this.1, fun j hj => this.2 j (by omega) (by omega)⟩
theorem getD_setN {tb : List Int} {k i : Nat} {x : Int} : (tb.set k x).getD i 0 = if i = k ∧ k < tb.length then x else tb.getD i 0 := by
  rw [List.getD_eq_getElem?_getD, List.getD_eq_getElem?_getD, List.getElem?_set]
  by_cases h : k = i
  · subst h
    by_cases h2 : k < tb.length
    · simp [h2]
    · simp [h2, List.getElem?_eq_none (show tb.length ≤ k by omega)]
  · rw [if_neg h, if_neg (fun q => h q.1.symm)]
theorem tabOk_set {tb : List Int} {nb x : Int} {k : Nat} (h : tabOk tb nb) (hx : x ≠ 0 → (2 ≤ x ∧ x < nb) ∧ x ∉ tb) : tabOk (tb.set k x) nb := by
  rw [tabOk_iff] at h ⊢
  intro i hi
  rw [List.length_set] at hi ⊢
  simp only [getD_setN]
  by_cases hk : i = k ∧ k < tb.length
  · rw [if_pos hk]
    intro h0
    refine ⟨(hx h0).1, fun j hj hne => ?_⟩
    rw [if_neg (fun q => hne (by omega))]
    intro e
    exact (hx h0).2 (e ▸ memK hj)
  · rw [if_neg hk]
    intro h0
    have := h i hi h0
    refine ⟨this.1, fun j hj hne => ?_⟩
    split
    · intro e
      by_cases hx0 : x = 0
      · rw [hx0] at e; exact h0 e.symm
      · exact (hx hx0).2 (e ▸ memK hi)
    · exact this.2 j hj hne
theorem putL_tab : ∀ (l : List Wr) (tb tk : List Int) (d : DSt), DOk d → (∀ x ∈ l, IsBytes x.2) → tabOk tb d.bl.length → (∀ x ∈ tb, x ≠ 0 → x ∈ tk) → 2 + tk.length + l.length ≤ d.bl.length → tabOk (putL dO l tb tk d).2.1 d.bl.length
  | [], tb, tk, d, _, _, h, _, _ => h
  | (p, x) :: l, tb, tk, d, hd, hx, h, hin, hl => by
    simp only [List.length_cons] at hl
    by_cases hz : x.length = 0
    · rw [putL_skip hz]
      refine putL_tab l _ _ d hd (fun y hy => hx y (List.mem_cons_of_mem _ hy)) (tabOk_set h (fun q => absurd rfl q)) (fun y hy h0 => ?_) (by omega)
      rcases List.mem_or_eq_of_mem_set hy with h1 | rfl
      · exact hin y h1 h0
      · exact absurd rfl h0
    · obtain ⟨f1, f2, f3, _⟩ := free_spec tk
      have hk := hd.wr (free tk) (hx (p, x) (by simp))
      obtain ⟨⟨e, d2⟩, hw⟩ : ∃ q, dwrite d (free tk) x = q := ⟨_, rfl⟩
      rw [hw] at hk
      simp only at hk
      by_cases h0 : e = 0
      · subst h0
        rw [putL_go (o := dO) hz hw, ← hk.2]
        refine putL_tab l _ _ d2 hk.1 (fun y hy => hx y (List.mem_cons_of_mem _ hy)) (by rw [hk.2]; exact tabOk_set h (fun _ => ⟨⟨by omega, by omega⟩, fun q => f3 (hin _ q (by omega))⟩)) (fun y hy h0 => ?_) (by rw [hk.2]; simp; omega)
        rcases List.mem_or_eq_of_mem_set hy with h1 | rfl
        · exact List.mem_append_left _ (hin y h1 h0)
        · simp
      · rw [putL_fail (o := dO) hz hw h0]
        exact h
theorem bend_inv {s : BSt} {d : DSt} {nb : Nat} (h : BInv s nb) : BInv (bend dO s d) nb := ⟨h.l1, h.l8, h.room, h.tab, h.g1, h.g2, h.slot⟩
theorem bput_inv {s : BSt} {d : DSt} {l : List Wr} (hd : DOk d) (hi : BInv s d.bl.length) (hb : ∀ x ∈ l, IsBytes x.2) : BInv (bput dO (fun _ => 80) s d l).2.1 d.bl.length ∧ DOk (bput dO (fun _ => 80) s d l).2.2 ∧ (bput dO (fun _ => 80) s d l).2.2.bl.length = d.bl.length := by
  by_cases h1 : (bend dO s d).ended = true
  · rw [bput_80 (o := dO) h1]; exact ⟨bend_inv hi, hd, rfl⟩
  · by_cases h2 : bfault s.tb.length l ≠ 0 ∨ l = []
    · rw [bput_e (o := dO) h1 h2]; exact ⟨bend_inv hi, hd, rfl⟩
    · by_cases h3 : 1099511627776 ≤ s.gen
      · rw [bput_92 (o := dO) h1 h2 h3]; exact ⟨bend_inv hi, hd, rfl⟩
      · have hf0 : bfault s.tb.length l = 0 := Decidable.not_not.1 fun q => h2 (.inl q)
        obtain ⟨hf1, hf2⟩ := bfault_ok hf0
        have hpl := putL_len l s.tb s.tb d hd hb
        have hpt := putL_tab l s.tb s.tb d hd hb hi.tab (fun x hx _ => hx) (by have := hi.room; omega)
        obtain ⟨⟨e, tb2, d2⟩, hp⟩ : ∃ q, putL dO l s.tb s.tb d = q := ⟨_, rfl⟩
        rw [hp] at hpl hpt
        simp only at hpl hpt
        by_cases h4 : e = 0
        · subst h4
          have hk := hpl.1.wr (1 - s.slot) (rbytes_bytes (s.gen + 1) tb2)
          obtain ⟨⟨e3, d3⟩, hw⟩ : ∃ q, dwrite d2 (1 - s.slot) (rbytes (s.gen + 1) tb2) = q := ⟨_, rfl⟩
          rw [hw] at hk
          simp only at hk
          by_cases h5 : e3 = 0
          · subst h5
            rw [bput_ok (o := dO) h1 h2 h3 hp hw]
            exact ⟨⟨by rw [hpl.2.2]; exact hi.l1, by rw [hpl.2.2]; exact hi.l8, by rw [hpl.2.2]; exact hi.room, hpt, by have := hi.g1; show 1 ≤ s.gen + 1; omega, by show s.gen + 1 ≤ _; omega, by show 1 - s.slot = 0 ∨ 1 - s.slot = 1; have := hi.slot; omega⟩, hk.1, hk.2.trans hpl.2.1⟩
          · rw [bput_f2 (o := dO) h1 h2 h3 hp hw h5]; exact ⟨⟨hi.l1, hi.l8, hi.room, hi.tab, hi.g1, hi.g2, hi.slot⟩, hk.1, hk.2.trans hpl.2.1⟩
        · rw [bput_f1 (o := dO) h1 h2 h3 hp h4]; exact ⟨⟨hi.l1, hi.l8, hi.room, hi.tab, hi.g1, hi.g2, hi.slot⟩, hpl.1, hpl.2.1⟩
theorem bget_inv {s : BSt} {d : DSt} (hd : DOk d) (hi : BInv s d.bl.length) (page : Int) : BInv (bget dO s d page).2.2.1 d.bl.length ∧ DOk (bget dO s d page).2.2.2 ∧ (bget dO s d page).2.2.2.bl.length = d.bl.length ∧ IsBytes (bget dO s d page).1 ∧ (bget dO s d page).1.length ≤ 1024 := by
  have h0 : IsBytes [] ∧ ([] : List Int).length ≤ 1024 := ⟨by simp [IsBytes], by simp⟩
  unfold bget
  split
  · exact ⟨bend_inv hi, hd, rfl, h0⟩
  · split
    · exact ⟨bend_inv hi, hd, rfl, h0⟩
    · split
      · exact ⟨bend_inv hi, hd, rfl, h0⟩
      · have := hd.rd (s.tb.getD page.toNat 0)
        exact ⟨bend_inv hi, this.1, this.2.1, read_bytes hd _⟩
theorem bnew_inv {n nb : Nat} (h1 : 1 ≤ n) (h8 : n ≤ 8) (hr : 2 + 2 * n ≤ nb) : BInv (bnew n) nb :=
  ⟨by simp [bnew]; omega, by simp [bnew]; omega, by simp [bnew]; omega, fun i hi => .inl (by show (List.replicate n (0 : Int)).getD i 0 = 0; rw [List.getD_eq_getElem?_getD, List.getElem?_replicate]; split <;> rfl), by simp [bnew], by simp [bnew], .inl rfl⟩
def OInv (so : Option BSt) (nb : Nat) : Prop := ∀ s, so = some s → BInv s nb
theorem bformat_inv {d : DSt} (hd : DOk d) (n : Int) : OInv (bformat dO d n).2.1 d.bl.length ∧ DOk (bformat dO d n).2.2 ∧ (bformat dO d n).2.2.bl.length = d.bl.length := by
  by_cases h1 : n < 1 ∨ 8 < n
  · rw [bformat_1 h1]; exact ⟨(fun s hs => by cases hs), hd, rfl⟩
  · by_cases h2 : (d.bl.length : Int) < 2 + 2 * n
    · rw [bformat_92 (o := dO) h1 h2]; exact ⟨(fun s hs => by cases hs), hd, rfl⟩
    · have hw := hd.wr 1 (l := []) (by simp [IsBytes])
      obtain ⟨⟨e, d2⟩, hd2⟩ : ∃ q, dwrite d 1 [] = q := ⟨_, rfl⟩
      rw [hd2] at hw
      simp only at hw
      by_cases h3 : e = 0
      · subst h3
        have hw2 := hw.1.wr 0 (rbytes_bytes 1 (List.replicate n.toNat 0))
        obtain ⟨⟨e3, d3⟩, hd3⟩ : ∃ q, dwrite d2 0 (rbytes 1 (List.replicate n.toNat 0)) = q := ⟨_, rfl⟩
        rw [hd3] at hw2
        simp only at hw2
        by_cases h4 : e3 = 0
        · subst h4
          rw [bformat_ok (o := dO) h1 h2 hd2 hd3]
          exact ⟨(fun s hs => by cases hs; exact bnew_inv (by omega) (by omega) (by omega)), hw2.1, hw2.2.trans hw.2⟩
        · rw [bformat_w2 (o := dO) h1 h2 hd2 hd3 h4]; exact ⟨(fun s hs => by cases hs), hw2.1, hw2.2.trans hw.2⟩
      · rw [bformat_w1 (o := dO) h1 h2 hd2 h3]; exact ⟨(fun s hs => by cases hs), hw.1, hw.2⟩
theorem broots_inv {d : DSt} (hd : DOk d) : (IsBytes (broots dO d).1 ∧ IsBytes (broots dO d).2.1) ∧ DOk (broots dO d).2.2 ∧ (broots dO d).2.2.bl.length = d.bl.length := by
  have h0 := hd.rd 0
  have h1 := h0.1.rd 1
  unfold broots
  split
  · exact ⟨⟨(read_bytes hd 0).1, by simp [IsBytes]⟩, h0.1, h0.2.1⟩
  · exact ⟨⟨(read_bytes hd 0).1, (read_bytes h0.1 1).1⟩, h1.1, h1.2.1.trans h0.2.1⟩
theorem bpick_inv {l l2 : List Int} {nb : Nat} {s : BSt} (h : IsBytes l) (h2 : IsBytes l2) (hp : bpick (rroot l nb) (rroot l2 nb) = some s) : BInv s nb := by
  have key : ∀ (l t : List Int) (g sl : Int), IsBytes l → rroot l nb = some (g, t) → (sl = 0 ∨ sl = 1) → BInv ⟨t, g, sl, false⟩ nb := fun l t g sl hb hr hs => by
    have h1 := rroot_inv hr
    have h3 := rroot_8 hb hr
    exact ⟨h1.2.2.1, h3, by have := h1.2.2.2.1; show 2 + 2 * t.length ≤ nb; omega, h1.2.2.2.2, h1.1, h1.2.1, hs⟩
  cases h3 : rroot l nb with
  | none =>
    cases h4 : rroot l2 nb with
    | none => rw [h3, h4] at hp; cases hp
    | some x => obtain ⟨g, t⟩ := x; rw [h3, h4] at hp; cases hp; exact key l2 t g 1 h2 h4 (.inr rfl)
  | some x =>
    obtain ⟨g, t⟩ := x
    cases h4 : rroot l2 nb with
    | none => rw [h3, h4] at hp; cases hp; exact key l t g 0 h h3 (.inl rfl)
    | some y =>
      obtain ⟨g2, t2⟩ := y
      rw [h3, h4] at hp
      simp only [bpick] at hp
      split at hp
      · cases hp; exact key l2 t2 g2 1 h2 h4 (.inr rfl)
      · cases hp; exact key l t g 0 h h3 (.inl rfl)
theorem bopen_inv {d : DSt} (hd : DOk d) : OInv (bopen dO d).2.1 d.bl.length ∧ DOk (bopen dO d).2.2 ∧ (bopen dO d).2.2.bl.length = d.bl.length := by
  obtain ⟨h1, h2, h3⟩ := broots_inv hd
  unfold bopen
  split
  · exact ⟨(fun s hs => by cases hs), hd, rfl⟩
  · split
    · exact ⟨(fun s hs => by cases hs), h2, h3⟩
    · rename_i s0 hp
      exact ⟨(fun s hs => by cases hs; exact bpick_inv h1.1 h1.2 hp), h2, h3⟩
end Go.Proofs.Ytipkfdeiallifaa.Lg
