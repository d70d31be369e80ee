/-
  Pages: what a book holds; a Put is all or none. Plain; no program in sight.
-/
import Derived.Test.YtipkfdeiallifaaPg7
set_option linter.unusedVariables false
set_option linter.unusedSimpArgs false
namespace Go.Proofs.Ytipkfdeiallifaa.Lg
open Go Go.RowKit Go.Proofs.Ytipkfdeiallifaa.WirePure
/-- Pages W are what the table tb tells of the blocks. -/
def PT (tb : List Int) (bl W : List (List Int)) : Prop := tb.length = W.length ∧ ∀ p, p < tb.length → (tb.getD p 0 = 0 → W.getD p [] = []) ∧ (tb.getD p 0 ≠ 0 → 2 ≤ tb.getD p 0 ∧ bl.getD (tb.getD p 0).toNat [] = W.getD p [] ∧ W.getD p [] ≠ [])
/-- Pages behind a list of writes. -/
def withL (W : List (List Int)) : List Wr → List (List Int)
  | [] => W
  | (p, x) :: r => withL (W.set p.toNat x) r
theorem withL_len : ∀ (l : List Wr) (W : List (List Int)), (withL W l).length = W.length
  | [], _ => rfl
  | (p, x) :: r, W => by rw [withL, withL_len r, List.length_set]
theorem getD_setB {bl : List (List Int)} {k i : Nat} {x : List Int} : (bl.set k x).getD i [] = if i = k ∧ k < bl.length then x else bl.getD i [] := by
  rw [List.getD_eq_getElem?_getD, List.getD_eq_getElem?_getD, List.getElem?_set]
  by_cases h : k = i
  · subst h
    by_cases h2 : k < bl.length
    · simp [h2]
    · simp [h2, List.getElem?_eq_none (show bl.length ≤ k by omega)]
  · rw [if_neg h, if_neg (fun q => h q.1.symm)]
theorem PT.skip {tb : List Int} {bl W : List (List Int)} (h : PT tb bl W) (k : Nat) : PT (tb.set k 0) bl (W.set k []) := by
  refine ⟨by rw [List.length_set, List.length_set]; exact h.1, fun p hp => ?_⟩
  rw [List.length_set] at hp
  rw [getD_setN, getD_setB, ← h.1]
  by_cases hk : p = k ∧ k < tb.length
  · rw [if_pos hk, if_pos hk]; exact ⟨fun _ => rfl, fun q => absurd rfl q⟩
  · rw [if_neg hk, if_neg hk]; exact h.2 p hp
theorem PT.put {tb : List Int} {bl W : List (List Int)} {f : Int} {x : List Int} (h : PT tb bl W) (k : Nat) (hf2 : 2 ≤ f) (hfl : f.toNat < bl.length) (hf : f ∉ tb) (hx : x ≠ []) : PT (tb.set k f) (bl.set f.toNat x) (W.set k x) := by
  refine ⟨by rw [List.length_set, List.length_set]; exact h.1, fun p hp => ?_⟩
  rw [List.length_set] at hp
  rw [getD_setN, getD_setB (bl := W), ← h.1]
  by_cases hk : p = k ∧ k < tb.length
  · rw [if_pos hk, if_pos hk]
    exact ⟨fun q => by omega, fun _ => ⟨hf2, by rw [getD_setB, if_pos ⟨rfl, hfl⟩], hx⟩⟩
  · rw [if_neg hk, if_neg hk]
    refine ⟨(h.2 p hp).1, fun q => ?_⟩
    obtain ⟨h1, h2, h3⟩ := (h.2 p hp).2 q
    refine ⟨h1, ?_, h3⟩
    rw [getD_setB, if_neg (fun e => ?_)]
    · exact h2
    · have e1 : tb.getD p 0 = f := by have := e.1; omega
      exact hf (e1 ▸ memK hp)
theorem PT.mono {tb : List Int} {bl bl2 W : List (List Int)} (h : PT tb bl W) (he : ∀ q ∈ tb, q ≠ 0 → bl2.getD q.toNat [] = bl.getD q.toNat []) : PT tb bl2 W :=
  ⟨h.1, fun p hp => ⟨(h.2 p hp).1, fun q => ⟨((h.2 p hp).2 q).1, by rw [he _ (memK hp) q]; exact ((h.2 p hp).2 q).2.1, ((h.2 p hp).2 q).2.2⟩⟩⟩
/-- What a write does that is not refused. -/
theorem dwr_ok {d : DSt} {i : Int} {l : List Int} (h : (dwrite d i l).1 = 0) : (dwrite d i l).2.bl = d.bl.set i.toNat l ∧ (dwrite d i l).2.down = d.down ∧ (dwrite d i l).2.armed = d.armed := by
  unfold dwrite at h ⊢
  split
  · rename_i q; rw [if_pos q] at h; exact absurd h q
  · rename_i q; rw [if_neg q] at h
    split
    · rename_i q2; rw [if_pos q2] at h; cases h
    · rename_i q2; rw [if_neg q2] at h
      split
      · rename_i q3; rw [if_pos q3] at h; cases h
      · exact ⟨rfl, rfl, rfl⟩
theorem dwrite_no {d : DSt} {i : Int} {l : List Int} (hd : d.down = false) (h0 : 0 ≤ i) (h1 : i < (d.bl.length : Int)) (hl : l.length ≤ 1024) (h : (dwrite d i l).1 ≠ 0) : (dwrite d i l).1 = 80 ∧ (dwrite d i l).2.bl = d.bl ∧ (dwrite d i l).2.down = true ∧ d.armed = true := by
  have hc : dcheck d i = 0 := by unfold dcheck; rw [hd, if_neg (by simp), if_neg (by omega)]
  unfold dwrite at h ⊢
  rw [if_neg (by omega), if_neg (by omega)] at h ⊢
  split
  · rename_i q; exact ⟨rfl, rfl, rfl, q.1⟩
  · rename_i q; rw [if_neg q] at h; exact absurd rfl h
/-- The blocks behind the pages' writes. -/
theorem putL_sem : ∀ (l : List Wr) (tb tk : List Int) (d : DSt) (W : List (List Int)), DOk d → d.down = false → (∀ x ∈ l, IsBytes x.2 ∧ x.2.length ≤ 1024) → (∀ x ∈ tb, x ≠ 0 → x ∈ tk) → 2 + tk.length + l.length ≤ d.bl.length → PT tb d.bl W →
    (∀ q : Int, 0 ≤ q → (q < 2 ∨ q ∈ tk) → (putL dO l tb tk d).2.2.bl.getD q.toNat [] = d.bl.getD q.toNat []) ∧
    ((putL dO l tb tk d).1 = 0 → PT (putL dO l tb tk d).2.1 (putL dO l tb tk d).2.2.bl (withL W l) ∧ (putL dO l tb tk d).2.2.down = false ∧ (putL dO l tb tk d).2.2.armed = d.armed) ∧
    ((putL dO l tb tk d).1 ≠ 0 → (putL dO l tb tk d).1 = 80 ∧ (putL dO l tb tk d).2.2.down = true ∧ d.armed = true)
  | [], tb, tk, d, W, _, hdn, _, _, _, h => ⟨fun _ _ _ => rfl, fun _ => ⟨h, hdn, rfl⟩, fun q => absurd rfl q⟩
  | (p, x) :: l, tb, tk, d, W, hd, hdn, hx, hin, hl, h => by
    simp only [List.length_cons] at hl
    have hx0 := hx (p, x) (by simp)
    by_cases hz : x.length = 0
    · rw [putL_skip hz]
      have hxe : x = [] := List.length_eq_zero_iff.1 hz
      subst hxe
      exact putL_sem l _ tk d (W.set p.toNat []) hd hdn (fun y hy => hx y (List.mem_cons_of_mem _ hy)) (fun y hy h0 => by
        rcases List.mem_or_eq_of_mem_set hy with h1 | rfl
        · exact hin y h1 h0
        · exact absurd rfl h0) (by omega) (h.skip _)
    · obtain ⟨f1, f2, f3, _⟩ := free_spec tk
      have hk := hd.wr (free tk) hx0.1
      have hok := dwr_ok (d := d) (i := free tk) (l := x)
      have hno := dwrite_no (d := d) (i := free tk) (l := x) hdn (by omega) (by omega) hx0.2
      obtain ⟨⟨e, d2⟩, hw⟩ : ∃ q, dwrite d (free tk) x = q := ⟨_, rfl⟩
      rw [hw] at hk hok hno
      simp only at hk hok hno
      by_cases h0 : e = 0
      · subst h0
        obtain ⟨o1, o2, o3⟩ := hok rfl
        rw [putL_go (o := dO) hz hw]
        obtain ⟨i1, i2, i3⟩ := putL_sem l (tb.set p.toNat (free tk)) (tk ++ [free tk]) d2 (W.set p.toNat x) hk.1 (o2.trans hdn) (fun y hy => hx y (List.mem_cons_of_mem _ hy)) (fun y hy h0 => by
          rcases List.mem_or_eq_of_mem_set hy with h1 | rfl
          · exact List.mem_append_left _ (hin y h1 h0)
          · simp) (by rw [hk.2]; simp; omega) (by rw [o1]; exact h.put _ f1 (by omega) (fun q => f3 (hin _ q (by omega))) (fun q => hz (by rw [q]; rfl)))
        refine ⟨fun q hq0 hq => ?_, fun q => ?_, fun q => ?_⟩
        · rw [i1 q hq0 (by rcases hq with hq | hq; exact .inl hq; exact .inr (List.mem_append_left _ hq)), o1, getD_setB, if_neg (fun e => ?_)]
          have e1 : q = free tk := by have := e.1; omega
          subst e1
          rcases hq with hq | hq
          · omega
          · exact f3 hq
        · obtain ⟨j1, j2, j3⟩ := i2 q
          exact ⟨j1, j2, j3.trans o3⟩
        · obtain ⟨j1, j2, j3⟩ := i3 q
          exact ⟨j1, j2, o3.symm.trans j3⟩
      · obtain ⟨n1, n2, n3, n4⟩ := hno h0
        rw [putL_fail (o := dO) hz hw h0]
        exact ⟨fun q _ _ => by show d2.bl.getD _ _ = _; rw [n2], fun q => absurd q h0, fun _ => ⟨n1, n3, n4⟩⟩
/-- A list of writes that is not refused. -/
def FitW (l : List Wr) : Prop := bfault 8 l = 0 ∧ ∀ x ∈ l, IsBytes x.2
/-- The blocks of a disk with a book of these pages. -/
structure PGb (bl : List (List Int)) (s : BSt) (W : List (List Int)) : Prop where
  n : bl.length = 18
  rows : ∀ x ∈ bl, IsBytes x ∧ x.length ≤ 1024
  inv : BInv s 18
  l8 : s.tb.length = 8
  root : bl.getD s.slot.toNat [] = rbytes s.gen s.tb
  other : ∀ g t, rroot (bl.getD (1 - s.slot).toNat []) 18 = some (g, t) → g < s.gen
  pt : PT s.tb bl W
theorem PGb.keep {bl bl2 : List (List Int)} {s : BSt} {W : List (List Int)} (h : PGb bl s W) (hn : bl2.length = 18) (hr : ∀ x ∈ bl2, IsBytes x ∧ x.length ≤ 1024) (he : ∀ q : Int, 0 ≤ q → (q < 2 ∨ q ∈ s.tb) → bl2.getD q.toNat [] = bl.getD q.toNat []) : PGb bl2 s W := by
  have hsl := h.inv.slot
  refine ⟨hn, hr, h.inv, h.l8, ?_, ?_, h.pt.mono fun q hq h0 => he q ?_ (.inr hq)⟩
  · rw [he s.slot (by omega) (.inl (by omega))]; exact h.root
  · rw [he (1 - s.slot) (by omega) (.inl (by omega))]; exact h.other
  · have := tabOk_pos h.inv.tab (by decide) q hq; omega
theorem PGb.rooted {bl : List (List Int)} {s : BSt} {W : List (List Int)} (h : PGb bl s W) : rroot (rbytes s.gen s.tb) 18 = some (s.gen, s.tb) :=
  rroot_bytes h.inv.g1 h.inv.g2 (by rw [h.l8]; decide) (by rw [h.l8]; decide) (by rw [h.l8]; decide) (by decide) h.inv.tab
theorem PGb.ended {bl : List (List Int)} {s : BSt} {W : List (List Int)} (h : PGb bl s W) (b : Bool) : PGb bl { s with ended := b } W := ⟨h.n, h.rows, ⟨h.inv.l1, h.inv.l8, h.inv.room, h.inv.tab, h.inv.g1, h.inv.g2, h.inv.slot⟩, h.l8, h.root, h.other, h.pt⟩
def SameD (d d' : DSt) : Prop := d'.bl = d.bl ∧ d'.down = d.down ∧ d'.armed = d.armed
theorem SameD.refl (d : DSt) : SameD d d := ⟨rfl, rfl, rfl⟩
theorem SameD.trans {a b c : DSt} (h : SameD a b) (k : SameD b c) : SameD a c := ⟨k.1.trans h.1, k.2.1.trans h.2.1, k.2.2.trans h.2.2⟩
theorem dread_same (d : DSt) (i : Int) : SameD d (dread d i).2.2 := by unfold dread; split <;> exact ⟨rfl, rfl, rfl⟩
theorem dread_get {d : DSt} {k : Nat} (hd : d.down = false) (hk : k < d.bl.length) : (dread d (k : Int)).1 = d.bl.getD k [] ∧ (dread d (k : Int)).2.1 = 0 := by
  have hc : dcheck d (k : Int) = 0 := by unfold dcheck; rw [hd, if_neg (by simp), if_neg (by omega)]
  unfold dread
  rw [if_pos hc]
  exact ⟨rfl, rfl⟩
theorem PGb.open_ {d : DSt} {s : BSt} {W : List (List Int)} (h : PGb d.bl s W) (hd : d.down = false) : ∃ d', bopen dO d = (0, some { s with ended := false }, d') ∧ SameD d d' := by
  have hn := h.n
  have s1 := dread_same d 0
  have s2 := dread_same (dread d 0).2.2 1
  have g0 := dread_get (k := 0) hd (by omega)
  have g1 := dread_get (d := (dread d 0).2.2) (k := 1) (s1.2.1.trans hd) (by rw [s1.1]; omega)
  refine ⟨(dread (dread d 0).2.2 1).2.2, ?_, s1.trans s2⟩
  have hb : broots dO d = ((dread d 0).1, (dread (dread d 0).2.2 1).1, (dread (dread d 0).2.2 1).2.2) := by
    unfold broots
    rw [if_neg (by show ¬ d.bl.length < 2; omega)]
    rfl
  refine ropen_some (o := dO) hd hb ?_
  have e0 : (dread d 0).1 = d.bl.getD 0 [] := g0.1
  have e1 : (dread (dread d 0).2.2 1).1 = d.bl.getD 1 [] := by have := g1.1; rw [s1.1] at this; exact this
  rw [e0, e1, show ((dO.nb d : Nat) : Int) = 18 by show ((d.bl.length : Nat) : Int) = 18; omega]
  have hr := h.rooted
  have hroot := h.root
  have hoth := h.other
  rcases h.inv.slot with hs | hs
  · rw [hs] at hroot hoth
    have hroot' : d.bl.getD 0 [] = rbytes s.gen s.tb := hroot
    rw [hroot', hr]
    cases ho : rroot (d.bl.getD 1 []) 18 with
    | none => show some _ = _; rw [← hs]
    | some x =>
      obtain ⟨g, t⟩ := x
      have := hoth g t ho
      show (if s.gen < g then _ else _) = _
      rw [if_neg (by omega), ← hs]
  · rw [hs] at hroot hoth
    have hroot' : d.bl.getD 1 [] = rbytes s.gen s.tb := hroot
    rw [hroot', hr]
    cases ho : rroot (d.bl.getD 0 []) 18 with
    | none => show some _ = _; rw [← hs]
    | some x =>
      obtain ⟨g, t⟩ := x
      have := hoth g t ho
      show (if g < s.gen then _ else _) = _
      rw [if_pos (by omega), ← hs]
/-- A Put is all or none; none only where the power was to go. -/
theorem PGb.put {d : DSt} {s : BSt} {W : List (List Int)} {l : List Wr} (h : PGb d.bl s W) (hd : d.down = false) (he : s.ended = false) (hg : s.gen < 1099511627776) (hl : FitW l) :
    (∃ s' d', bput dO (fun _ => 80) s d l = (0, s', d') ∧ PGb d'.bl s' (withL W l) ∧ d'.down = false ∧ d'.armed = d.armed ∧ s'.ended = false ∧ s'.gen ≤ s.gen + 1 ∧
      (l = [] → s' = s ∧ d' = d) ∧ (l ≠ [] → s'.slot = 1 - s.slot ∧ ∀ q : Int, 0 ≤ q → (q = s.slot ∨ (2 ≤ q ∧ q ∈ s.tb)) → d'.bl.getD q.toNat [] = d.bl.getD q.toNat [])) ∨
    (∃ s' d', bput dO (fun _ => 80) s d l = (80, s', d') ∧ s'.ended = true ∧ d'.down = true ∧ d.armed = true ∧ PGb d'.bl s W ∧ BInv s' 18) := by
  have hbe : bend dO s d = s := by
    unfold bend
    show { s with ended := s.ended || d.down } = s
    rw [he, hd]; cases s; simp at he; subst he; rfl
  have h1 : ¬ (bend dO s d).ended = true := by rw [hbe, he]; simp
  have hdok : DOk d := ⟨h.rows, by rw [h.n]; decide⟩
  have hf0 : bfault s.tb.length l = 0 := by rw [h.l8]; exact hl.1
  by_cases hn : l = []
  · left
    subst hn
    refine ⟨s, d, ?_, h, hd, rfl, he, by omega, fun _ => ⟨rfl, rfl⟩, fun q => absurd rfl q⟩
    rw [bput_e (o := dO) h1 (.inr rfl), hf0, hbe]
  · have h2 : ¬ (bfault s.tb.length l ≠ 0 ∨ l = []) := fun q => by rcases q with q | q; exact q hf0; exact hn q
    have h3 : ¬ 1099511627776 ≤ s.gen := by omega
    obtain ⟨hf1, hf2⟩ := bfault_ok hf0
    rw [h.l8] at hf2
    have hroom : 2 + s.tb.length + l.length ≤ d.bl.length := by rw [h.l8, h.n]; omega
    have hx : ∀ x ∈ l, IsBytes x.2 ∧ x.2.length ≤ 1024 := fun x hx => ⟨hl.2 x hx, (hf1 x hx).2⟩
    have hbi : BInv s d.bl.length := by rw [h.n]; exact h.inv
    obtain ⟨p1, p2, p3⟩ := putL_sem l s.tb s.tb d W hdok hd hx (fun x hx _ => hx) hroom h.pt
    have pl := putL_len l s.tb s.tb d hdok hl.2
    have ptb := putL_tab l s.tb s.tb d hdok hl.2 hbi.tab (fun x hx _ => hx) hroom
    have hpos : ∀ x ∈ s.tb, 0 ≤ x ∧ x ≤ 64 := fun x hx => by have := tabOk_pos h.inv.tab (by decide) x hx; omega
    have ppos := putL_pos l s.tb s.tb d hpos (by rw [h.l8]; omega)
    obtain ⟨⟨e, tb2, d2⟩, hp⟩ : ∃ q, putL dO l s.tb s.tb d = q := ⟨_, rfl⟩
    rw [hp] at p1 p2 p3 pl ptb ppos
    simp only at p1 p2 p3 pl ptb ppos
    have keepd : ∀ bl2 : List (List Int), bl2 = d2.bl → PGb bl2 s W := fun bl2 e2 => h.keep (by rw [e2, pl.2.1]; exact h.n) (by rw [e2]; exact pl.1.1) (fun q h0 hq => by rw [e2]; exact p1 q h0 hq)
    by_cases h4 : e = 0
    · subst h4
      obtain ⟨q1, q2, q3⟩ := p2 rfl
      have hsl := h.inv.slot
      have hrl := rbytes_len (gen := s.gen + 1) (tb := tb2) (by have := h.inv.g1; omega) (by rw [pl.2.2, h.l8]; decide) ppos
      have wk := pl.1.wr (1 - s.slot) (rbytes_bytes (s.gen + 1) tb2)
      have wok := dwr_ok (d := d2) (i := 1 - s.slot) (l := rbytes (s.gen + 1) tb2)
      have wno := dwrite_no (d := d2) (i := 1 - s.slot) (l := rbytes (s.gen + 1) tb2) q2 (by omega) (by rw [pl.2.1, h.n]; omega) (by omega)
      obtain ⟨⟨e3, d3⟩, hw⟩ : ∃ q, dwrite d2 (1 - s.slot) (rbytes (s.gen + 1) tb2) = q := ⟨_, rfl⟩
      rw [hw] at wk wok wno
      simp only at wk wok wno
      by_cases h5 : e3 = 0
      · subst h5
        left
        obtain ⟨o1, o2, o3⟩ := wok rfl
        refine ⟨_, d3, bput_ok (o := dO) h1 h2 h3 hp hw, ?_, o2.trans q2, o3.trans q3, by rw [hbe]; exact he, by show s.gen + 1 ≤ _; omega, fun q => absurd q hn, fun _ => ⟨rfl, fun q hq0 hq => ?_⟩⟩
        · have ln2 : d2.bl.length = 18 := pl.2.1.trans h.n
          refine ⟨by rw [wk.2]; exact ln2, wk.1.1, ⟨by rw [pl.2.2, h.l8]; decide, by rw [pl.2.2, h.l8]; decide, by rw [pl.2.2, h.l8]; decide, by rw [h.n] at ptb; exact ptb, by show 1 ≤ s.gen + 1; have := h.inv.g1; omega, by show s.gen + 1 ≤ _; omega, by show 1 - s.slot = 0 ∨ 1 - s.slot = 1; omega⟩, by rw [pl.2.2]; exact h.l8, ?_, ?_, ?_⟩
          · show d3.bl.getD (1 - s.slot).toNat [] = _
            rw [o1, getD_setB, if_pos ⟨rfl, by omega⟩]
          · show ∀ g t, rroot (d3.bl.getD (1 - (1 - s.slot)).toNat []) 18 = some (g, t) → g < s.gen + 1
            intro g t hgt
            rw [o1, getD_setB, if_neg (by omega), show 1 - (1 - s.slot) = s.slot by omega, p1 s.slot (by omega) (.inl (by omega)), h.root, h.rooted] at hgt
            simp only [Option.some.injEq, Prod.mk.injEq] at hgt
            omega
          · refine PT.mono (bl := d2.bl) q1 fun q hq h0 => ?_
            obtain ⟨i, hi, e⟩ := List.getElem_of_mem hq
            have e1 : tb2.getD i 0 = q := by rw [List.getD_eq_getElem?_getD, List.getElem?_eq_getElem hi]; exact e
            have h22 := (q1.2 i hi).2 (by rw [e1]; exact h0)
            rw [e1] at h22
            rw [o1, getD_setB, if_neg (by omega)]
        · rw [o1, getD_setB, if_neg (by omega)]
          exact p1 q hq0 (by rcases hq with hq | hq; exact .inl (by omega); exact .inr hq.2)
      · right
        obtain ⟨n1, n2, n3, n4⟩ := wno h5
        refine ⟨_, d3, bput_f2 (o := dO) h1 h2 h3 hp hw h5, rfl, n3, q3.symm.trans n4, keepd _ n2, ?_⟩
        rw [hbe]; exact ⟨h.inv.l1, h.inv.l8, h.inv.room, h.inv.tab, h.inv.g1, h.inv.g2, h.inv.slot⟩
    · right
      obtain ⟨n1, n2, n3⟩ := p3 h4
      refine ⟨_, d2, bput_f1 (o := dO) h1 h2 h3 hp h4, rfl, n2, n3, keepd _ rfl, ?_⟩
      rw [hbe]; exact ⟨h.inv.l1, h.inv.l8, h.inv.room, h.inv.tab, h.inv.g1, h.inv.g2, h.inv.slot⟩
/-- A list that is refused changes nothing. -/
theorem PGb.refuse {d : DSt} {s : BSt} {l : List Wr} (hd : d.down = false) (he : s.ended = false) (hf : bfault s.tb.length l ≠ 0) : bput dO (fun _ => 80) s d l = (bfault s.tb.length l, s, d) := by
  have hbe : bend dO s d = s := by
    unfold bend
    show { s with ended := s.ended || d.down } = s
    rw [he, hd]; cases s; simp at he; subst he; rfl
  rw [bput_e (o := dO) (by rw [hbe, he]; simp) (.inl hf), hbe]
/-- A page is read. -/
theorem PGb.get {d : DSt} {s : BSt} {W : List (List Int)} (h : PGb d.bl s W) (hd : d.down = false) (he : s.ended = false) {p : Nat} (hp : p < 8) : ∃ d', bget dO s d (p : Int) = (W.getD p [], 0, s, d') ∧ SameD d d' := by
  have hbe : bend dO s d = s := by
    unfold bend
    show { s with ended := s.ended || d.down } = s
    rw [he, hd]; cases s; simp at he; subst he; rfl
  have h1 : ¬ (bend dO s d).ended = true := by rw [hbe, he]; simp
  have hp2 : p < s.tb.length := by rw [h.l8]; exact hp
  obtain ⟨t1, t2⟩ := h.pt.2 p hp2
  by_cases h0 : s.tb.getD p 0 = 0
  · refine ⟨d, ?_, SameD.refl d⟩
    rw [bget_0 (o := dO) h1 hp2 h0, t1 h0, hbe]
  · obtain ⟨u1, u2, u3⟩ := t2 h0
    have hin : s.tb.getD p 0 < 18 := by
      have := (h.inv.tab p hp2).resolve_left h0
      have := this.1.2
      exact_mod_cast this
    have e : ((s.tb.getD p 0).toNat : Int) = s.tb.getD p 0 := by omega
    have hg := dread_get (d := d) (k := (s.tb.getD p 0).toNat) hd (by rw [h.n]; omega)
    have hsm := dread_same d ((s.tb.getD p 0).toNat : Int)
    rw [e] at hg hsm
    obtain ⟨⟨rl, re, d2⟩, hr⟩ : ∃ q, dread d (s.tb.getD p 0) = q := ⟨_, rfl⟩
    rw [hr] at hg hsm
    simp only at hg hsm
    refine ⟨d2, ?_, hsm⟩
    rw [bget_r (o := dO) h1 hp2 h0 hr, hbe, hg.1, hg.2, u2]
/-- How many pages have bytes. -/
def wused (W : List (List Int)) : Nat := (W.filter fun x => decide (x ≠ [])).length
theorem used_take {tb : List Int} {bl W : List (List Int)} (h : PT tb bl W) : ∀ i, i ≤ tb.length → bused (tb.take i) = wused (W.take i)
  | 0, _ => by simp [bused, wused]
  | i + 1, hi => by
    have ih := used_take h i (by omega)
    have hw : i < W.length := by rw [← h.1]; omega
    rw [bused_take (by omega), ih, take_snoc4 (d := []) hw]
    unfold wused
    rw [List.filter_append, List.length_append]
    congr 1
    obtain ⟨t1, t2⟩ := h.2 i (by omega)
    by_cases h0 : tb.getD i 0 = 0
    · rw [h0, t1 h0]; simp
    · have := (t2 h0).2.2; simp only [List.filter_cons, List.filter_nil]; rw [if_pos h0, if_pos (decide_eq_true this)]; rfl
theorem PT.used {tb : List Int} {bl W : List (List Int)} (h : PT tb bl W) : bused tb = wused W := by
  have := used_take h tb.length (Nat.le_refl _)
  rwa [List.take_length, h.1, List.take_length] at this
/-- The room: a new book of eight pages on eighteen blocks. -/
theorem room_ok : ∃ d, bformat dO (dnew 18) 8 = (0, some (bnew 8), d) ∧ PGb d.bl (bnew 8) (List.replicate 8 []) ∧ d.down = false ∧ d.armed = false := by
  have hl := rbytes_len (gen := 1) (tb := List.replicate 8 0) (by decide) (by simp) (fun x hx => by rw [List.eq_of_mem_replicate hx]; decide)
  have hb := rbytes_bytes 1 (List.replicate 8 0)
  have hdok : DOk (dnew 18) := ⟨fun x hx => by simp [dnew] at hx; subst hx; exact ⟨by simp [IsBytes], by simp⟩, by simp [dnew]⟩
  obtain ⟨rb, hrb⟩ : ∃ q, q = rbytes 1 (List.replicate ((8 : Int).toNat) 0) := ⟨_, rfl⟩
  have hrb' : rb = rbytes 1 (List.replicate 8 0) := hrb
  have hw1 : dwrite (dnew 18) 1 [] = (0, ⟨List.replicate 18 [], false, false, -1, 0, 1⟩) := rfl
  have hw2 : dwrite ⟨List.replicate 18 [], false, false, -1, 0, 1⟩ 0 rb = (0, ⟨(List.replicate 18 []).set 0 rb, false, false, -2, 0, 2⟩) := by
    unfold dwrite
    rw [if_neg (by decide), if_neg (by rw [hrb']; omega), if_neg (by decide)]
    rfl
  refine ⟨⟨(List.replicate 18 []).set 0 rb, false, false, -2, 0, 2⟩, bformat_ok (o := dO) (by decide) (by decide) hw1 (by rw [← hrb]; exact hw2), ?_, rfl, rfl⟩
  refine ⟨by simp, fun x hx => ?_, bnew_inv (by decide) (by decide) (by decide), by simp [bnew], ?_, ?_, ?_⟩
  · rcases List.mem_or_eq_of_mem_set hx with h1 | rfl
    · rw [List.eq_of_mem_replicate h1]; exact ⟨by simp [IsBytes], by simp⟩
    · rw [hrb']; exact ⟨hb, by omega⟩
  · show ((List.replicate 18 ([] : List Int)).set 0 rb).getD 0 [] = rbytes 1 (List.replicate 8 0)
    rw [← hrb']; rfl
  · show ∀ g t, rroot (((List.replicate 18 ([] : List Int)).set 0 rb).getD 1 []) 18 = some (g, t) → g < 1
    intro g t h
    have : rroot ([] : List Int) 18 = some (g, t) := h
    rw [rroot_nil] at this; cases this
  · refine ⟨by simp [bnew], fun p hp => ⟨fun _ => ?_, fun q => absurd ?_ q⟩⟩
    · rw [List.getD_eq_getElem?_getD, List.getElem?_replicate]; split <;> rfl
    · show (List.replicate 8 (0 : Int)).getD p 0 = 0
      rw [List.getD_eq_getElem?_getD, List.getElem?_replicate]; split <;> rfl
end Go.Proofs.Ytipkfdeiallifaa.Lg
