/-
  Pages: the first error of a list of writes, and roots read again; the reference's likewise. By program (gen/pg2.py).
-/
import Derived.Test.YtipkfdeiallifaaPg1
set_option linter.unusedVariables false
set_option linter.unusedSimpArgs false
namespace Go.Proofs.Ytipkfdeiallifaa.Lg
open Go Go.RowKit Go.Proofs.Ytipkfdeiallifaa.WirePure
/-- A list of writes, as it lies in memory. -/
abbrev KWt := Int × Option Addr × Nat × Nat
def KW : El KWt := ⟨2, fun o => [.int .i64 o.1, .slice o.2.1 o.2.2.1 o.2.2.2], (0, none, 0, 0), fun _ => rfl⟩
structure PWs (w : World) (A : Option Addr) (n c : Nat) (vs : List KWt) (ws : List Wr) : Prop where
  rd : Rd w A n c 2 (KW.flat vs)
  len : vs.length = ws.length
  at_ : ∀ i, i < ws.length → (vs.getD i (0, none, 0, 0)).1 = (ws.getD i (0, [])).1 ∧ Rd w (vs.getD i (0, none, 0, 0)).2.1 (vs.getD i (0, none, 0, 0)).2.2.1 (vs.getD i (0, none, 0, 0)).2.2.2 1 (bytesV (ws.getD i (0, [])).2)
def PWok (ws : List Wr) : Prop := ∀ x ∈ ws, (-9223372036854775808 ≤ x.1 ∧ x.1 ≤ 9223372036854775807) ∧ IsBytes x.2 ∧ x.2.length ≤ 140737488351232
theorem PWs.n {w : World} {A : Option Addr} {n c : Nat} {vs : List KWt} {ws : List Wr} (h : PWs w A n c vs ws) : ws.length = n := by
  have := h.rd.len; rw [El.flat_length] at this; have h2 : vs.length = n := Nat.eq_of_mul_eq_mul_right (by decide) this; rw [← h.len]; exact h2
theorem PWs.grow {w w' : World} {A : Option Addr} {n c : Nat} {vs : List KWt} {ws : List Wr} (h : PWs w A n c vs ws) (hb : Below w.heap.size w w') : PWs w' A n c vs ws := ⟨h.rd.grow hb, h.len, fun i hi => ⟨(h.at_ i hi).1, (h.at_ i hi).2.grow hb⟩⟩
theorem PWs.inB {w w' : World} {A : Option Addr} {n c : Nat} {vs : List KWt} {ws : List Wr} {L : List Assn} (h : PWs w A n c vs ws) (hs : Sat w w' L) : PWs w' A n c vs ws := h.grow hs.below
theorem wmem {ws : List Wr} {i : Nat} (h : i < ws.length) : ws.getD i (0, []) ∈ ws := by
  rw [List.getD_eq_getElem?_getD, List.getElem?_eq_getElem h]; exact List.getElem_mem h
theorem wdrop {ws : List Wr} {i : Nat} {p : Int} {x : List Int} (h : i < ws.length) (e : ws.getD i (0, []) = (p, x)) : ws.drop i = (p, x) :: ws.drop (i + 1) := by
  rw [List.drop_eq_getElem_cons h, ← e, List.getD_eq_getElem?_getD, List.getElem?_eq_getElem h]; rfl
theorem wtake {ws : List Wr} {i : Nat} {p : Int} {x : List Int} (h : i < ws.length) (e : ws.getD i (0, []) = (p, x)) : (ws.take (i + 1)).map Prod.fst = (ws.take i).map Prod.fst ++ [p] := by
  rw [List.take_succ_eq_append_getElem h, List.map_append]; congr 1
  have : ws[i] = (p, x) := by rw [← e, List.getD_eq_getElem?_getD, List.getElem?_eq_getElem h]; rfl
  simp [this]
theorem bf_91 {n : Nat} {seen : List Int} {p : Int} {x : List Int} {r : List Wr} (h : p < 0 ∨ (n : Int) ≤ p) : bfaultF n seen ((p, x) :: r) = 91 := by unfold bfaultF; rw [if_pos h]
theorem bf_93 {n : Nat} {seen : List Int} {p : Int} {x : List Int} {r : List Wr} (h : ¬ (p < 0 ∨ (n : Int) ≤ p)) (h2 : p ∈ seen) : bfaultF n seen ((p, x) :: r) = 93 := by unfold bfaultF; rw [if_neg h, if_pos h2]
theorem bf_6 {n : Nat} {seen : List Int} {p : Int} {x : List Int} {r : List Wr} (h : ¬ (p < 0 ∨ (n : Int) ≤ p)) (h2 : p ∉ seen) (h3 : 1024 < x.length) : bfaultF n seen ((p, x) :: r) = 6 := by unfold bfaultF; rw [if_neg h, if_neg h2, if_pos h3]
theorem bf_go {n : Nat} {seen : List Int} {p : Int} {x : List Int} {r : List Wr} (h : ¬ (p < 0 ∨ (n : Int) ≤ p)) (h2 : p ∉ seen) (h3 : ¬ 1024 < x.length) : bfaultF n seen ((p, x) :: r) = bfaultF n (seen ++ [p]) r := by conv => lhs; unfold bfaultF; rw [if_neg h, if_neg h2, if_neg h3]
theorem count_snoc (l : List Int) (p q : Int) : ((l ++ [p]).count q : Int) = if q = p then (l.count p : Int) + 1 else l.count q := by
  rw [List.count_append, List.count_singleton]
  by_cases h : q = p
  · subst h; simp
  · have h2 : ¬ p = q := fun e => h e.symm
    simp [h, h2]
theorem count_pos' {l : List Int} {p : Int} (h : (l.count p : Int) + 1 > 1) : p ∈ l := List.count_pos_iff.1 (by omega)
theorem count_zero' {l : List Int} {p : Int} (h : ¬ (l.count p : Int) + 1 > 1) : p ∉ l := fun q => by have := List.count_pos_iff.2 q; omega
def nz (l : List Int) : List Int := l.filter fun x => decide (x ≠ 0)
theorem nz_zero {l : List Int} {i : Nat} (h : i < l.length) (h0 : l.getD i 0 = 0) : nz (l.take (i + 1)) = nz (l.take i) := by
  rw [takeK (l2 := l) h, nz, List.filter_append, h0]; simp [nz]
theorem nz_more {l : List Int} {i : Nat} (h : i < l.length) (h0 : l.getD i 0 ≠ 0) : nz (l.take (i + 1)) = nz (l.take i) ++ [l.getD i 0] := by
  have h1 : decide (l.getD i 0 ≠ 0) = true := decide_eq_true h0
  rw [takeK (l2 := l) h, nz, List.filter_append]; simp only [nz, List.filter_cons, h1, if_true, List.filter_nil]
theorem take_at {l : List Int} {i : Nat} {x : Int} (h : x ∈ l.take i) : ∃ j, j < i ∧ j < l.length ∧ l.getD j 0 = x := by
  obtain ⟨j, hj, rfl⟩ := List.getElem_of_mem h
  rw [List.length_take] at hj
  exact ⟨j, by omega, by omega, by rw [List.getD_eq_getElem?_getD, List.getElem?_eq_getElem (by omega)]; simp⟩
theorem at_take {l : List Int} {i j : Nat} (h : j < i) (hl : j < l.length) : l.getD j 0 ∈ l.take i := by
  rw [List.getD_eq_getElem?_getD, List.getElem?_eq_getElem hl]
  exact List.mem_iff_getElem.2 ⟨j, by rw [List.length_take]; omega, by simp⟩
theorem tab_twice {l : List Int} {nb : Int} {i : Nat} (hi : i < l.length) (h0 : l.getD i 0 ≠ 0) (h : l.getD i 0 ∈ nz (l.take i)) : ¬ tabOk l nb := fun q => by
  obtain ⟨j, hj, hl, e⟩ := take_at (List.mem_filter.1 h).1
  rcases q i hi with q | q
  · exact h0 q
  · exact q.2 j hj e
theorem tab_once {l : List Int} {nb : Int} {i : Nat} (hi : i < l.length) (h1 : 2 ≤ l.getD i 0) (h2 : l.getD i 0 < nb) (h : l.getD i 0 ∉ nz (l.take i)) : tabAt l nb i := .inr ⟨⟨h1, h2⟩, fun j hj e => h (List.mem_filter.2 ⟨by rw [← e]; exact at_take hj (by omega), decide_eq_true (show l.getD i 0 ≠ 0 by omega)⟩)⟩
theorem tnl_at8 {b : List Int} (hb : ∀ c ∈ b, 0 ≤ c ∧ c ≤ 255) : ∀ (k at_ : Nat) (acc l : List Int) (a : Int), at_ ≤ b.length → tnl b k at_ acc = (l, a, 0) → 0 ≤ a ∧ a ≤ (b.length : Int) ∧ l.length ≤ acc.length + k
  | 0, at_, acc, l, a, h, ht => by
    simp only [tnl, Prod.mk.injEq] at ht
    obtain ⟨rfl, rfl, _⟩ := ht
    omega
  | k + 1, at_, acc, l, a, h, ht => by
    rw [tnl_succ] at ht
    obtain ⟨⟨x, y, e⟩, hq⟩ : ∃ q, tk 0 0 (b.drop at_) = q := ⟨_, rfl⟩
    rw [hq] at ht
    simp only at ht
    by_cases he : e = 0
    · subst he
      have hr := tk_range (fun c hc => hb c (List.mem_of_mem_drop hc)) hq
      rw [List.length_drop] at hr
      simp only [ne_eq, not_true_eq_false, if_false] at ht
      split at ht
      · simp at ht
      · have ih := tnl_at8 hb k (at_ + y.toNat) (acc ++ [x]) l a (by omega) ht
        simp only [List.length_append, List.length_cons, List.length_nil] at ih
        omega
    · rw [if_pos he] at ht
      simp only [Prod.mk.injEq] at ht
      exact absurd ht.2.2 he
theorem tnum_at8 {b l : List Int} {a : Int} (hb : ∀ c ∈ b, 0 ≤ c ∧ c ≤ 255) (h : tnum b 8 = (l, a, 0)) : 0 ≤ a ∧ a ≤ (b.length : Int) ∧ l.length ≤ 8 := by
  unfold tnum at h
  obtain ⟨⟨x, y, e⟩, hq⟩ : ∃ q, tk 0 0 b = q := ⟨_, rfl⟩
  rw [hq] at h
  simp only at h
  by_cases he : e = 0
  · subst he
    have hr := tk_range hb hq
    simp only [ne_eq, not_true_eq_false, if_false] at h
    split at h
    · simp at h
    · have := tnl_at8 hb x.toNat y.toNat [] l a (by omega) h
      simp only [List.length_nil] at this
      omega
  · rw [if_pos he] at h
    simp only [Prod.mk.injEq] at h
    exact absurd h.2.2 he
set_option maxRecDepth 100000 in
set_option maxHeartbeats 1000000 in
theorem fault_c (B w : World) (L : List Assn) (bj : Nat) (p : Option Addr) (s : BSt) (Ab : Option Addr) (cb : Nat) (hs : Sat B w (Blk bj (bcells p s Ab cb) 122 :: L)) (A : Option Addr) (n c : Nat) (vs : List KWt) (ws : List Wr) (hr : ∀ w' X, Sat B w' (X :: L) → PWs w' A n c vs ws) (hok : PWok ws) (hn : n ≤ 9223372036854775806) :
    Calls Try.prog 85 [.pointer (some ⟨bj, 0, none⟩), .slice A n c].toArray w (Ret (fun v' w' => v' = .int .i64 (bfault s.tb.length ws) ∧ Sat B w' (Blk bj (bcells p s Ab cb) 122 :: L))) := by
  have hwn := (hr _ _ hs).n
  refine Calls_body Try.func85 rfl rfl rfl (envE_cons (i := 0) (v := .pointer (some ⟨bj, 0, none⟩)) rfl (envE_cons (i := 1) (v := .slice A n c) rfl envE_nil)) ?_
  refine St_seq ?_
  refine St_region ?_
  refine Ls_run (run_assign rfl) rfl ?_
  refine Ls_nil ?_
  refine Jm_seq ?_
  refine St_seq ?_
  refine St_region ?_
  refine Ls_makeMap (k := 3) hs rfl ?_
  intro b1 w2 hs
  refine Ls_run (run_assign rfl) rfl ?_
  refine Ls_nil ?_
  refine Jm_seq ?_
  refine St_seq ?_
  refine St_seq ?_
  refine St_region ?_
  refine Ls_run (run_move rfl) rfl ?_
  refine Ls_run (run_len Try.underlying51 rfl) rfl ?_
  refine Ls_run (run_move rfl) rfl ?_
  refine Ls_nil ?_
  refine Jm_seq ?_
  refine St_block ?_
  obtain ⟨En3, hEn3⟩ : ∃ F : Nat → Env, ∀ (i : Nat), F i = [(0, .pointer (some ⟨bj, 0, none⟩)), (5, .map (some b1)), (9, .slice A n c), (10, .int .i64 (n : Int)), (11, .int .i64 (i : Int))] := ⟨(fun (i : Nat) => [(0, .pointer (some ⟨bj, 0, none⟩)), (5, .map (some b1)), (9, .slice A n c), (10, .int .i64 (n : Int)), (11, .int .i64 (i : Int))]), fun _ => rfl⟩
  obtain ⟨Iv4, hIv4⟩ : ∃ F : Nat → World → Prop, ∀ (i : Nat) (wr : World), F i wr = (Sat B wr (MapI Try.prog 3 b1 i (fun q => (((ws.take i).map Prod.fst).count q : Int)) :: Blk bj (bcells p s Ab cb) 122 :: L) ∧ i ≤ n ∧ bfaultF s.tb.length ((ws.take i).map Prod.fst) (ws.drop i) = bfault s.tb.length ws) := ⟨(fun (i : Nat) => fun (wr : World) => Sat B wr (MapI Try.prog 3 b1 i (fun q => (((ws.take i).map Prod.fst).count q : Int)) :: Blk bj (bcells p s Ab cb) 122 :: L) ∧ i ≤ n ∧ bfaultF s.tb.length ((ws.take i).map Prod.fst) (ws.drop i) = bfault s.tb.length ws), fun _ _ => rfl⟩
  obtain ⟨ms5, hms5⟩ : ∃ F : Nat → Nat, ∀ (i : Nat), F i = (n - i) := ⟨(fun (i : Nat) => n - i), fun _ => rfl⟩
  refine St_loop En3 Iv4 ms5 (0) ?_ ?_ ?_
  · skip
    rw [hIv4]
    exact ⟨hs, by omega, rfl⟩
  · rw [hEn3]; exact (subE_cons rfl (subE_cons rfl (subE_cons rfl (subE_cons rfl (subE_cons rfl subE_nil)))))
  rintro i wr hI6
  rw [hIv4] at hI6
  obtain ⟨hs, hi, hf⟩ := hI6
  refine St_eqE (hEn3 _) ?_
  refine St_seq ?_
  refine St_region ?_
  refine Ls_run (run_lss rfl rfl) rfl ?_
  refine Ls_nil ?_
  refine Jm_seq ?_
  refine St_seq ?_
  refine St_ifP rfl (fun h7 => ?_) (fun h7 => ?_)
  · skip
    refine St_skip ?_
    refine Jm_seq ?_
    refine St_seq ?_
    refine St_block ?_
    refine St_seq ?_
    refine St_region ?_
    obtain ⟨⟨pg, Aw, nw, cw⟩, ho⟩ : ∃ o, vs.getD i (0, none, 0, 0) = o := ⟨_, rfl⟩
    obtain ⟨⟨q, x⟩, hq⟩ : ∃ o, ws.getD i (0, []) = o := ⟨_, rfl⟩
    obtain ⟨hpg, hrw⟩ := (Sat.rdL0 (pre := [_, _]) hr hs).at_ i (by omega)
    rw [ho, hq] at hpg
    rw [ho, hq] at hrw
    simp only at hpg hrw
    subst hpg
    have hxl := rdB_len hrw
    have hwq := hok _ (wmem (ws := ws) (i := i) (by omega))
    rw [hq] at hwq
    simp only at hwq
    rw [wdrop (by omega) hq] at hf
    have hcl : ((ws.take i).map Prod.fst).count pg ≤ i := by have := List.count_le_length (l := (ws.take i).map Prod.fst) (a := pg); rw [List.length_map, List.length_take] at this; omega
    refine Ls_index (KW) ((Sat.rdL0 (pre := [_, _]) hr hs).rd) Try.underlying51 inf45 rfl rfl (by omega) (by omega) ho rfl ?_
    intro b8 o9 hc10
    refine Ls_run (run_as (run_load_agg agg45 inf45 rfl rfl hc10) (show _ = Value.agg #[.int .i64 pg, .slice Aw nw cw] from rfl)) rfl ?_
    refine Ls_alloc hs inf45 rfl ?_
    intro b12 w11 hs
    refine Ls_storeAgg hs inf45 rfl rfl rfl rfl (by simp [Value.oneCell', Value.cells, bcells, qcells, KW]) ?_
    intro w13 hs
    refine Ls_nil ?_
    refine Jm_seq ?_
    refine St_seq ?_
    refine St_region ?_
    refine Ls_run (run_move rfl) rfl ?_
    refine Ls_run (run_as (run_field Try.underlying45 rfl inf3 (by decide) rfl) (show _ = Value.pointer (some ⟨b12, 0, none⟩) from rfl)) rfl ?_
    refine Ls_run (run_load sc3 rfl (hs.blk_at 0 rfl 0 rfl)) rfl ?_
    refine Ls_run (run_lookup_i (hs.front 1 rfl) Try.underlying148 Try.underlying3 inf3 rfl rfl hwq.1) rfl ?_
    refine Ls_run (run_add rfl rfl (show _ = (((ws.take i).map Prod.fst).count pg : Int) + 1 by rw [w64 (by omega)])) rfl ?_
    replace hs := hs.front 1 rfl
    simp only [List.cons_append, List.nil_append, List.eraseIdx_cons_zero, List.eraseIdx_cons_succ] at hs
    refine Ls_mapset hs Try.underlying148 Try.underlying3 rfl rfl rfl hwq.1 (by omega) (by omega) ?_
    intro w14 hs
    have ecnt : ∀ g : Int → Int, g = (fun q => if q = pg then (((ws.take i).map Prod.fst).count pg : Int) + 1 else (((ws.take i).map Prod.fst).count q : Int)) → g = (fun q => (((ws.take (i + 1)).map Prod.fst).count q : Int)) := by
      intro g hg; subst hg; funext q; rw [wtake (by omega) hq, count_snoc]
    rw [ecnt _ rfl] at hs
    refine Ls_nil ?_
    refine Jm_seq ?_
    refine St_block ?_
    refine St_seq ?_
    refine St_draw (fun x => Below w14.heap.size w14 x) mixed ?_
    intro w15 q16
    have hH := q16.below
    replace hs := hs.quiet q16
    refine An_grow hH ?_
    replace hH := Below.refl w15.heap.size w15
    refine An_take 0 rfl (by kernel_rfl) (by kernel_rfl) (by kernel_rfl) (fun _ _ _ h => h) hH (fun x hx => run_as (run_field Try.underlying45 rfl inf3 (by decide) rfl) (show _ = Value.pointer (some ⟨b12, 0, none⟩) from rfl)) rfl ?_
    refine An_take 1 rfl (by kernel_rfl) (by kernel_rfl) (by kernel_rfl) (fun _ _ _ h => h) hH (fun x hx => run_load sc3 rfl ((hs.grow hx).blk_at 1 rfl 0 rfl)) rfl ?_
    refine An_take 2 rfl (by kernel_rfl) (by kernel_rfl) (by kernel_rfl) (fun _ _ _ h => h) hH (fun x hx => run_lss rfl rfl) rfl ?_
    refine An_take 3 rfl (by kernel_rfl) (by kernel_rfl) (by kernel_rfl) (fun _ _ _ h => h) hH (fun x hx => run_move rfl) rfl ?_
    refine An_partP (t := 24) rfl (fun h17 => ?_) (fun h17 => ?_)
    · skip
      refine An_take_off 4 rfl (by kernel_rfl) (by kernel_rfl) (by kernel_rfl) rfl rfl rfl (fun _ _ _ h => h) hH rfl ?_
      refine An_take_off 5 rfl (by kernel_rfl) (by kernel_rfl) (by kernel_rfl) rfl rfl rfl (fun _ _ _ h => h) hH rfl ?_
      refine An_take_off 6 rfl (by kernel_rfl) (by kernel_rfl) (by kernel_rfl) rfl rfl rfl (fun _ _ _ h => h) hH rfl ?_
      refine An_take_off 7 rfl (by kernel_rfl) (by kernel_rfl) (by kernel_rfl) rfl rfl rfl (fun _ _ _ h => h) hH rfl ?_
      refine An_take_off 8 rfl (by kernel_rfl) (by kernel_rfl) (by kernel_rfl) rfl rfl rfl (fun _ _ _ h => h) hH rfl ?_
      refine An_take_off 9 rfl (by kernel_rfl) (by kernel_rfl) (by kernel_rfl) rfl rfl rfl (fun _ _ _ h => h) hH rfl ?_
      refine An_take_off 10 rfl (by kernel_rfl) (by kernel_rfl) (by kernel_rfl) rfl rfl rfl (fun _ _ _ h => h) hH rfl ?_
      refine An_take_off 11 rfl (by kernel_rfl) (by kernel_rfl) (by kernel_rfl) rfl rfl rfl (fun _ _ _ h => h) hH rfl ?_
      refine An_take_off 12 rfl (by kernel_rfl) (by kernel_rfl) (by kernel_rfl) rfl rfl rfl (fun _ _ _ h => h) hH rfl ?_
      refine An_take 13 rfl (by kernel_rfl) (by kernel_rfl) (by kernel_rfl) (fun _ _ _ h => h) hH (fun x hx => run_pick_t rfl rfl) rfl ?_
      refine An_take 14 rfl (by kernel_rfl) (by kernel_rfl) (by kernel_rfl) (fun _ _ _ h => h) hH (fun x hx => run_assign rfl) rfl ?_
      refine An_done (by kernel_rfl) ?_
      refine Jm_seq ?_
      refine St_ift rfl ?_
      refine St_seq ?_
      refine St_region ?_
      refine Ls_run (run_assign rfl) rfl ?_
      refine Ls_nil ?_
      refine Jm_seq ?_
      refine St_ret ?_
      refine Jm_block_ret (Jm_block_ret (Jm_then_ret (Jm_then_ret (Jm_block_ret (Jm_then_ret  ?_)))))
      refine Jm_ret1 rfl rfl ?_
      replace hs := hs.erase 0
      simp only [List.cons_append, List.nil_append, List.eraseIdx_cons_zero, List.eraseIdx_cons_succ] at hs
      replace hs := hs.erase 0
      simp only [List.cons_append, List.nil_append, List.eraseIdx_cons_zero, List.eraseIdx_cons_succ] at hs
      first
      | (have hz : ws.drop i = [] := List.drop_of_length_le (by omega); rw [hz] at hf; exact ⟨_, rfl, by rw [← hf]; rfl, hs⟩)
      | (rw [bf_91 (by omega)] at hf; exact ⟨_, rfl, by rw [← hf], hs⟩)
      | (rw [bf_93 (by omega) (count_pos' (by assumption))] at hf; exact ⟨_, rfl, by rw [← hf], hs⟩)
      | (rw [bf_6 (by omega) (count_zero' (by assumption)) (by omega)] at hf; exact ⟨_, rfl, by rw [← hf], hs⟩)
    · skip
      refine An_take_on 4 rfl (by kernel_rfl) (by kernel_rfl) (by kernel_rfl) rfl rfl (fun _ _ _ h => h) hH (fun x hx => run_as (run_field Try.underlying45 rfl inf3 (by decide) rfl) (show _ = Value.pointer (some ⟨b12, 0, none⟩) from rfl)) rfl ?_
      refine An_take_on 5 rfl (by kernel_rfl) (by kernel_rfl) (by kernel_rfl) rfl rfl (fun _ _ _ h => h) hH (fun x hx => run_load sc3 rfl ((hs.grow hx).blk_at 1 rfl 0 rfl)) rfl ?_
      refine An_take_on 6 rfl (by kernel_rfl) (by kernel_rfl) (by kernel_rfl) rfl rfl (fun _ _ _ h => h) hH (fun x hx => run_move rfl) rfl ?_
      refine An_take_on 7 rfl (by kernel_rfl) (by kernel_rfl) (by kernel_rfl) rfl rfl (fun _ _ _ h => h) hH (fun x hx => run_nilCheck rfl) rfl ?_
      refine An_take_on 8 rfl (by kernel_rfl) (by kernel_rfl) (by kernel_rfl) rfl rfl (fun _ _ _ h => h) hH (fun x hx => run_as (run_field Try.underlying122 rfl inf120 (by decide) rfl) (show _ = Value.pointer (some ⟨bj, 1, none⟩) from rfl)) rfl ?_
      refine An_take_on 9 rfl (by kernel_rfl) (by kernel_rfl) (by kernel_rfl) rfl rfl (fun _ _ _ h => h) hH (fun x hx => run_as (run_field Try.underlying120 rfl inf22 (by decide) rfl) (show _ = Value.pointer (some ⟨bj, 2, none⟩) from rfl)) rfl ?_
      refine An_take_on 10 rfl (by kernel_rfl) (by kernel_rfl) (by kernel_rfl) rfl rfl (fun _ _ _ h => h) hH (fun x hx => run_load sc22 rfl ((hs.grow hx).blk_at 2 rfl 2 rfl)) rfl ?_
      refine An_take_on 11 rfl (by kernel_rfl) (by kernel_rfl) (by kernel_rfl) rfl rfl (fun _ _ _ h => h) hH (fun x hx => run_len Try.underlying22 rfl) rfl ?_
      refine An_take_on 12 rfl (by kernel_rfl) (by kernel_rfl) (by kernel_rfl) rfl rfl (fun _ _ _ h => h) hH (fun x hx => run_geq rfl rfl) rfl ?_
      refine An_take 13 rfl (by kernel_rfl) (by kernel_rfl) (by kernel_rfl) (fun _ _ _ h => h) hH (fun x hx => run_pick_f rfl rfl) rfl ?_
      refine An_take 14 rfl (by kernel_rfl) (by kernel_rfl) (by kernel_rfl) (fun _ _ _ h => h) hH (fun x hx => run_assign rfl) rfl ?_
      refine An_done (by kernel_rfl) ?_
      refine Jm_seq ?_
      refine St_ifP rfl (fun h19 => ?_) (fun h19 => ?_)
      · skip
        refine St_seq ?_
        refine St_region ?_
        refine Ls_run (run_assign rfl) rfl ?_
        refine Ls_nil ?_
        refine Jm_seq ?_
        refine St_ret ?_
        refine Jm_block_ret (Jm_block_ret (Jm_then_ret (Jm_then_ret (Jm_block_ret (Jm_then_ret  ?_)))))
        refine Jm_ret1 rfl rfl ?_
        replace hs := hs.erase 0
        simp only [List.cons_append, List.nil_append, List.eraseIdx_cons_zero, List.eraseIdx_cons_succ] at hs
        replace hs := hs.erase 0
        simp only [List.cons_append, List.nil_append, List.eraseIdx_cons_zero, List.eraseIdx_cons_succ] at hs
        first
        | (have hz : ws.drop i = [] := List.drop_of_length_le (by omega); rw [hz] at hf; exact ⟨_, rfl, by rw [← hf]; rfl, hs⟩)
        | (rw [bf_91 (by omega)] at hf; exact ⟨_, rfl, by rw [← hf], hs⟩)
        | (rw [bf_93 (by omega) (count_pos' (by assumption))] at hf; exact ⟨_, rfl, by rw [← hf], hs⟩)
        | (rw [bf_6 (by omega) (count_zero' (by assumption)) (by omega)] at hf; exact ⟨_, rfl, by rw [← hf], hs⟩)
      · skip
        refine St_seq ?_
        refine St_region ?_
        refine Ls_run (run_move rfl) rfl ?_
        refine Ls_run (run_as (run_field Try.underlying45 rfl inf3 (by decide) rfl) (show _ = Value.pointer (some ⟨b12, 0, none⟩) from rfl)) rfl ?_
        refine Ls_run (run_load sc3 rfl (hs.blk_at 1 rfl 0 rfl)) rfl ?_
        refine Ls_run (run_as (run_lookup_i (hs.front 0 rfl) Try.underlying148 Try.underlying3 inf3 rfl rfl hwq.1) (show _ = Value.int .i64 ((((ws.take i).map Prod.fst).count pg : Int) + 1) by rw [wtake (by omega) hq, count_snoc, if_pos rfl])) rfl ?_
        refine Ls_run (run_gtr rfl rfl) rfl ?_
        refine Ls_run (run_assign rfl) rfl ?_
        refine Ls_nil ?_
        refine Jm_seq ?_
        refine St_ifP rfl (fun h20 => ?_) (fun h20 => ?_)
        · skip
          refine St_seq ?_
          refine St_region ?_
          refine Ls_run (run_assign rfl) rfl ?_
          refine Ls_nil ?_
          refine Jm_seq ?_
          refine St_ret ?_
          refine Jm_block_ret (Jm_block_ret (Jm_then_ret (Jm_then_ret (Jm_block_ret (Jm_then_ret  ?_)))))
          refine Jm_ret1 rfl rfl ?_
          replace hs := hs.erase 0
          simp only [List.cons_append, List.nil_append, List.eraseIdx_cons_zero, List.eraseIdx_cons_succ] at hs
          replace hs := hs.erase 0
          simp only [List.cons_append, List.nil_append, List.eraseIdx_cons_zero, List.eraseIdx_cons_succ] at hs
          first
          | (have hz : ws.drop i = [] := List.drop_of_length_le (by omega); rw [hz] at hf; exact ⟨_, rfl, by rw [← hf]; rfl, hs⟩)
          | (rw [bf_91 (by omega)] at hf; exact ⟨_, rfl, by rw [← hf], hs⟩)
          | (rw [bf_93 (by omega) (count_pos' (by assumption))] at hf; exact ⟨_, rfl, by rw [← hf], hs⟩)
          | (rw [bf_6 (by omega) (count_zero' (by assumption)) (by omega)] at hf; exact ⟨_, rfl, by rw [← hf], hs⟩)
        · skip
          refine St_seq ?_
          refine St_region ?_
          refine Ls_run (run_as (run_field Try.underlying45 rfl inf28 (by decide) rfl) (show _ = Value.pointer (some ⟨b12, 1, none⟩) from rfl)) rfl ?_
          refine Ls_run (run_load sc28 rfl (hs.blk_at 1 rfl 1 rfl)) rfl ?_
          refine Ls_run (run_len Try.underlying28 rfl) rfl ?_
          refine Ls_run (run_gtr rfl rfl) rfl ?_
          refine Ls_run (run_assign rfl) rfl ?_
          refine Ls_nil ?_
          refine Jm_seq ?_
          refine St_ifP rfl (fun h21 => ?_) (fun h21 => ?_)
          · skip
            refine St_seq ?_
            refine St_region ?_
            refine Ls_run (run_assign rfl) rfl ?_
            refine Ls_nil ?_
            refine Jm_seq ?_
            refine St_ret ?_
            refine Jm_block_ret (Jm_block_ret (Jm_then_ret (Jm_then_ret (Jm_block_ret (Jm_then_ret  ?_)))))
            refine Jm_ret1 rfl rfl ?_
            replace hs := hs.erase 0
            simp only [List.cons_append, List.nil_append, List.eraseIdx_cons_zero, List.eraseIdx_cons_succ] at hs
            replace hs := hs.erase 0
            simp only [List.cons_append, List.nil_append, List.eraseIdx_cons_zero, List.eraseIdx_cons_succ] at hs
            first
            | (have hz : ws.drop i = [] := List.drop_of_length_le (by omega); rw [hz] at hf; exact ⟨_, rfl, by rw [← hf]; rfl, hs⟩)
            | (rw [bf_91 (by omega)] at hf; exact ⟨_, rfl, by rw [← hf], hs⟩)
            | (rw [bf_93 (by omega) (count_pos' (by assumption))] at hf; exact ⟨_, rfl, by rw [← hf], hs⟩)
            | (rw [bf_6 (by omega) (count_zero' (by assumption)) (by omega)] at hf; exact ⟨_, rfl, by rw [← hf], hs⟩)
          · skip
            refine St_skip ?_
            refine Jm_block_normal (Jm_block_normal (Jm_seq ?_))
            refine St_region ?_
            refine Ls_run (run_add rfl rfl (w64 (by omega))) rfl ?_
            refine Ls_run (run_move rfl) rfl ?_
            refine Ls_nil ?_
            replace hs := hs.erase 1
            simp only [List.cons_append, List.nil_append, List.eraseIdx_cons_zero, List.eraseIdx_cons_succ] at hs
            refine Jm_round (i + 1) ?_ ?_ ?_
            · rw [hEn3]; exact (subE_cons rfl (subE_cons rfl (subE_cons rfl (subE_cons rfl (subE_cons rfl subE_nil)))))
            · skip
              rw [hIv4]
              rw [bf_go (by omega) (count_zero' (by assumption)) (by omega)] at hf
              exact ⟨hs, by omega, by rw [wtake (by omega) hq]; exact hf⟩
            · skip
              rw [hms5, hms5]
              omega
  · skip
    refine St_exit ?_
    refine Jm_then_exit (Jm_then_exit (Jm_block_same (Jm_seq ?_)))
    refine St_seq ?_
    refine St_region ?_
    refine Ls_run (run_assign rfl) rfl ?_
    refine Ls_nil ?_
    refine Jm_seq ?_
    refine St_ret ?_
    refine Jm_ret1 rfl rfl ?_
    replace hs := hs.erase 0
    simp only [List.cons_append, List.nil_append, List.eraseIdx_cons_zero, List.eraseIdx_cons_succ] at hs
    first
    | (have hz : ws.drop i = [] := List.drop_of_length_le (by omega); rw [hz] at hf; exact ⟨_, rfl, by rw [← hf]; rfl, hs⟩)
    | (rw [bf_91 (by omega)] at hf; exact ⟨_, rfl, by rw [← hf], hs⟩)
    | (rw [bf_93 (by omega) (count_pos' (by assumption))] at hf; exact ⟨_, rfl, by rw [← hf], hs⟩)
    | (rw [bf_6 (by omega) (count_zero' (by assumption)) (by omega)] at hf; exact ⟨_, rfl, by rw [← hf], hs⟩)
theorem seen_at {ws : List Wr} {i j : Nat} {p : Int} (h : j < i) (hl : j < ws.length) (e : (ws.getD j (0, [])).1 = p) : p ∈ (ws.take i).map Prod.fst := by
  rw [← e, List.getD_eq_getElem?_getD, List.getElem?_eq_getElem hl]
  exact List.mem_map.2 ⟨ws[j], List.mem_iff_getElem.2 ⟨j, by rw [List.length_take]; omega, by simp⟩, rfl⟩
theorem seen_no {ws : List Wr} {i : Nat} {p : Int} (hl : i ≤ ws.length) (h : ∀ j, j < i → (ws.getD j (0, [])).1 ≠ p) : p ∉ (ws.take i).map Prod.fst := fun q => by
  obtain ⟨x, hx, e⟩ := List.mem_map.1 q
  obtain ⟨j, hj, rfl⟩ := List.getElem_of_mem hx
  rw [List.length_take] at hj
  have := h j (by omega)
  rw [List.getD_eq_getElem?_getD, List.getElem?_eq_getElem (by omega)] at this
  simp at e
  exact this e
set_option maxRecDepth 100000 in
set_option maxHeartbeats 1000000 in
theorem bad_c (w : World) (bj : Nat) (p : Option Addr) (s : BSt) (Ab : Option Addr) (cb : Nat) (hd : w.heap[bj]? = some (.cells (qcells p s Ab cb).toArray 138 (0, 0))) (A : Option Addr) (n c : Nat) (vs : List KWt) (ws : List Wr) (hw : PWs w A n c vs ws) (hok : PWok ws) (hn : n ≤ 9223372036854775806) :
    Calls Try.prog 101 [.pointer (some ⟨bj, 0, none⟩), .slice A n c].toArray w (Ret (fun v' w' => w = w' ∧ v' = .int .i64 (bfault s.tb.length ws))) := by
  have hs := Sat.ofBlk hd
  have hwn := hw.n
  refine Calls_body Try.func101 rfl rfl rfl (envE_cons (i := 0) (v := .pointer (some ⟨bj, 0, none⟩)) rfl (envE_cons (i := 1) (v := .slice A n c) rfl envE_nil)) ?_
  refine St_seq ?_
  refine St_region ?_
  refine Ls_run (run_assign rfl) rfl ?_
  refine Ls_nil ?_
  refine Jm_seq ?_
  refine St_seq ?_
  refine St_seq ?_
  refine St_region ?_
  refine Ls_run (run_assign rfl) rfl ?_
  refine Ls_nil ?_
  refine Jm_seq ?_
  refine St_block ?_
  obtain ⟨En1, hEn1⟩ : ∃ F : Nat → Env, ∀ (i : Nat), F i = [(0, .pointer (some ⟨bj, 0, none⟩)), (1, .slice A n c), (5, .int .i64 (i : Int))] := ⟨(fun (i : Nat) => [(0, .pointer (some ⟨bj, 0, none⟩)), (1, .slice A n c), (5, .int .i64 (i : Int))]), fun _ => rfl⟩
  obtain ⟨Iv2, hIv2⟩ : ∃ F : Nat → World → Prop, ∀ (i : Nat) (wr : World), F i wr = (w = wr ∧ i ≤ n ∧ bfaultF s.tb.length ((ws.take i).map Prod.fst) (ws.drop i) = bfault s.tb.length ws) := ⟨(fun (i : Nat) => fun (wr : World) => w = wr ∧ i ≤ n ∧ bfaultF s.tb.length ((ws.take i).map Prod.fst) (ws.drop i) = bfault s.tb.length ws), fun _ _ => rfl⟩
  obtain ⟨ms3, hms3⟩ : ∃ F : Nat → Nat, ∀ (i : Nat), F i = (n - i) := ⟨(fun (i : Nat) => n - i), fun _ => rfl⟩
  refine St_loop En1 Iv2 ms3 (0) ?_ ?_ ?_
  · skip
    rw [hIv2]
    exact ⟨rfl, by omega, rfl⟩
  · rw [hEn1]; exact (subE_cons rfl (subE_cons rfl (subE_cons rfl subE_nil)))
  rintro i wr hI4
  rw [hIv2] at hI4
  obtain ⟨rfl, hi, hf⟩ := hI4
  refine St_eqE (hEn1 _) ?_
  refine St_seq ?_
  refine St_seq ?_
  refine St_region ?_
  refine Ls_run (run_move rfl) rfl ?_
  refine Ls_run (run_move rfl) rfl ?_
  refine Ls_run (run_len Try.underlying51 rfl) rfl ?_
  refine Ls_run (run_lss rfl rfl) rfl ?_
  refine Ls_nil ?_
  refine Jm_seq ?_
  refine St_ifP rfl (fun h5 => ?_) (fun h5 => ?_)
  · skip
    refine St_skip ?_
    refine Jm_seq ?_
    refine St_seq ?_
    refine St_block ?_
    refine St_seq ?_
    refine St_region ?_
    refine Ls_run (run_move rfl) rfl ?_
    refine Ls_run (run_move rfl) rfl ?_
    obtain ⟨⟨pg, Aw, nw, cw⟩, ho⟩ : ∃ o, vs.getD i (0, none, 0, 0) = o := ⟨_, rfl⟩
    obtain ⟨⟨q, x⟩, hq⟩ : ∃ o, ws.getD i (0, []) = o := ⟨_, rfl⟩
    obtain ⟨hpg, hrw⟩ := hw.at_ i (by omega)
    rw [ho, hq] at hpg
    rw [ho, hq] at hrw
    simp only at hpg hrw
    subst hpg
    have hxl := rdB_len hrw
    have hwq := hok _ (wmem (ws := ws) (i := i) (by omega))
    rw [hq] at hwq
    simp only at hwq
    rw [wdrop (by omega) hq] at hf
    have hcl : ((ws.take i).map Prod.fst).count pg ≤ i := by have := List.count_le_length (l := (ws.take i).map Prod.fst) (a := pg); rw [List.length_map, List.length_take] at this; omega
    refine Ls_index (KW) hw.rd Try.underlying51 inf45 rfl rfl (by omega) (by omega) ho rfl ?_
    intro b6 o7 hc8
    refine Ls_run (run_field Try.underlying45 rfl inf3 (by decide) rfl) rfl ?_
    refine Ls_run (run_as (run_load sc3 rfl (hc8 0 _ rfl)) (show _ = Value.int .i64 pg from rfl)) rfl ?_
    refine Ls_run (run_assign rfl) rfl ?_
    refine Ls_nil ?_
    refine Jm_seq ?_
    refine St_seq ?_
    refine St_seq ?_
    refine St_region ?_
    refine Ls_run (run_move rfl) rfl ?_
    refine Ls_run (run_lss rfl rfl) rfl ?_
    refine Ls_run (run_move rfl) rfl ?_
    refine Ls_partP (t := 21) rfl (fun h9 => ?_) (fun h9 => ?_)
    · skip
      refine Ls_off rfl rfl rfl rfl ?_
      refine Ls_off rfl rfl rfl rfl ?_
      refine Ls_off rfl rfl rfl rfl ?_
      refine Ls_off rfl rfl rfl rfl ?_
      refine Ls_off rfl rfl rfl rfl ?_
      refine Ls_off rfl rfl rfl rfl ?_
      refine Ls_off rfl rfl rfl rfl ?_
      refine Ls_run (run_pick_t rfl rfl) rfl ?_
      refine Ls_nil ?_
      refine Jm_seq ?_
      refine St_ift rfl ?_
      refine St_seq ?_
      refine St_region ?_
      refine Ls_run (run_assign rfl) rfl ?_
      refine Ls_nil ?_
      refine Jm_seq ?_
      refine St_ret ?_
      refine Jm_then_ret (Jm_block_ret (Jm_then_ret (Jm_then_ret (Jm_block_ret (Jm_then_ret  ?_)))))
      refine Jm_ret1 rfl rfl ?_
      first
      | (have hz : ws.drop i = [] := List.drop_of_length_le (by omega); rw [hz] at hf; exact ⟨_, rfl, rfl, by rw [← hf]; rfl⟩)
      | (rw [bf_91 (by omega)] at hf; exact ⟨_, rfl, rfl, by rw [← hf]⟩)
      | (rw [bf_93 (by omega) (seen_at (j := k) (by omega) (by omega) (by assumption))] at hf; exact ⟨_, rfl, rfl, by rw [← hf]⟩)
      | (rw [bf_6 (by omega) (seen_no (by omega) (fun j hj => hne j (by omega))) (by omega)] at hf; exact ⟨_, rfl, rfl, by rw [← hf]⟩)
    · skip
      refine Ls_on rfl rfl ?_
      refine Ls_run (run_move rfl) rfl ?_
      refine Ls_on rfl rfl ?_
      refine Ls_run (run_move rfl) rfl ?_
      refine Ls_on rfl rfl ?_
      refine Ls_run (run_nilCheck rfl) rfl ?_
      refine Ls_on rfl rfl ?_
      refine Ls_run (run_as (run_field Try.underlying138 rfl inf22 (by decide) rfl) (show _ = Value.pointer (some ⟨bj, 1, none⟩) from rfl)) rfl ?_
      refine Ls_on rfl rfl ?_
      refine Ls_run (run_load sc22 rfl (hs.blk_at 0 rfl 1 rfl)) rfl ?_
      refine Ls_on rfl rfl ?_
      refine Ls_run (run_len Try.underlying22 rfl) rfl ?_
      refine Ls_on rfl rfl ?_
      refine Ls_run (run_geq rfl rfl) rfl ?_
      refine Ls_run (run_pick_f rfl rfl) rfl ?_
      refine Ls_nil ?_
      refine Jm_seq ?_
      refine St_ifP rfl (fun h11 => ?_) (fun h11 => ?_)
      · skip
        refine St_seq ?_
        refine St_region ?_
        refine Ls_run (run_assign rfl) rfl ?_
        refine Ls_nil ?_
        refine Jm_seq ?_
        refine St_ret ?_
        refine Jm_then_ret (Jm_block_ret (Jm_then_ret (Jm_then_ret (Jm_block_ret (Jm_then_ret  ?_)))))
        refine Jm_ret1 rfl rfl ?_
        first
        | (have hz : ws.drop i = [] := List.drop_of_length_le (by omega); rw [hz] at hf; exact ⟨_, rfl, rfl, by rw [← hf]; rfl⟩)
        | (rw [bf_91 (by omega)] at hf; exact ⟨_, rfl, rfl, by rw [← hf]⟩)
        | (rw [bf_93 (by omega) (seen_at (j := k) (by omega) (by omega) (by assumption))] at hf; exact ⟨_, rfl, rfl, by rw [← hf]⟩)
        | (rw [bf_6 (by omega) (seen_no (by omega) (fun j hj => hne j (by omega))) (by omega)] at hf; exact ⟨_, rfl, rfl, by rw [← hf]⟩)
      · skip
        refine St_skip ?_
        refine Jm_seq ?_
        refine St_seq ?_
        refine St_seq ?_
        refine St_region ?_
        refine Ls_run (run_assign rfl) rfl ?_
        refine Ls_nil ?_
        refine Jm_seq ?_
        refine St_block ?_
        obtain ⟨En12, hEn12⟩ : ∃ F : Nat → Env, ∀ (k : Nat), F k = [(0, .pointer (some ⟨bj, 0, none⟩)), (1, .slice A n c), (5, .int .i64 (i : Int)), (6, .int .i64 pg), (7, .int .i64 (k : Int))] := ⟨(fun (k : Nat) => [(0, .pointer (some ⟨bj, 0, none⟩)), (1, .slice A n c), (5, .int .i64 (i : Int)), (6, .int .i64 pg), (7, .int .i64 (k : Int))]), fun _ => rfl⟩
        obtain ⟨Iv13, hIv13⟩ : ∃ F : Nat → World → Prop, ∀ (k : Nat) (wk : World), F k wk = (w = wk ∧ k ≤ i ∧ ∀ j, j < k → (ws.getD j (0, [])).1 ≠ pg) := ⟨(fun (k : Nat) => fun (wk : World) => w = wk ∧ k ≤ i ∧ ∀ j, j < k → (ws.getD j (0, [])).1 ≠ pg), fun _ _ => rfl⟩
        obtain ⟨ms14, hms14⟩ : ∃ F : Nat → Nat, ∀ (k : Nat), F k = (i - k) := ⟨(fun (k : Nat) => i - k), fun _ => rfl⟩
        refine St_loop En12 Iv13 ms14 (0) ?_ ?_ ?_
        · skip
          rw [hIv13]
          exact ⟨rfl, by omega, fun j hj => by omega⟩
        · rw [hEn12]; exact (subE_cons rfl (subE_cons rfl (subE_cons rfl (subE_cons rfl (subE_cons rfl subE_nil)))))
        rintro k wk hI15
        rw [hIv13] at hI15
        obtain ⟨rfl, hk, hne⟩ := hI15
        refine St_eqE (hEn12 _) ?_
        refine St_seq ?_
        refine St_seq ?_
        refine St_region ?_
        refine Ls_run (run_move rfl) rfl ?_
        refine Ls_run (run_move rfl) rfl ?_
        refine Ls_run (run_lss rfl rfl) rfl ?_
        refine Ls_nil ?_
        refine Jm_seq ?_
        refine St_ifP rfl (fun h16 => ?_) (fun h16 => ?_)
        · skip
          refine St_skip ?_
          refine Jm_seq ?_
          refine St_seq ?_
          refine St_block ?_
          refine St_seq ?_
          refine St_region ?_
          refine Ls_run (run_move rfl) rfl ?_
          refine Ls_run (run_move rfl) rfl ?_
          obtain ⟨⟨pk, Ak, nk, ck⟩, hok2⟩ : ∃ o, vs.getD k (0, none, 0, 0) = o := ⟨_, rfl⟩
          have hpk := (hw.at_ k (by omega)).1
          rw [hok2] at hpk
          simp only at hpk
          subst hpk
          refine Ls_index (KW) hw.rd Try.underlying51 inf45 rfl rfl (by omega) (by omega) hok2 rfl ?_
          intro b17 o18 hc19
          refine Ls_run (run_field Try.underlying45 rfl inf3 (by decide) rfl) rfl ?_
          refine Ls_run (run_as (run_load sc3 rfl (hc19 0 _ rfl)) (show _ = Value.int .i64 (ws.getD k (0, [])).1 from rfl)) rfl ?_
          refine Ls_run (run_move rfl) rfl ?_
          refine Ls_run (run_eql rfl rfl) rfl ?_
          refine Ls_nil ?_
          refine Jm_seq ?_
          refine St_ifP rfl (fun h20 => ?_) (fun h20 => ?_)
          · skip
            refine St_seq ?_
            refine St_region ?_
            refine Ls_run (run_assign rfl) rfl ?_
            refine Ls_nil ?_
            refine Jm_seq ?_
            refine St_ret ?_
            refine Jm_block_ret (Jm_then_ret (Jm_then_ret (Jm_block_ret (Jm_then_ret (Jm_block_ret (Jm_then_ret (Jm_then_ret (Jm_block_ret (Jm_then_ret  ?_)))))))))
            refine Jm_ret1 rfl rfl ?_
            first
            | (have hz : ws.drop i = [] := List.drop_of_length_le (by omega); rw [hz] at hf; exact ⟨_, rfl, rfl, by rw [← hf]; rfl⟩)
            | (rw [bf_91 (by omega)] at hf; exact ⟨_, rfl, rfl, by rw [← hf]⟩)
            | (rw [bf_93 (by omega) (seen_at (j := k) (by omega) (by omega) (by assumption))] at hf; exact ⟨_, rfl, rfl, by rw [← hf]⟩)
            | (rw [bf_6 (by omega) (seen_no (by omega) (fun j hj => hne j (by omega))) (by omega)] at hf; exact ⟨_, rfl, rfl, by rw [← hf]⟩)
          · skip
            refine St_skip ?_
            refine Jm_block_normal (Jm_seq ?_)
            refine St_region ?_
            refine Ls_run (run_move rfl) rfl ?_
            refine Ls_run (run_add rfl rfl (w64 (by omega))) rfl ?_
            refine Ls_run (run_assign rfl) rfl ?_
            refine Ls_nil ?_
            refine Jm_round (k + 1) ?_ ?_ ?_
            · rw [hEn12]; exact (subE_cons rfl (subE_cons rfl (subE_cons rfl (subE_cons rfl (subE_cons rfl subE_nil)))))
            · skip
              rw [hIv13]
              refine ⟨rfl, by omega, fun j hj => ?_⟩
              by_cases e : j = k
              · subst e; assumption
              · exact hne j (by omega)
            · skip
              rw [hms14, hms14]
              omega
        · skip
          refine St_exit ?_
          refine Jm_then_exit (Jm_then_exit (Jm_block_same (Jm_seq ?_)))
          refine St_seq ?_
          refine St_region ?_
          refine Ls_run (run_move rfl) rfl ?_
          refine Ls_run (run_move rfl) rfl ?_
          refine Ls_index (KW) hw.rd Try.underlying51 inf45 rfl rfl (by omega) (by omega) ho rfl ?_
          intro b21 o22 hc23
          refine Ls_run (run_field Try.underlying45 rfl inf28 (by decide) rfl) rfl ?_
          refine Ls_run (run_as (run_load sc28 rfl (hc23 1 _ rfl)) (show _ = Value.slice Aw nw cw from rfl)) rfl ?_
          refine Ls_run (run_len Try.underlying28 rfl) rfl ?_
          refine Ls_run (run_gtr rfl rfl) rfl ?_
          refine Ls_nil ?_
          refine Jm_seq ?_
          refine St_ifP rfl (fun h24 => ?_) (fun h24 => ?_)
          · skip
            refine St_seq ?_
            refine St_region ?_
            refine Ls_run (run_assign rfl) rfl ?_
            refine Ls_nil ?_
            refine Jm_seq ?_
            refine St_ret ?_
            refine Jm_block_ret (Jm_then_ret (Jm_then_ret (Jm_block_ret (Jm_then_ret  ?_))))
            refine Jm_ret1 rfl rfl ?_
            first
            | (have hz : ws.drop i = [] := List.drop_of_length_le (by omega); rw [hz] at hf; exact ⟨_, rfl, rfl, by rw [← hf]; rfl⟩)
            | (rw [bf_91 (by omega)] at hf; exact ⟨_, rfl, rfl, by rw [← hf]⟩)
            | (rw [bf_93 (by omega) (seen_at (j := k) (by omega) (by omega) (by assumption))] at hf; exact ⟨_, rfl, rfl, by rw [← hf]⟩)
            | (rw [bf_6 (by omega) (seen_no (by omega) (fun j hj => hne j (by omega))) (by omega)] at hf; exact ⟨_, rfl, rfl, by rw [← hf]⟩)
          · skip
            refine St_skip ?_
            refine Jm_block_normal (Jm_seq ?_)
            refine St_region ?_
            refine Ls_run (run_move rfl) rfl ?_
            refine Ls_run (run_add rfl rfl (w64 (by omega))) rfl ?_
            refine Ls_run (run_assign rfl) rfl ?_
            refine Ls_nil ?_
            refine Jm_round (i + 1) ?_ ?_ ?_
            · rw [hEn1]; exact (subE_cons rfl (subE_cons rfl (subE_cons rfl subE_nil)))
            · skip
              rw [hIv2]
              rw [bf_go (by omega) (seen_no (by omega) (fun j hj => hne j (by omega))) (by omega)] at hf
              exact ⟨rfl, by omega, by rw [wtake (by omega) hq]; exact hf⟩
            · skip
              rw [hms3, hms3]
              omega
  · skip
    refine St_exit ?_
    refine Jm_then_exit (Jm_then_exit (Jm_block_same (Jm_seq ?_)))
    refine St_seq ?_
    refine St_region ?_
    refine Ls_run (run_assign rfl) rfl ?_
    refine Ls_nil ?_
    refine Jm_seq ?_
    refine St_ret ?_
    refine Jm_ret1 rfl rfl ?_
    first
    | (have hz : ws.drop i = [] := List.drop_of_length_le (by omega); rw [hz] at hf; exact ⟨_, rfl, rfl, by rw [← hf]; rfl⟩)
    | (rw [bf_91 (by omega)] at hf; exact ⟨_, rfl, rfl, by rw [← hf]⟩)
    | (rw [bf_93 (by omega) (seen_at (j := k) (by omega) (by omega) (by assumption))] at hf; exact ⟨_, rfl, rfl, by rw [← hf]⟩)
    | (rw [bf_6 (by omega) (seen_no (by omega) (fun j hj => hne j (by omega))) (by omega)] at hf; exact ⟨_, rfl, rfl, by rw [← hf]⟩)
theorem tnl_pos {b : List Int} (hb : ∀ c ∈ b, 0 ≤ c ∧ c ≤ 255) : ∀ (k at_ : Nat) (acc l : List Int) (a : Int), (∀ y ∈ acc, 0 ≤ y ∧ y ≤ 4611686018427387904) → tnl b k at_ acc = (l, a, 0) → ∀ y ∈ l, 0 ≤ y ∧ y ≤ 4611686018427387904
  | 0, at_, acc, l, a, h, ht => by
    simp only [tnl, Prod.mk.injEq] at ht
    obtain ⟨rfl, rfl, _⟩ := ht
    exact h
  | k + 1, at_, acc, l, a, h, ht => by
    rw [tnl_succ] at ht
    obtain ⟨⟨x, y, e⟩, hq⟩ : ∃ q, tk 0 0 (b.drop at_) = q := ⟨_, rfl⟩
    rw [hq] at ht
    simp only at ht
    by_cases he : e = 0
    · subst he
      have hr := tk_range (fun c hc => hb c (List.mem_of_mem_drop hc)) hq
      simp only [ne_eq, not_true_eq_false, if_false] at ht
      split at ht
      · simp at ht
      · refine tnl_pos hb k (at_ + y.toNat) (acc ++ [x]) l a (fun z hz => ?_) ht
        rcases List.mem_append.1 hz with hz | hz
        · exact h z hz
        · simp only [List.mem_singleton] at hz; subst hz; omega
    · rw [if_pos he] at ht
      simp only [Prod.mk.injEq] at ht
      exact absurd ht.2.2 he
theorem tnum_pos {b l : List Int} {a m : Int} (hb : ∀ c ∈ b, 0 ≤ c ∧ c ≤ 255) (h : tnum b m = (l, a, 0)) : ∀ y ∈ l, 0 ≤ y ∧ y ≤ 4611686018427387904 := by
  unfold tnum at h
  obtain ⟨⟨x, y, e⟩, hq⟩ : ∃ q, tk 0 0 b = q := ⟨_, rfl⟩
  rw [hq] at h
  simp only at h
  by_cases he : e = 0
  · subst he
    simp only [ne_eq, not_true_eq_false, if_false] at h
    split at h
    · simp at h
    · exact tnl_pos hb x.toNat y.toNat [] l a (by simp) h
  · rw [if_pos he] at h
    simp only [Prod.mk.injEq] at h
    exact absurd h.2.2 he
theorem sat_mono {P : Program} {k : TypeId} {B w : World} {b n : Nat} {f : Int → Int} {L : List Assn} (hs : Sat B w (MapI P k b n f :: L)) : Sat B w (MapI P k b (n + 1) f :: L) := hs.imp fun h ⟨es, clock, h1, h2, h3, h4⟩ => ⟨es, clock, h1, h2, Nat.le_succ_of_le h3, h4⟩
set_option maxRecDepth 100000 in
set_option maxHeartbeats 1000000 in
theorem readRoot_c (w : World) (A : Option Addr) (n c : Nat) (l : List Int) (nb : Int) (hr : Rd w A n c 1 (bytesV l)) (hb : IsBytes l) (hn : n ≤ 1073741824) (hnb : 0 ≤ nb ∧ nb ≤ 64) :
    Calls Try.prog 95 [.slice A n c, .int .i64 nb].toArray w (Ret (fun v' w' => ∃ A' c', v' = .tuple #[.agg #[.int .i64 ((rroot l nb).getD (0, [])).1, .slice A' ((rroot l nb).getD (0, [])).2.length c'], .bool (rroot l nb).isSome] ∧ Sat w w' [Own 3 1 (.slice A' ((rroot l nb).getD (0, [])).2.length c') ((rroot l nb).getD (0, [])).2.length (KI.flat ((rroot l nb).getD (0, [])).2)])) := by
  have hs := Sat.start w
  have hl : l.length = n := rdB_len hr
  refine Calls_body Try.func95 rfl rfl rfl (envE_cons (i := 0) (v := .slice A n c) rfl (envE_cons (i := 1) (v := .int .i64 nb) rfl envE_nil)) ?_
  refine St_seq ?_
  refine St_region ?_
  refine Ls_alloc hs inf120 rfl ?_
  intro b2 w1 hs
  refine Ls_run (run_assign rfl) rfl ?_
  refine Ls_nil ?_
  refine Jm_seq ?_
  refine St_seq ?_
  refine St_region ?_
  refine Ls_run (run_move rfl) rfl ?_
  refine Ls_call Try.func111 nm111 rfl rfl (Take_c w1 _ _ _ l (hr.inB hs) hb (by omega)) rfl ?_
  rintro v3 w4 ⟨rfl, rfl⟩
  obtain ⟨⟨xa, aa, ea⟩, htk⟩ : ∃ q, tk 0 0 l = q := ⟨_, rfl⟩
  rw [tkV_eq htk]
  refine Ls_run (run_move rfl) rfl ?_
  refine Ls_run (run_extract rfl rfl) rfl ?_
  refine Ls_run (run_extract rfl rfl) rfl ?_
  refine Ls_run (run_extract rfl rfl) rfl ?_
  refine Ls_run (run_assign rfl) rfl ?_
  refine Ls_run (run_assign rfl) rfl ?_
  refine Ls_run (run_assign rfl) rfl ?_
  refine Ls_nil ?_
  refine Jm_seq ?_
  refine St_seq ?_
  refine St_seq ?_
  refine St_region ?_
  refine Ls_run (run_move rfl) rfl ?_
  refine Ls_run (run_neq rfl rfl) rfl ?_
  refine Ls_run (run_move rfl) rfl ?_
  refine Ls_partP (t := 22) rfl (fun h5 => ?_) (fun h5 => ?_)
  · skip
    refine Ls_off rfl rfl rfl rfl ?_
    refine Ls_off rfl rfl rfl rfl ?_
    refine Ls_run (run_pick_t rfl rfl) rfl ?_
    refine Ls_run (run_move rfl) rfl ?_
    refine Ls_off rfl rfl rfl rfl ?_
    refine Ls_off rfl rfl rfl rfl ?_
    refine Ls_run (run_pick_t rfl rfl) rfl ?_
    refine Ls_nil ?_
    refine Jm_seq ?_
    refine St_ift rfl ?_
    refine St_seq ?_
    refine St_region ?_
    refine Ls_run (run_buildO (pv := []) rfl (bld120 )) rfl ?_
    refine Ls_storeAgg hs inf120 rfl rfl rfl rfl (by simp [Value.oneCell', Value.cells, bcells, qcells]) ?_
    intro w7 hs
    refine Ls_run (run_assign rfl) rfl ?_
    refine Ls_nil ?_
    refine Jm_seq ?_
    refine St_ret ?_
    refine Jm_then_ret  ?_
    refine Jm_retCT rfl agg120 inf120 rfl rfl rfl (hs.blk_cells 0 rfl 0 2) ?_
    have hR : rroot l nb = none := rroot_1 htk (by omega)
    rw [hR]
    exact ⟨_, rfl, none, 0, rfl, hs.forget.own_nil 3 1⟩
  · skip
    have e0 : ea = 0 := by omega
    subst e0
    have hrg := tk_range hb htk
    obtain ⟨xn, rfl⟩ : ∃ k : Nat, xa = (k : Int) := ⟨xa.toNat, by omega⟩
    obtain ⟨an, rfl⟩ : ∃ k : Nat, aa = (k : Int) := ⟨aa.toNat, by omega⟩
    have hdl : (l.drop an).length = l.length - an := by rw [List.length_drop]
    refine Ls_on rfl rfl ?_
    refine Ls_run (run_move rfl) rfl ?_
    refine Ls_on rfl rfl ?_
    refine Ls_run (run_lss rfl rfl) rfl ?_
    refine Ls_run (run_pick_f rfl rfl) rfl ?_
    refine Ls_run (run_move rfl) rfl ?_
    refine Ls_partP (t := 26) rfl (fun h8 => ?_) (fun h8 => ?_)
    · skip
      refine Ls_off rfl rfl rfl rfl ?_
      refine Ls_off rfl rfl rfl rfl ?_
      refine Ls_run (run_pick_t rfl rfl) rfl ?_
      refine Ls_nil ?_
      refine Jm_seq ?_
      refine St_ift rfl ?_
      refine St_seq ?_
      refine St_region ?_
      refine Ls_run (run_buildO (pv := []) rfl (bld120 )) rfl ?_
      refine Ls_storeAgg hs inf120 rfl rfl rfl rfl (by simp [Value.oneCell', Value.cells, bcells, qcells]) ?_
      intro w10 hs
      refine Ls_run (run_assign rfl) rfl ?_
      refine Ls_nil ?_
      refine Jm_seq ?_
      refine St_ret ?_
      refine Jm_then_ret  ?_
      refine Jm_retCT rfl agg120 inf120 rfl rfl rfl (hs.blk_cells 0 rfl 0 2) ?_
      have hR : rroot l nb = none := rroot_1 htk (by omega)
      rw [hR]
      exact ⟨_, rfl, none, 0, rfl, hs.forget.own_nil 3 1⟩
    · skip
      refine Ls_on rfl rfl ?_
      refine Ls_run (run_move rfl) rfl ?_
      refine Ls_on rfl rfl ?_
      refine Ls_run (run_gtr rfl rfl) rfl ?_
      refine Ls_run (run_pick_f rfl rfl) rfl ?_
      refine Ls_nil ?_
      refine Jm_seq ?_
      refine St_ifP rfl (fun h11 => ?_) (fun h11 => ?_)
      · skip
        refine St_seq ?_
        refine St_region ?_
        refine Ls_run (run_buildO (pv := []) rfl (bld120 )) rfl ?_
        refine Ls_storeAgg hs inf120 rfl rfl rfl rfl (by simp [Value.oneCell', Value.cells, bcells, qcells]) ?_
        intro w12 hs
        refine Ls_run (run_assign rfl) rfl ?_
        refine Ls_nil ?_
        refine Jm_seq ?_
        refine St_ret ?_
        refine Jm_then_ret  ?_
        refine Jm_retCT rfl agg120 inf120 rfl rfl rfl (hs.blk_cells 0 rfl 0 2) ?_
        have hR : rroot l nb = none := rroot_1 htk (by omega)
        rw [hR]
        exact ⟨_, rfl, none, 0, rfl, hs.forget.own_nil 3 1⟩
      · skip
        refine St_skip ?_
        refine Jm_seq ?_
        refine St_seq ?_
        refine St_region ?_
        refine Ls_run (run_move rfl) rfl ?_
        refine Ls_run (run_move rfl) rfl ?_
        refine Ls_run (run_as (run_slice_l Try.underlying28 inf5 rfl rfl (by omega) (by omega)) (show _ = Value.slice (if c = an then A else A.map (·.add (an * 1))) (l.drop an).length (c - an) from by rw [hdl, hl]; rfl)) rfl ?_
        have hrd := rdB_drop hr an (by omega)
        rw [← hl, ← hdl] at hrd
        refine Ls_call Try.func112 nm112 rfl rfl (TakeNums_c w1 _ _ _ (l.drop an) 8 (hrd.inB hs) (hb.drop' an) (by omega) (by decide)) rfl ?_
        rintro v13 w14 ⟨At, ct, rfl, hsT⟩
        obtain ⟨⟨tl, ua, ue⟩, htn⟩ : ∃ q, tnum (l.drop an) 8 = q := ⟨_, rfl⟩
        simp only [htn] at hsT ⊢
        replace hs := hs.trans hsT
        simp only [List.nil_append, List.cons_append] at hs
        refine Ls_run (run_move rfl) rfl ?_
        refine Ls_run (run_extract rfl rfl) rfl ?_
        refine Ls_run (run_extract rfl rfl) rfl ?_
        refine Ls_run (run_extract rfl rfl) rfl ?_
        refine Ls_run (run_assign rfl) rfl ?_
        refine Ls_run (run_assign rfl) rfl ?_
        refine Ls_run (run_assign rfl) rfl ?_
        refine Ls_nil ?_
        refine Jm_seq ?_
        refine St_seq ?_
        refine St_seq ?_
        refine St_region ?_
        refine Ls_run (run_move rfl) rfl ?_
        refine Ls_run (run_neq rfl rfl) rfl ?_
        refine Ls_run (run_move rfl) rfl ?_
        refine Ls_partP (t := 41) rfl (fun h15 => ?_) (fun h15 => ?_)
        · skip
          refine Ls_off rfl rfl rfl rfl ?_
          refine Ls_off rfl rfl rfl rfl ?_
          refine Ls_off rfl rfl rfl rfl ?_
          refine Ls_off rfl rfl rfl rfl ?_
          refine Ls_off rfl rfl rfl rfl ?_
          refine Ls_off rfl rfl rfl rfl ?_
          refine Ls_run (run_pick_t rfl rfl) rfl ?_
          refine Ls_run (run_move rfl) rfl ?_
          refine Ls_off rfl rfl rfl rfl ?_
          refine Ls_off rfl rfl rfl rfl ?_
          refine Ls_off rfl rfl rfl rfl ?_
          refine Ls_run (run_pick_t rfl rfl) rfl ?_
          refine Ls_run (run_move rfl) rfl ?_
          refine Ls_off rfl rfl rfl rfl ?_
          refine Ls_off rfl rfl rfl rfl ?_
          refine Ls_off rfl rfl rfl rfl ?_
          refine Ls_off rfl rfl rfl rfl ?_
          refine Ls_off rfl rfl rfl rfl ?_
          refine Ls_off rfl rfl rfl rfl ?_
          refine Ls_run (run_pick_t rfl rfl) rfl ?_
          refine Ls_nil ?_
          refine Jm_seq ?_
          refine St_ift rfl ?_
          refine St_seq ?_
          refine St_region ?_
          refine Ls_run (run_buildO (pv := []) rfl (bld120 )) rfl ?_
          replace hs := hs.front 1 rfl
          simp only [List.cons_append, List.nil_append, List.eraseIdx_cons_zero, List.eraseIdx_cons_succ] at hs
          refine Ls_storeAgg hs inf120 rfl rfl rfl rfl (by simp [Value.oneCell', Value.cells, bcells, qcells]) ?_
          intro w17 hs
          refine Ls_run (run_assign rfl) rfl ?_
          refine Ls_nil ?_
          refine Jm_seq ?_
          refine St_ret ?_
          refine Jm_then_ret  ?_
          refine Jm_retCT rfl agg120 inf120 rfl rfl rfl (hs.blk_cells 0 rfl 0 2) ?_
          have hR : rroot l nb = none := rroot_2 (a := (an : Int)) htk htn (by first | exact .inl (by omega) | exact .inr (.inl (by omega)) | exact .inr (.inr (.inl (by omega))) | exact .inr (.inr (.inr (.inl (by omega)))) | exact .inr (.inr (.inr (.inr hbadt))))
          rw [hR]
          exact ⟨_, rfl, none, 0, rfl, hs.forget.own_nil 3 1⟩
        · skip
          have hu0 : ue = 0 := by omega
          subst hu0
          have hta := tnum_at8 (hb.drop' an) htn
          refine Ls_on rfl rfl ?_
          refine Ls_run (run_move rfl) rfl ?_
          refine Ls_on rfl rfl ?_
          refine Ls_run (run_move rfl) rfl ?_
          refine Ls_on rfl rfl ?_
          refine Ls_run (run_add rfl rfl (w64 (by omega))) rfl ?_
          refine Ls_on rfl rfl ?_
          refine Ls_run (run_move rfl) rfl ?_
          refine Ls_on rfl rfl ?_
          refine Ls_run (run_len Try.underlying28 rfl) rfl ?_
          refine Ls_on rfl rfl ?_
          refine Ls_run (run_neq rfl rfl) rfl ?_
          refine Ls_run (run_pick_f rfl rfl) rfl ?_
          refine Ls_run (run_move rfl) rfl ?_
          refine Ls_partP (t := 49) rfl (fun h18 => ?_) (fun h18 => ?_)
          · skip
            refine Ls_off rfl rfl rfl rfl ?_
            refine Ls_off rfl rfl rfl rfl ?_
            refine Ls_off rfl rfl rfl rfl ?_
            refine Ls_run (run_pick_t rfl rfl) rfl ?_
            refine Ls_run (run_move rfl) rfl ?_
            refine Ls_off rfl rfl rfl rfl ?_
            refine Ls_off rfl rfl rfl rfl ?_
            refine Ls_off rfl rfl rfl rfl ?_
            refine Ls_off rfl rfl rfl rfl ?_
            refine Ls_off rfl rfl rfl rfl ?_
            refine Ls_off rfl rfl rfl rfl ?_
            refine Ls_run (run_pick_t rfl rfl) rfl ?_
            refine Ls_nil ?_
            refine Jm_seq ?_
            refine St_ift rfl ?_
            refine St_seq ?_
            refine St_region ?_
            refine Ls_run (run_buildO (pv := []) rfl (bld120 )) rfl ?_
            replace hs := hs.front 1 rfl
            simp only [List.cons_append, List.nil_append, List.eraseIdx_cons_zero, List.eraseIdx_cons_succ] at hs
            refine Ls_storeAgg hs inf120 rfl rfl rfl rfl (by simp [Value.oneCell', Value.cells, bcells, qcells]) ?_
            intro w20 hs
            refine Ls_run (run_assign rfl) rfl ?_
            refine Ls_nil ?_
            refine Jm_seq ?_
            refine St_ret ?_
            refine Jm_then_ret  ?_
            refine Jm_retCT rfl agg120 inf120 rfl rfl rfl (hs.blk_cells 0 rfl 0 2) ?_
            have hR : rroot l nb = none := rroot_2 (a := (an : Int)) htk htn (by first | exact .inl (by omega) | exact .inr (.inl (by omega)) | exact .inr (.inr (.inl (by omega))) | exact .inr (.inr (.inr (.inl (by omega)))) | exact .inr (.inr (.inr (.inr hbadt))))
            rw [hR]
            exact ⟨_, rfl, none, 0, rfl, hs.forget.own_nil 3 1⟩
          · skip
            refine Ls_on rfl rfl ?_
            refine Ls_run (run_move rfl) rfl ?_
            refine Ls_on rfl rfl ?_
            refine Ls_run (run_len Try.underlying22 rfl) rfl ?_
            refine Ls_on rfl rfl ?_
            refine Ls_run (run_eql rfl rfl) rfl ?_
            refine Ls_run (run_pick_f rfl rfl) rfl ?_
            refine Ls_run (run_move rfl) rfl ?_
            refine Ls_partP (t := 54) rfl (fun h21 => ?_) (fun h21 => ?_)
            · skip
              refine Ls_off rfl rfl rfl rfl ?_
              refine Ls_off rfl rfl rfl rfl ?_
              refine Ls_off rfl rfl rfl rfl ?_
              refine Ls_off rfl rfl rfl rfl ?_
              refine Ls_off rfl rfl rfl rfl ?_
              refine Ls_off rfl rfl rfl rfl ?_
              refine Ls_run (run_pick_t rfl rfl) rfl ?_
              refine Ls_nil ?_
              refine Jm_seq ?_
              refine St_ift rfl ?_
              refine St_seq ?_
              refine St_region ?_
              refine Ls_run (run_buildO (pv := []) rfl (bld120 )) rfl ?_
              replace hs := hs.front 1 rfl
              simp only [List.cons_append, List.nil_append, List.eraseIdx_cons_zero, List.eraseIdx_cons_succ] at hs
              refine Ls_storeAgg hs inf120 rfl rfl rfl rfl (by simp [Value.oneCell', Value.cells, bcells, qcells]) ?_
              intro w23 hs
              refine Ls_run (run_assign rfl) rfl ?_
              refine Ls_nil ?_
              refine Jm_seq ?_
              refine St_ret ?_
              refine Jm_then_ret  ?_
              refine Jm_retCT rfl agg120 inf120 rfl rfl rfl (hs.blk_cells 0 rfl 0 2) ?_
              have hR : rroot l nb = none := rroot_2 (a := (an : Int)) htk htn (by first | exact .inl (by omega) | exact .inr (.inl (by omega)) | exact .inr (.inr (.inl (by omega))) | exact .inr (.inr (.inr (.inl (by omega)))) | exact .inr (.inr (.inr (.inr hbadt))))
              rw [hR]
              exact ⟨_, rfl, none, 0, rfl, hs.forget.own_nil 3 1⟩
            · skip
              refine Ls_on rfl rfl ?_
              refine Ls_run (run_move rfl) rfl ?_
              refine Ls_on rfl rfl ?_
              refine Ls_run (run_move rfl) rfl ?_
              refine Ls_on rfl rfl ?_
              refine Ls_run (run_len Try.underlying22 rfl) rfl ?_
              refine Ls_on rfl rfl ?_
              refine Ls_run (run_mul rfl rfl (w64 (by omega))) rfl ?_
              refine Ls_on rfl rfl ?_
              refine Ls_run (run_add rfl rfl (w64 (by omega))) rfl ?_
              refine Ls_on rfl rfl ?_
              refine Ls_run (run_lss rfl rfl) rfl ?_
              refine Ls_run (run_pick_f rfl rfl) rfl ?_
              refine Ls_nil ?_
              refine Jm_seq ?_
              refine St_ifP rfl (fun h24 => ?_) (fun h24 => ?_)
              · skip
                refine St_seq ?_
                refine St_region ?_
                refine Ls_run (run_buildO (pv := []) rfl (bld120 )) rfl ?_
                replace hs := hs.front 1 rfl
                simp only [List.cons_append, List.nil_append, List.eraseIdx_cons_zero, List.eraseIdx_cons_succ] at hs
                refine Ls_storeAgg hs inf120 rfl rfl rfl rfl (by simp [Value.oneCell', Value.cells, bcells, qcells]) ?_
                intro w25 hs
                refine Ls_run (run_assign rfl) rfl ?_
                refine Ls_nil ?_
                refine Jm_seq ?_
                refine St_ret ?_
                refine Jm_then_ret  ?_
                refine Jm_retCT rfl agg120 inf120 rfl rfl rfl (hs.blk_cells 0 rfl 0 2) ?_
                have hR : rroot l nb = none := rroot_2 (a := (an : Int)) htk htn (by first | exact .inl (by omega) | exact .inr (.inl (by omega)) | exact .inr (.inr (.inl (by omega))) | exact .inr (.inr (.inr (.inl (by omega)))) | exact .inr (.inr (.inr (.inr hbadt))))
                rw [hR]
                exact ⟨_, rfl, none, 0, rfl, hs.forget.own_nil 3 1⟩
              · skip
                refine St_skip ?_
                refine Jm_seq ?_
                refine St_seq ?_
                refine St_region ?_
                refine Ls_makeMap (k := 3) hs rfl ?_
                intro b26 w27 hs
                refine Ls_run (run_assign rfl) rfl ?_
                refine Ls_nil ?_
                refine Jm_seq ?_
                refine St_seq ?_
                refine St_seq ?_
                refine St_region ?_
                refine Ls_run (run_move rfl) rfl ?_
                refine Ls_run (run_len Try.underlying22 rfl) rfl ?_
                refine Ls_run (run_move rfl) rfl ?_
                refine Ls_nil ?_
                refine Jm_seq ?_
                refine St_block ?_
                replace hs := hs.front 1 rfl
                simp only [List.cons_append, List.nil_append, List.eraseIdx_cons_zero, List.eraseIdx_cons_succ] at hs
                replace hs := hs.front 2 rfl
                simp only [List.cons_append, List.nil_append, List.eraseIdx_cons_zero, List.eraseIdx_cons_succ] at hs
                replace hs := hs.front 2 rfl
                simp only [List.cons_append, List.nil_append, List.eraseIdx_cons_zero, List.eraseIdx_cons_succ] at hs
                have tl64 : ∀ y ∈ tl, -9223372036854775808 ≤ y ∧ y ≤ 9223372036854775807 := fun y hy => by have := tnum_pos (hb.drop' an) htn y hy; omega
                obtain ⟨En28, hEn28⟩ : ∃ F : Nat → Env, ∀ (i : Nat), F i = [(4, .pointer (some ⟨b2, 0, none⟩)), (1, .int .i64 nb), (6, .int .u64 (xn : Int)), (9, .slice At tl.length ct), (11, .map (some b26)), (64, .slice At tl.length ct), (65, .int .i64 (tl.length : Int)), (66, .int .i64 (i : Int))] := ⟨(fun (i : Nat) => [(4, .pointer (some ⟨b2, 0, none⟩)), (1, .int .i64 nb), (6, .int .u64 (xn : Int)), (9, .slice At tl.length ct), (11, .map (some b26)), (64, .slice At tl.length ct), (65, .int .i64 (tl.length : Int)), (66, .int .i64 (i : Int))]), fun _ => rfl⟩
                obtain ⟨Iv29, hIv29⟩ : ∃ F : Nat → World → Prop, ∀ (i : Nat) (wr : World), F i wr = (Sat w wr [MapI Try.prog 3 b26 i (fun q => ((nz (tl.take i)).count q : Int)), Blk b2 [.int .i64 0, .slice none 0 0] 120, Own 3 1 (.slice At tl.length ct) tl.length (KI.flat tl)] ∧ i ≤ tl.length ∧ ∀ j, j < i → tabAt tl nb j) := ⟨(fun (i : Nat) => fun (wr : World) => Sat w wr [MapI Try.prog 3 b26 i (fun q => ((nz (tl.take i)).count q : Int)), Blk b2 [.int .i64 0, .slice none 0 0] 120, Own 3 1 (.slice At tl.length ct) tl.length (KI.flat tl)] ∧ i ≤ tl.length ∧ ∀ j, j < i → tabAt tl nb j), fun _ _ => rfl⟩
                obtain ⟨ms30, hms30⟩ : ∃ F : Nat → Nat, ∀ (i : Nat), F i = (tl.length - i) := ⟨(fun (i : Nat) => tl.length - i), fun _ => rfl⟩
                refine St_loop En28 Iv29 ms30 (0) ?_ ?_ ?_
                · skip
                  rw [hIv29]
                  exact ⟨hs, by omega, fun j hj => by omega⟩
                · rw [hEn28]; exact (subE_cons rfl (subE_cons rfl (subE_cons rfl (subE_cons rfl (subE_cons rfl (subE_cons rfl (subE_cons rfl (subE_cons rfl subE_nil))))))))
                rintro i wr hI31
                rw [hIv29] at hI31
                obtain ⟨hs, hi, htab⟩ := hI31
                refine St_eqE (hEn28 _) ?_
                refine St_seq ?_
                refine St_region ?_
                refine Ls_run (run_lss rfl rfl) rfl ?_
                refine Ls_nil ?_
                refine Jm_seq ?_
                refine St_seq ?_
                refine St_ifP rfl (fun h32 => ?_) (fun h32 => ?_)
                · skip
                  refine St_skip ?_
                  refine Jm_seq ?_
                  refine St_seq ?_
                  refine St_block ?_
                  refine St_seq ?_
                  refine St_region ?_
                  refine Ls_index (KI) (hs.rd_at 2 rfl) Try.underlying22 inf3 rfl rfl (by omega) (by omega) rfl rfl ?_
                  intro b33 o34 hc35
                  refine Ls_run (run_as (run_load sc3 rfl (hc35 0 _ rfl)) (show _ = Value.int .i64 (tl.getD i 0) from rfl)) rfl ?_
                  refine Ls_run (run_assign rfl) rfl ?_
                  refine Ls_nil ?_
                  refine Jm_seq ?_
                  refine St_seq ?_
                  refine St_seq ?_
                  refine St_region ?_
                  refine Ls_run (run_move rfl) rfl ?_
                  refine Ls_run (run_eql rfl rfl) rfl ?_
                  refine Ls_nil ?_
                  refine Jm_seq ?_
                  refine St_ifP rfl (fun h36 => ?_) (fun h36 => ?_)
                  · skip
                    refine St_exit ?_
                    refine Jm_then_exit (Jm_block_same (Jm_seq ?_))
                    refine St_region ?_
                    refine Ls_run (run_add rfl rfl (w64 (by omega))) rfl ?_
                    refine Ls_run (run_move rfl) rfl ?_
                    refine Ls_nil ?_
                    refine Jm_round (i + 1) ?_ ?_ ?_
                    · rw [hEn28]; exact (subE_cons rfl (subE_cons rfl (subE_cons rfl (subE_cons rfl (subE_cons rfl (subE_cons rfl (subE_cons rfl (subE_cons rfl subE_nil))))))))
                    · skip
                      rw [hIv29]
                      first | (rw [← nz_zero (by omega) (by assumption)] at hs; exact ⟨sat_mono hs, by omega, fun j hj => by by_cases e : j = i; exact e ▸ .inl (by assumption); exact htab j (by omega)⟩) | exact ⟨hs, by omega, fun j hj => by by_cases e : j = i; exact e ▸ tab_once (by omega) (by omega) (by omega) (count_zero' (by assumption)); exact htab j (by omega)⟩
                    · skip
                      rw [hms30, hms30]
                      omega
                  · skip
                    refine St_skip ?_
                    refine Jm_seq ?_
                    refine St_seq ?_
                    refine St_region ?_
                    refine Ls_run (run_move rfl) rfl ?_
                    refine Ls_run (run_move rfl) rfl ?_
                    have hcl : (nz (tl.take i)).count (tl.getD i 0) ≤ i := by
                      have h1 := List.count_le_length (l := nz (tl.take i)) (a := tl.getD i 0)
                      have h2 := List.length_filter_le (fun x => decide (x ≠ 0)) (tl.take i)
                      rw [List.length_take] at h2
                      unfold nz at h1 ⊢
                      omega
                    refine Ls_run (run_lookup_i (hs.front 0 rfl) Try.underlying148 Try.underlying3 inf3 rfl rfl (by have := tl64 _ (memK (l := tl) (i := i) (by omega)); omega)) rfl ?_
                    refine Ls_run (run_add rfl rfl (show _ = ((nz (tl.take i)).count (tl.getD i 0) : Int) + 1 by rw [w64 (by omega)])) rfl ?_
                    refine Ls_mapset hs Try.underlying148 Try.underlying3 rfl rfl rfl (by have := tl64 _ (memK (l := tl) (i := i) (by omega)); omega) (by omega) (by omega) ?_
                    intro w37 hs
                    have ecnt : ∀ g : Int → Int, g = (fun q => if q = tl.getD i 0 then ((nz (tl.take i)).count (tl.getD i 0) : Int) + 1 else ((nz (tl.take i)).count q : Int)) → g = (fun q => ((nz (tl.take (i + 1))).count q : Int)) := by
                      intro g hg; subst hg; funext q; rw [nz_more (by omega) (by assumption), count_snoc]
                    rw [ecnt _ rfl] at hs
                    refine Ls_nil ?_
                    refine Jm_seq ?_
                    refine St_seq ?_
                    refine St_region ?_
                    refine Ls_run (run_move rfl) rfl ?_
                    refine Ls_run (run_lss rfl rfl) rfl ?_
                    refine Ls_run (run_move rfl) rfl ?_
                    refine Ls_partP (t := 78) rfl (fun h38 => ?_) (fun h38 => ?_)
                    · skip
                      refine Ls_off rfl rfl rfl rfl ?_
                      refine Ls_off rfl rfl rfl rfl ?_
                      refine Ls_off rfl rfl rfl rfl ?_
                      refine Ls_run (run_pick_t rfl rfl) rfl ?_
                      refine Ls_run (run_move rfl) rfl ?_
                      refine Ls_off rfl rfl rfl rfl ?_
                      refine Ls_off rfl rfl rfl rfl ?_
                      refine Ls_off rfl rfl rfl rfl ?_
                      refine Ls_off rfl rfl rfl rfl ?_
                      refine Ls_run (run_pick_t rfl rfl) rfl ?_
                      refine Ls_nil ?_
                      refine Jm_seq ?_
                      refine St_ift rfl ?_
                      refine St_seq ?_
                      refine St_region ?_
                      refine Ls_run (run_buildO (pv := []) rfl (bld120 )) rfl ?_
                      replace hs := hs.front 1 rfl
                      simp only [List.cons_append, List.nil_append, List.eraseIdx_cons_zero, List.eraseIdx_cons_succ] at hs
                      refine Ls_storeAgg hs inf120 rfl rfl rfl rfl (by simp [Value.oneCell', Value.cells, bcells, qcells]) ?_
                      intro w40 hs
                      refine Ls_run (run_assign rfl) rfl ?_
                      refine Ls_nil ?_
                      refine Jm_seq ?_
                      refine St_ret ?_
                      refine Jm_block_ret (Jm_then_ret (Jm_then_ret (Jm_block_ret (Jm_then_ret  ?_))))
                      refine Jm_retCT rfl agg120 inf120 rfl rfl rfl (hs.blk_cells 0 rfl 0 2) ?_
                      have hbadt : ¬ tabOk tl nb := fun q => by rcases q i (by omega) with q | q <;> omega
                      have hR : rroot l nb = none := rroot_2 (a := (an : Int)) htk htn (by first | exact .inl (by omega) | exact .inr (.inl (by omega)) | exact .inr (.inr (.inl (by omega))) | exact .inr (.inr (.inr (.inl (by omega)))) | exact .inr (.inr (.inr (.inr hbadt))))
                      rw [hR]
                      exact ⟨_, rfl, none, 0, rfl, hs.forget.own_nil 3 1⟩
                    · skip
                      refine Ls_on rfl rfl ?_
                      refine Ls_run (run_move rfl) rfl ?_
                      refine Ls_on rfl rfl ?_
                      refine Ls_run (run_move rfl) rfl ?_
                      refine Ls_on rfl rfl ?_
                      refine Ls_run (run_geq rfl rfl) rfl ?_
                      refine Ls_run (run_pick_f rfl rfl) rfl ?_
                      refine Ls_run (run_move rfl) rfl ?_
                      refine Ls_partP (t := 83) rfl (fun h41 => ?_) (fun h41 => ?_)
                      · skip
                        refine Ls_off rfl rfl rfl rfl ?_
                        refine Ls_off rfl rfl rfl rfl ?_
                        refine Ls_off rfl rfl rfl rfl ?_
                        refine Ls_off rfl rfl rfl rfl ?_
                        refine Ls_run (run_pick_t rfl rfl) rfl ?_
                        refine Ls_nil ?_
                        refine Jm_seq ?_
                        refine St_ift rfl ?_
                        refine St_seq ?_
                        refine St_region ?_
                        refine Ls_run (run_buildO (pv := []) rfl (bld120 )) rfl ?_
                        replace hs := hs.front 1 rfl
                        simp only [List.cons_append, List.nil_append, List.eraseIdx_cons_zero, List.eraseIdx_cons_succ] at hs
                        refine Ls_storeAgg hs inf120 rfl rfl rfl rfl (by simp [Value.oneCell', Value.cells, bcells, qcells]) ?_
                        intro w43 hs
                        refine Ls_run (run_assign rfl) rfl ?_
                        refine Ls_nil ?_
                        refine Jm_seq ?_
                        refine St_ret ?_
                        refine Jm_block_ret (Jm_then_ret (Jm_then_ret (Jm_block_ret (Jm_then_ret  ?_))))
                        refine Jm_retCT rfl agg120 inf120 rfl rfl rfl (hs.blk_cells 0 rfl 0 2) ?_
                        have hbadt : ¬ tabOk tl nb := fun q => by rcases q i (by omega) with q | q <;> omega
                        have hR : rroot l nb = none := rroot_2 (a := (an : Int)) htk htn (by first | exact .inl (by omega) | exact .inr (.inl (by omega)) | exact .inr (.inr (.inl (by omega))) | exact .inr (.inr (.inr (.inl (by omega)))) | exact .inr (.inr (.inr (.inr hbadt))))
                        rw [hR]
                        exact ⟨_, rfl, none, 0, rfl, hs.forget.own_nil 3 1⟩
                      · skip
                        refine Ls_on rfl rfl ?_
                        refine Ls_run (run_move rfl) rfl ?_
                        refine Ls_on rfl rfl ?_
                        refine Ls_run (run_move rfl) rfl ?_
                        refine Ls_on rfl rfl ?_
                        refine Ls_run (run_as (run_lookup_i (hs.front 0 rfl) Try.underlying148 Try.underlying3 inf3 rfl rfl (by have := tl64 _ (memK (l := tl) (i := i) (by omega)); omega)) (show _ = Value.int .i64 (((nz (tl.take i)).count (tl.getD i 0) : Int) + 1) by rw [nz_more (by omega) (by assumption), count_snoc, if_pos rfl])) rfl ?_
                        refine Ls_on rfl rfl ?_
                        refine Ls_run (run_gtr rfl rfl) rfl ?_
                        refine Ls_run (run_pick_f rfl rfl) rfl ?_
                        refine Ls_nil ?_
                        refine Jm_seq ?_
                        refine St_ifP rfl (fun h44 => ?_) (fun h44 => ?_)
                        · skip
                          refine St_seq ?_
                          refine St_region ?_
                          refine Ls_run (run_buildO (pv := []) rfl (bld120 )) rfl ?_
                          replace hs := hs.front 1 rfl
                          simp only [List.cons_append, List.nil_append, List.eraseIdx_cons_zero, List.eraseIdx_cons_succ] at hs
                          refine Ls_storeAgg hs inf120 rfl rfl rfl rfl (by simp [Value.oneCell', Value.cells, bcells, qcells]) ?_
                          intro w45 hs
                          refine Ls_run (run_assign rfl) rfl ?_
                          refine Ls_nil ?_
                          refine Jm_seq ?_
                          refine St_ret ?_
                          refine Jm_block_ret (Jm_then_ret (Jm_then_ret (Jm_block_ret (Jm_then_ret  ?_))))
                          refine Jm_retCT rfl agg120 inf120 rfl rfl rfl (hs.blk_cells 0 rfl 0 2) ?_
                          have hbadt : ¬ tabOk tl nb := tab_twice (i := i) (by omega) (by assumption) (count_pos' (by assumption))
                          have hR : rroot l nb = none := rroot_2 (a := (an : Int)) htk htn (by first | exact .inl (by omega) | exact .inr (.inl (by omega)) | exact .inr (.inr (.inl (by omega))) | exact .inr (.inr (.inr (.inl (by omega)))) | exact .inr (.inr (.inr (.inr hbadt))))
                          rw [hR]
                          exact ⟨_, rfl, none, 0, rfl, hs.forget.own_nil 3 1⟩
                        · skip
                          refine St_skip ?_
                          refine Jm_block_normal (Jm_seq ?_)
                          refine St_region ?_
                          refine Ls_run (run_add rfl rfl (w64 (by omega))) rfl ?_
                          refine Ls_run (run_move rfl) rfl ?_
                          refine Ls_nil ?_
                          refine Jm_round (i + 1) ?_ ?_ ?_
                          · rw [hEn28]; exact (subE_cons rfl (subE_cons rfl (subE_cons rfl (subE_cons rfl (subE_cons rfl (subE_cons rfl (subE_cons rfl (subE_cons rfl subE_nil))))))))
                          · skip
                            rw [hIv29]
                            first | (rw [← nz_zero (by omega) (by assumption)] at hs; exact ⟨sat_mono hs, by omega, fun j hj => by by_cases e : j = i; exact e ▸ .inl (by assumption); exact htab j (by omega)⟩) | exact ⟨hs, by omega, fun j hj => by by_cases e : j = i; exact e ▸ tab_once (by omega) (by omega) (by omega) (count_zero' (by assumption)); exact htab j (by omega)⟩
                          · skip
                            rw [hms30, hms30]
                            omega
                · skip
                  refine St_exit ?_
                  refine Jm_then_exit (Jm_then_exit (Jm_block_same (Jm_seq ?_)))
                  refine St_seq ?_
                  refine St_region ?_
                  refine Ls_run (run_move rfl) rfl ?_
                  refine Ls_run (run_conv_int Try.underlying3 us38 rfl (w64 (by omega))) rfl ?_
                  refine Ls_run (run_move rfl) rfl ?_
                  refine Ls_run (run_buildO (pv := [(0, _), (1, _)]) rfl (bld120_0_1 _ _ _ _)) rfl ?_
                  replace hs := hs.front 1 rfl
                  simp only [List.cons_append, List.nil_append, List.eraseIdx_cons_zero, List.eraseIdx_cons_succ] at hs
                  refine Ls_storeAgg hs inf120 rfl rfl rfl rfl (by simp [Value.oneCell', Value.cells, bcells, qcells]) ?_
                  intro w46 hs
                  refine Ls_run (run_assign rfl) rfl ?_
                  refine Ls_nil ?_
                  refine Jm_seq ?_
                  refine St_ret ?_
                  refine Jm_retCT rfl agg120 inf120 rfl rfl rfl (hs.blk_cells 0 rfl 0 2) ?_
                  replace hs := hs.erase 0
                  simp only [List.cons_append, List.nil_append, List.eraseIdx_cons_zero, List.eraseIdx_cons_succ] at hs
                  replace hs := hs.erase 0
                  simp only [List.cons_append, List.nil_append, List.eraseIdx_cons_zero, List.eraseIdx_cons_succ] at hs
                  have hR : rroot l nb = some ((xn : Int), tl) := rroot_3 (a := (an : Int)) htk (by omega) (by omega) htn (by omega) (by omega) (by omega) (fun j hj => htab j (by omega))
                  rw [hR]
                  exact ⟨_, rfl, At, ct, rfl, hs⟩
set_option maxRecDepth 100000 in
set_option maxHeartbeats 1000000 in
theorem Right_c (w : World) (A : Option Addr) (n c : Nat) (l : List Int) (nb : Int) (hr : Rd w A n c 1 (bytesV l)) (hb : IsBytes l) (hn : n ≤ 1073741824) (hnb : 0 ≤ nb ∧ nb ≤ 64) :
    Calls Try.prog 105 [.slice A n c, .int .i64 nb].toArray w (Ret (fun v' w' => ∃ A' c', v' = .tuple #[.int .i64 ((rroot l nb).getD (0, [])).1, .slice A' ((rroot l nb).getD (0, [])).2.length c'] ∧ Sat w w' [Own 3 1 (.slice A' ((rroot l nb).getD (0, [])).2.length c') ((rroot l nb).getD (0, [])).2.length (KI.flat ((rroot l nb).getD (0, [])).2)])) := by
  have hs := Sat.start w
  have hl : l.length = n := rdB_len hr
  refine Calls_body Try.func105 rfl rfl rfl (envE_cons (i := 0) (v := .slice A n c) rfl (envE_cons (i := 1) (v := .int .i64 nb) rfl envE_nil)) ?_
  refine St_seq ?_
  refine St_region ?_
  refine Ls_run (run_assign rfl) rfl ?_
  refine Ls_run (run_assign rfl) rfl ?_
  refine Ls_nil ?_
  refine Jm_seq ?_
  refine St_seq ?_
  refine St_region ?_
  refine Ls_run (run_move rfl) rfl ?_
  refine Ls_call Try.func81 nm81 rfl rfl (rTake_c w _ _ _ l (hr.inB hs) hb (by omega)) rfl ?_
  rintro v1 w2 ⟨rfl, rfl⟩
  obtain ⟨⟨xa, aa, ea⟩, htk⟩ : ∃ q, tk 0 0 l = q := ⟨_, rfl⟩
  rw [tkV_eq htk]
  refine Ls_run (run_move rfl) rfl ?_
  refine Ls_run (run_extract rfl rfl) rfl ?_
  refine Ls_run (run_extract rfl rfl) rfl ?_
  refine Ls_run (run_extract rfl rfl) rfl ?_
  refine Ls_run (run_assign rfl) rfl ?_
  refine Ls_run (run_assign rfl) rfl ?_
  refine Ls_run (run_assign rfl) rfl ?_
  refine Ls_nil ?_
  refine Jm_seq ?_
  refine St_seq ?_
  refine St_seq ?_
  refine St_region ?_
  refine Ls_run (run_move rfl) rfl ?_
  refine Ls_run (run_neq rfl rfl) rfl ?_
  refine Ls_run (run_move rfl) rfl ?_
  refine Ls_partP (t := 21) rfl (fun h3 => ?_) (fun h3 => ?_)
  · skip
    refine Ls_off rfl rfl rfl rfl ?_
    refine Ls_off rfl rfl rfl rfl ?_
    refine Ls_run (run_pick_t rfl rfl) rfl ?_
    refine Ls_run (run_move rfl) rfl ?_
    refine Ls_off rfl rfl rfl rfl ?_
    refine Ls_off rfl rfl rfl rfl ?_
    refine Ls_run (run_pick_t rfl rfl) rfl ?_
    refine Ls_nil ?_
    refine Jm_seq ?_
    refine St_ift rfl ?_
    refine St_seq ?_
    refine St_region ?_
    refine Ls_run (run_assign rfl) rfl ?_
    refine Ls_run (run_assign rfl) rfl ?_
    refine Ls_nil ?_
    refine Jm_seq ?_
    refine St_ret ?_
    refine Jm_then_ret  ?_
    refine Jm_ret2 rfl rfl rfl ?_
    have hR : rroot l nb = none := rroot_1 htk (by omega)
    rw [hR]
    exact ⟨_, rfl, none, 0, rfl, hs.forget.own_nil 3 1⟩
  · skip
    have e0 : ea = 0 := by omega
    subst e0
    have hrg := tk_range hb htk
    obtain ⟨xn, rfl⟩ : ∃ k : Nat, xa = (k : Int) := ⟨xa.toNat, by omega⟩
    obtain ⟨an, rfl⟩ : ∃ k : Nat, aa = (k : Int) := ⟨aa.toNat, by omega⟩
    have hdl : (l.drop an).length = l.length - an := by rw [List.length_drop]
    refine Ls_on rfl rfl ?_
    refine Ls_run (run_move rfl) rfl ?_
    refine Ls_on rfl rfl ?_
    refine Ls_run (run_lss rfl rfl) rfl ?_
    refine Ls_run (run_pick_f rfl rfl) rfl ?_
    refine Ls_run (run_move rfl) rfl ?_
    refine Ls_partP (t := 25) rfl (fun h5 => ?_) (fun h5 => ?_)
    · skip
      refine Ls_off rfl rfl rfl rfl ?_
      refine Ls_off rfl rfl rfl rfl ?_
      refine Ls_run (run_pick_t rfl rfl) rfl ?_
      refine Ls_nil ?_
      refine Jm_seq ?_
      refine St_ift rfl ?_
      refine St_seq ?_
      refine St_region ?_
      refine Ls_run (run_assign rfl) rfl ?_
      refine Ls_run (run_assign rfl) rfl ?_
      refine Ls_nil ?_
      refine Jm_seq ?_
      refine St_ret ?_
      refine Jm_then_ret  ?_
      refine Jm_ret2 rfl rfl rfl ?_
      have hR : rroot l nb = none := rroot_1 htk (by omega)
      rw [hR]
      exact ⟨_, rfl, none, 0, rfl, hs.forget.own_nil 3 1⟩
    · skip
      refine Ls_on rfl rfl ?_
      refine Ls_run (run_move rfl) rfl ?_
      refine Ls_on rfl rfl ?_
      refine Ls_run (run_gtr rfl rfl) rfl ?_
      refine Ls_run (run_pick_f rfl rfl) rfl ?_
      refine Ls_nil ?_
      refine Jm_seq ?_
      refine St_ifP rfl (fun h7 => ?_) (fun h7 => ?_)
      · skip
        refine St_seq ?_
        refine St_region ?_
        refine Ls_run (run_assign rfl) rfl ?_
        refine Ls_run (run_assign rfl) rfl ?_
        refine Ls_nil ?_
        refine Jm_seq ?_
        refine St_ret ?_
        refine Jm_then_ret  ?_
        refine Jm_ret2 rfl rfl rfl ?_
        have hR : rroot l nb = none := rroot_1 htk (by omega)
        rw [hR]
        exact ⟨_, rfl, none, 0, rfl, hs.forget.own_nil 3 1⟩
      · skip
        refine St_skip ?_
        refine Jm_seq ?_
        refine St_seq ?_
        refine St_region ?_
        refine Ls_run (run_move rfl) rfl ?_
        refine Ls_run (run_move rfl) rfl ?_
        refine Ls_run (run_as (run_slice_l Try.underlying28 inf5 rfl rfl (by omega) (by omega)) (show _ = Value.slice (if c = an then A else A.map (·.add (an * 1))) (l.drop an).length (c - an) from by rw [hdl, hl]; rfl)) rfl ?_
        have hrd := rdB_drop hr an (by omega)
        rw [← hl, ← hdl] at hrd
        refine Ls_call Try.func114 nm114 rfl rfl (rTakeNums_c w _ _ _ (l.drop an) 8 (hrd.inB hs) (hb.drop' an) (by omega) (by decide)) rfl ?_
        rintro v8 w9 ⟨At, ct, rfl, hsT⟩
        obtain ⟨⟨tl, ua, ue⟩, htn⟩ : ∃ q, tnum (l.drop an) 8 = q := ⟨_, rfl⟩
        simp only [htn] at hsT ⊢
        replace hs := hs.trans hsT
        simp only [List.nil_append, List.cons_append] at hs
        refine Ls_run (run_move rfl) rfl ?_
        refine Ls_run (run_extract rfl rfl) rfl ?_
        refine Ls_run (run_extract rfl rfl) rfl ?_
        refine Ls_run (run_extract rfl rfl) rfl ?_
        refine Ls_run (run_assign rfl) rfl ?_
        refine Ls_run (run_assign rfl) rfl ?_
        refine Ls_run (run_assign rfl) rfl ?_
        refine Ls_nil ?_
        refine Jm_seq ?_
        refine St_seq ?_
        refine St_seq ?_
        refine St_region ?_
        refine Ls_run (run_move rfl) rfl ?_
        refine Ls_run (run_neq rfl rfl) rfl ?_
        refine Ls_run (run_move rfl) rfl ?_
        refine Ls_partP (t := 39) rfl (fun h10 => ?_) (fun h10 => ?_)
        · skip
          refine Ls_off rfl rfl rfl rfl ?_
          refine Ls_off rfl rfl rfl rfl ?_
          refine Ls_off rfl rfl rfl rfl ?_
          refine Ls_off rfl rfl rfl rfl ?_
          refine Ls_off rfl rfl rfl rfl ?_
          refine Ls_off rfl rfl rfl rfl ?_
          refine Ls_run (run_pick_t rfl rfl) rfl ?_
          refine Ls_run (run_move rfl) rfl ?_
          refine Ls_off rfl rfl rfl rfl ?_
          refine Ls_off rfl rfl rfl rfl ?_
          refine Ls_off rfl rfl rfl rfl ?_
          refine Ls_run (run_pick_t rfl rfl) rfl ?_
          refine Ls_run (run_move rfl) rfl ?_
          refine Ls_off rfl rfl rfl rfl ?_
          refine Ls_off rfl rfl rfl rfl ?_
          refine Ls_off rfl rfl rfl rfl ?_
          refine Ls_off rfl rfl rfl rfl ?_
          refine Ls_off rfl rfl rfl rfl ?_
          refine Ls_off rfl rfl rfl rfl ?_
          refine Ls_run (run_pick_t rfl rfl) rfl ?_
          refine Ls_nil ?_
          refine Jm_seq ?_
          refine St_ift rfl ?_
          refine St_seq ?_
          refine St_region ?_
          refine Ls_run (run_assign rfl) rfl ?_
          refine Ls_run (run_assign rfl) rfl ?_
          refine Ls_nil ?_
          refine Jm_seq ?_
          refine St_ret ?_
          refine Jm_then_ret  ?_
          refine Jm_ret2 rfl rfl rfl ?_
          have hR : rroot l nb = none := rroot_2 (a := (an : Int)) htk htn (by first | exact .inl (by omega) | exact .inr (.inl (by omega)) | exact .inr (.inr (.inl (by omega))) | exact .inr (.inr (.inr (.inl (by omega)))) | exact .inr (.inr (.inr (.inr hbadt))))
          rw [hR]
          exact ⟨_, rfl, none, 0, rfl, hs.forget.own_nil 3 1⟩
        · skip
          have hu0 : ue = 0 := by omega
          subst hu0
          have hta := tnum_at8 (hb.drop' an) htn
          refine Ls_on rfl rfl ?_
          refine Ls_run (run_move rfl) rfl ?_
          refine Ls_on rfl rfl ?_
          refine Ls_run (run_move rfl) rfl ?_
          refine Ls_on rfl rfl ?_
          refine Ls_run (run_add rfl rfl (w64 (by omega))) rfl ?_
          refine Ls_on rfl rfl ?_
          refine Ls_run (run_move rfl) rfl ?_
          refine Ls_on rfl rfl ?_
          refine Ls_run (run_len Try.underlying28 rfl) rfl ?_
          refine Ls_on rfl rfl ?_
          refine Ls_run (run_neq rfl rfl) rfl ?_
          refine Ls_run (run_pick_f rfl rfl) rfl ?_
          refine Ls_run (run_move rfl) rfl ?_
          refine Ls_partP (t := 47) rfl (fun h12 => ?_) (fun h12 => ?_)
          · skip
            refine Ls_off rfl rfl rfl rfl ?_
            refine Ls_off rfl rfl rfl rfl ?_
            refine Ls_off rfl rfl rfl rfl ?_
            refine Ls_run (run_pick_t rfl rfl) rfl ?_
            refine Ls_run (run_move rfl) rfl ?_
            refine Ls_off rfl rfl rfl rfl ?_
            refine Ls_off rfl rfl rfl rfl ?_
            refine Ls_off rfl rfl rfl rfl ?_
            refine Ls_off rfl rfl rfl rfl ?_
            refine Ls_off rfl rfl rfl rfl ?_
            refine Ls_off rfl rfl rfl rfl ?_
            refine Ls_run (run_pick_t rfl rfl) rfl ?_
            refine Ls_nil ?_
            refine Jm_seq ?_
            refine St_ift rfl ?_
            refine St_seq ?_
            refine St_region ?_
            refine Ls_run (run_assign rfl) rfl ?_
            refine Ls_run (run_assign rfl) rfl ?_
            refine Ls_nil ?_
            refine Jm_seq ?_
            refine St_ret ?_
            refine Jm_then_ret  ?_
            refine Jm_ret2 rfl rfl rfl ?_
            have hR : rroot l nb = none := rroot_2 (a := (an : Int)) htk htn (by first | exact .inl (by omega) | exact .inr (.inl (by omega)) | exact .inr (.inr (.inl (by omega))) | exact .inr (.inr (.inr (.inl (by omega)))) | exact .inr (.inr (.inr (.inr hbadt))))
            rw [hR]
            exact ⟨_, rfl, none, 0, rfl, hs.forget.own_nil 3 1⟩
          · skip
            refine Ls_on rfl rfl ?_
            refine Ls_run (run_move rfl) rfl ?_
            refine Ls_on rfl rfl ?_
            refine Ls_run (run_len Try.underlying22 rfl) rfl ?_
            refine Ls_on rfl rfl ?_
            refine Ls_run (run_lss rfl rfl) rfl ?_
            refine Ls_run (run_pick_f rfl rfl) rfl ?_
            refine Ls_run (run_move rfl) rfl ?_
            refine Ls_partP (t := 52) rfl (fun h14 => ?_) (fun h14 => ?_)
            · skip
              refine Ls_off rfl rfl rfl rfl ?_
              refine Ls_off rfl rfl rfl rfl ?_
              refine Ls_off rfl rfl rfl rfl ?_
              refine Ls_off rfl rfl rfl rfl ?_
              refine Ls_off rfl rfl rfl rfl ?_
              refine Ls_off rfl rfl rfl rfl ?_
              refine Ls_run (run_pick_t rfl rfl) rfl ?_
              refine Ls_nil ?_
              refine Jm_seq ?_
              refine St_ift rfl ?_
              refine St_seq ?_
              refine St_region ?_
              refine Ls_run (run_assign rfl) rfl ?_
              refine Ls_run (run_assign rfl) rfl ?_
              refine Ls_nil ?_
              refine Jm_seq ?_
              refine St_ret ?_
              refine Jm_then_ret  ?_
              refine Jm_ret2 rfl rfl rfl ?_
              have hR : rroot l nb = none := rroot_2 (a := (an : Int)) htk htn (by first | exact .inl (by omega) | exact .inr (.inl (by omega)) | exact .inr (.inr (.inl (by omega))) | exact .inr (.inr (.inr (.inl (by omega)))) | exact .inr (.inr (.inr (.inr hbadt))))
              rw [hR]
              exact ⟨_, rfl, none, 0, rfl, hs.forget.own_nil 3 1⟩
            · skip
              refine Ls_on rfl rfl ?_
              refine Ls_run (run_move rfl) rfl ?_
              refine Ls_on rfl rfl ?_
              refine Ls_run (run_move rfl) rfl ?_
              refine Ls_on rfl rfl ?_
              refine Ls_run (run_len Try.underlying22 rfl) rfl ?_
              refine Ls_on rfl rfl ?_
              refine Ls_run (run_mul rfl rfl (w64 (by omega))) rfl ?_
              refine Ls_on rfl rfl ?_
              refine Ls_run (run_add rfl rfl (w64 (by omega))) rfl ?_
              refine Ls_on rfl rfl ?_
              refine Ls_run (run_lss rfl rfl) rfl ?_
              refine Ls_run (run_pick_f rfl rfl) rfl ?_
              refine Ls_nil ?_
              refine Jm_seq ?_
              refine St_ifP rfl (fun h16 => ?_) (fun h16 => ?_)
              · skip
                refine St_seq ?_
                refine St_region ?_
                refine Ls_run (run_assign rfl) rfl ?_
                refine Ls_run (run_assign rfl) rfl ?_
                refine Ls_nil ?_
                refine Jm_seq ?_
                refine St_ret ?_
                refine Jm_then_ret  ?_
                refine Jm_ret2 rfl rfl rfl ?_
                have hR : rroot l nb = none := rroot_2 (a := (an : Int)) htk htn (by first | exact .inl (by omega) | exact .inr (.inl (by omega)) | exact .inr (.inr (.inl (by omega))) | exact .inr (.inr (.inr (.inl (by omega)))) | exact .inr (.inr (.inr (.inr hbadt))))
                rw [hR]
                exact ⟨_, rfl, none, 0, rfl, hs.forget.own_nil 3 1⟩
              · skip
                refine St_skip ?_
                refine Jm_seq ?_
                refine St_seq ?_
                refine St_seq ?_
                refine St_region ?_
                refine Ls_run (run_assign rfl) rfl ?_
                refine Ls_nil ?_
                refine Jm_seq ?_
                refine St_block ?_
                obtain ⟨En17, hEn17⟩ : ∃ F : Nat → Env, ∀ (i : Nat), F i = [(1, .int .i64 nb), (6, .int .u64 (xn : Int)), (9, .slice At tl.length ct), (11, .int .i64 (i : Int))] := ⟨(fun (i : Nat) => [(1, .int .i64 nb), (6, .int .u64 (xn : Int)), (9, .slice At tl.length ct), (11, .int .i64 (i : Int))]), fun _ => rfl⟩
                obtain ⟨Iv18, hIv18⟩ : ∃ F : Nat → World → Prop, ∀ (i : Nat) (wr : World), F i wr = (Sat w wr [Own 3 1 (.slice At tl.length ct) tl.length (KI.flat tl)] ∧ i ≤ tl.length ∧ ∀ j, j < i → tabAt tl nb j) := ⟨(fun (i : Nat) => fun (wr : World) => Sat w wr [Own 3 1 (.slice At tl.length ct) tl.length (KI.flat tl)] ∧ i ≤ tl.length ∧ ∀ j, j < i → tabAt tl nb j), fun _ _ => rfl⟩
                obtain ⟨ms19, hms19⟩ : ∃ F : Nat → Nat, ∀ (i : Nat), F i = (tl.length - i) := ⟨(fun (i : Nat) => tl.length - i), fun _ => rfl⟩
                refine St_loop En17 Iv18 ms19 (0) ?_ ?_ ?_
                · skip
                  rw [hIv18]
                  exact ⟨hs, by omega, fun j hj => by omega⟩
                · rw [hEn17]; exact (subE_cons rfl (subE_cons rfl (subE_cons rfl (subE_cons rfl subE_nil))))
                rintro i wr hI20
                rw [hIv18] at hI20
                obtain ⟨hs, hi, htab⟩ := hI20
                refine St_eqE (hEn17 _) ?_
                refine St_seq ?_
                refine St_seq ?_
                refine St_region ?_
                refine Ls_run (run_move rfl) rfl ?_
                refine Ls_run (run_move rfl) rfl ?_
                refine Ls_run (run_len Try.underlying22 rfl) rfl ?_
                refine Ls_run (run_lss rfl rfl) rfl ?_
                refine Ls_nil ?_
                refine Jm_seq ?_
                refine St_ifP rfl (fun h21 => ?_) (fun h21 => ?_)
                · skip
                  refine St_skip ?_
                  refine Jm_seq ?_
                  refine St_seq ?_
                  refine St_block ?_
                  refine St_seq ?_
                  refine St_seq ?_
                  refine St_region ?_
                  refine Ls_run (run_move rfl) rfl ?_
                  refine Ls_run (run_move rfl) rfl ?_
                  refine Ls_index (KI) (hs.rd_at 0 rfl) Try.underlying22 inf3 rfl rfl (by omega) (by omega) (show _ = tl.getD i 0 from rfl) rfl ?_
                  intro b22 o23 hc24
                  refine Ls_run (run_load sc3 rfl (hc24 0 _ rfl)) rfl ?_
                  refine Ls_run (run_eql rfl rfl) rfl ?_
                  refine Ls_nil ?_
                  refine Jm_seq ?_
                  refine St_ifP rfl (fun h25 => ?_) (fun h25 => ?_)
                  · skip
                    refine St_exit ?_
                    refine Jm_then_exit (Jm_block_same (Jm_seq ?_))
                    refine St_region ?_
                    refine Ls_run (run_move rfl) rfl ?_
                    refine Ls_run (run_add rfl rfl (w64 (by omega))) rfl ?_
                    refine Ls_run (run_assign rfl) rfl ?_
                    refine Ls_nil ?_
                    refine Jm_round (i + 1) ?_ ?_ ?_
                    · rw [hEn17]; exact (subE_cons rfl (subE_cons rfl (subE_cons rfl (subE_cons rfl subE_nil))))
                    · skip
                      rw [hIv18]
                      first | exact ⟨hs, by omega, fun j hj => by by_cases e : j = i; exact e ▸ .inl (by assumption); exact htab j (by omega)⟩ | exact ⟨hs, by omega, fun j hj => by by_cases e : j = i; exact e ▸ .inr ⟨⟨by omega, by omega⟩, fun q hq => hne q (by omega)⟩; exact htab j (by omega)⟩
                    · skip
                      rw [hms19, hms19]
                      omega
                  · skip
                    refine St_skip ?_
                    refine Jm_seq ?_
                    refine St_seq ?_
                    refine St_seq ?_
                    refine St_region ?_
                    refine Ls_run (run_move rfl) rfl ?_
                    refine Ls_run (run_move rfl) rfl ?_
                    refine Ls_index (KI) (hs.rd_at 0 rfl) Try.underlying22 inf3 rfl rfl (by omega) (by omega) (show _ = tl.getD i 0 from rfl) rfl ?_
                    intro b26 o27 hc28
                    refine Ls_run (run_load sc3 rfl (hc28 0 _ rfl)) rfl ?_
                    refine Ls_run (run_lss rfl rfl) rfl ?_
                    refine Ls_run (run_move rfl) rfl ?_
                    refine Ls_partP (t := 76) rfl (fun h29 => ?_) (fun h29 => ?_)
                    · skip
                      refine Ls_off rfl rfl rfl rfl ?_
                      refine Ls_off rfl rfl rfl rfl ?_
                      refine Ls_off rfl rfl rfl rfl ?_
                      refine Ls_off rfl rfl rfl rfl ?_
                      refine Ls_off rfl rfl rfl rfl ?_
                      refine Ls_off rfl rfl rfl rfl ?_
                      refine Ls_run (run_pick_t rfl rfl) rfl ?_
                      refine Ls_nil ?_
                      refine Jm_seq ?_
                      refine St_ift rfl ?_
                      refine St_seq ?_
                      refine St_region ?_
                      refine Ls_run (run_assign rfl) rfl ?_
                      refine Ls_run (run_assign rfl) rfl ?_
                      refine Ls_nil ?_
                      refine Jm_seq ?_
                      refine St_ret ?_
                      refine Jm_then_ret (Jm_block_ret (Jm_then_ret (Jm_then_ret (Jm_block_ret (Jm_then_ret  ?_)))))
                      refine Jm_ret2 rfl rfl rfl ?_
                      have hbadt : ¬ tabOk tl nb := fun q => by rcases q i (by omega) with q | q <;> omega
                      have hR : rroot l nb = none := rroot_2 (a := (an : Int)) htk htn (by first | exact .inl (by omega) | exact .inr (.inl (by omega)) | exact .inr (.inr (.inl (by omega))) | exact .inr (.inr (.inr (.inl (by omega)))) | exact .inr (.inr (.inr (.inr hbadt))))
                      rw [hR]
                      exact ⟨_, rfl, none, 0, rfl, hs.forget.own_nil 3 1⟩
                    · skip
                      refine Ls_on rfl rfl ?_
                      refine Ls_run (run_move rfl) rfl ?_
                      refine Ls_on rfl rfl ?_
                      refine Ls_run (run_move rfl) rfl ?_
                      refine Ls_on rfl rfl ?_
                      refine Ls_index (KI) (hs.rd_at 0 rfl) Try.underlying22 inf3 rfl rfl (by omega) (by omega) (show _ = tl.getD i 0 from rfl) rfl ?_
                      intro b31 o32 hc33
                      refine Ls_on rfl rfl ?_
                      refine Ls_run (run_load sc3 rfl (hc33 0 _ rfl)) rfl ?_
                      refine Ls_on rfl rfl ?_
                      refine Ls_run (run_move rfl) rfl ?_
                      refine Ls_on rfl rfl ?_
                      refine Ls_run (run_geq rfl rfl) rfl ?_
                      refine Ls_run (run_pick_f rfl rfl) rfl ?_
                      refine Ls_nil ?_
                      refine Jm_seq ?_
                      refine St_ifP rfl (fun h34 => ?_) (fun h34 => ?_)
                      · skip
                        refine St_seq ?_
                        refine St_region ?_
                        refine Ls_run (run_assign rfl) rfl ?_
                        refine Ls_run (run_assign rfl) rfl ?_
                        refine Ls_nil ?_
                        refine Jm_seq ?_
                        refine St_ret ?_
                        refine Jm_then_ret (Jm_block_ret (Jm_then_ret (Jm_then_ret (Jm_block_ret (Jm_then_ret  ?_)))))
                        refine Jm_ret2 rfl rfl rfl ?_
                        have hbadt : ¬ tabOk tl nb := fun q => by rcases q i (by omega) with q | q <;> omega
                        have hR : rroot l nb = none := rroot_2 (a := (an : Int)) htk htn (by first | exact .inl (by omega) | exact .inr (.inl (by omega)) | exact .inr (.inr (.inl (by omega))) | exact .inr (.inr (.inr (.inl (by omega)))) | exact .inr (.inr (.inr (.inr hbadt))))
                        rw [hR]
                        exact ⟨_, rfl, none, 0, rfl, hs.forget.own_nil 3 1⟩
                      · skip
                        refine St_skip ?_
                        refine Jm_seq ?_
                        refine St_seq ?_
                        refine St_region ?_
                        refine Ls_run (run_assign rfl) rfl ?_
                        refine Ls_nil ?_
                        refine Jm_seq ?_
                        refine St_block ?_
                        obtain ⟨En35, hEn35⟩ : ∃ F : Nat → Env, ∀ (k : Nat), F k = [(1, .int .i64 nb), (6, .int .u64 (xn : Int)), (9, .slice At tl.length ct), (11, .int .i64 (i : Int)), (12, .int .i64 (k : Int))] := ⟨(fun (k : Nat) => [(1, .int .i64 nb), (6, .int .u64 (xn : Int)), (9, .slice At tl.length ct), (11, .int .i64 (i : Int)), (12, .int .i64 (k : Int))]), fun _ => rfl⟩
                        obtain ⟨Iv36, hIv36⟩ : ∃ F : Nat → World → Prop, ∀ (k : Nat) (wk : World), F k wk = (Sat w wk [Own 3 1 (.slice At tl.length ct) tl.length (KI.flat tl)] ∧ k ≤ i ∧ ∀ j, j < k → tl.getD j 0 ≠ tl.getD i 0) := ⟨(fun (k : Nat) => fun (wk : World) => Sat w wk [Own 3 1 (.slice At tl.length ct) tl.length (KI.flat tl)] ∧ k ≤ i ∧ ∀ j, j < k → tl.getD j 0 ≠ tl.getD i 0), fun _ _ => rfl⟩
                        obtain ⟨ms37, hms37⟩ : ∃ F : Nat → Nat, ∀ (k : Nat), F k = (i - k) := ⟨(fun (k : Nat) => i - k), fun _ => rfl⟩
                        refine St_loop En35 Iv36 ms37 (0) ?_ ?_ ?_
                        · skip
                          rw [hIv36]
                          exact ⟨hs, by omega, fun j hj => by omega⟩
                        · rw [hEn35]; exact (subE_cons rfl (subE_cons rfl (subE_cons rfl (subE_cons rfl (subE_cons rfl subE_nil)))))
                        rintro k wk hI38
                        rw [hIv36] at hI38
                        obtain ⟨hs, hk, hne⟩ := hI38
                        refine St_eqE (hEn35 _) ?_
                        refine St_seq ?_
                        refine St_seq ?_
                        refine St_region ?_
                        refine Ls_run (run_move rfl) rfl ?_
                        refine Ls_run (run_move rfl) rfl ?_
                        refine Ls_run (run_lss rfl rfl) rfl ?_
                        refine Ls_nil ?_
                        refine Jm_seq ?_
                        refine St_ifP rfl (fun h39 => ?_) (fun h39 => ?_)
                        · skip
                          refine St_skip ?_
                          refine Jm_seq ?_
                          refine St_seq ?_
                          refine St_block ?_
                          refine St_seq ?_
                          refine St_draw (fun x => Below wk.heap.size wk x) mixed ?_
                          intro w40 q41
                          have hH := q41.below
                          replace hs := hs.quiet q41
                          refine An_grow hH ?_
                          replace hH := Below.refl w40.heap.size w40
                          refine An_take 0 rfl (by kernel_rfl) (by kernel_rfl) (by kernel_rfl) (fun _ _ _ h => h) hH (fun x hx => run_move rfl) rfl ?_
                          refine An_take 1 rfl (by kernel_rfl) (by kernel_rfl) (by kernel_rfl) (fun _ _ _ h => h) hH (fun x hx => run_move rfl) rfl ?_
                          refine An_index 2  (KI) rfl (by kernel_rfl) (by kernel_rfl) (by kernel_rfl) (fun _ _ _ _ h => h) hH (fun x hx => ((hs.rd_at 0 rfl).grow hx)) Try.underlying22 inf3 rfl rfl (by omega) (by omega) (show _ = tl.getD k 0 from rfl) rfl ?_
                          intro b42 o43 hc44
                          refine An_take 3 rfl (by kernel_rfl) (by kernel_rfl) (by kernel_rfl) (fun _ _ _ h => h) hH (fun x hx => run_load sc3 rfl ((hc44 x hx) 0 _ rfl)) rfl ?_
                          refine An_take 4 rfl (by kernel_rfl) (by kernel_rfl) (by kernel_rfl) (fun _ _ _ h => h) hH (fun x hx => run_move rfl) rfl ?_
                          refine An_take 5 rfl (by kernel_rfl) (by kernel_rfl) (by kernel_rfl) (fun _ _ _ h => h) hH (fun x hx => run_move rfl) rfl ?_
                          refine An_index 6  (KI) rfl (by kernel_rfl) (by kernel_rfl) (by kernel_rfl) (fun _ _ _ _ h => h) hH (fun x hx => ((hs.rd_at 0 rfl).grow hx)) Try.underlying22 inf3 rfl rfl (by omega) (by omega) (show _ = tl.getD i 0 from rfl) rfl ?_
                          intro b45 o46 hc47
                          refine An_take 7 rfl (by kernel_rfl) (by kernel_rfl) (by kernel_rfl) (fun _ _ _ h => h) hH (fun x hx => run_load sc3 rfl ((hc47 x hx) 0 _ rfl)) rfl ?_
                          refine An_take 8 rfl (by kernel_rfl) (by kernel_rfl) (by kernel_rfl) (fun _ _ _ h => h) hH (fun x hx => run_eql rfl rfl) rfl ?_
                          refine An_done (by kernel_rfl) ?_
                          refine Jm_seq ?_
                          refine St_ifP rfl (fun h48 => ?_) (fun h48 => ?_)
                          · skip
                            refine St_seq ?_
                            refine St_region ?_
                            refine Ls_run (run_assign rfl) rfl ?_
                            refine Ls_run (run_assign rfl) rfl ?_
                            refine Ls_nil ?_
                            refine Jm_seq ?_
                            refine St_ret ?_
                            refine Jm_block_ret (Jm_then_ret (Jm_then_ret (Jm_block_ret (Jm_block_ret (Jm_then_ret (Jm_then_ret (Jm_block_ret (Jm_then_ret  ?_))))))))
                            refine Jm_ret2 rfl rfl rfl ?_
                            have hbadt : ¬ tabOk tl nb := fun q => by
                              rcases q i (by omega) with q | q
                              · omega
                              · exact q.2 k (by omega) (by assumption)
                            have hR : rroot l nb = none := rroot_2 (a := (an : Int)) htk htn (by first | exact .inl (by omega) | exact .inr (.inl (by omega)) | exact .inr (.inr (.inl (by omega))) | exact .inr (.inr (.inr (.inl (by omega)))) | exact .inr (.inr (.inr (.inr hbadt))))
                            rw [hR]
                            exact ⟨_, rfl, none, 0, rfl, hs.forget.own_nil 3 1⟩
                          · skip
                            refine St_skip ?_
                            refine Jm_block_normal (Jm_seq ?_)
                            refine St_region ?_
                            refine Ls_run (run_move rfl) rfl ?_
                            refine Ls_run (run_add rfl rfl (w64 (by omega))) rfl ?_
                            refine Ls_run (run_assign rfl) rfl ?_
                            refine Ls_nil ?_
                            refine Jm_round (k + 1) ?_ ?_ ?_
                            · rw [hEn35]; exact (subE_cons rfl (subE_cons rfl (subE_cons rfl (subE_cons rfl (subE_cons rfl subE_nil)))))
                            · skip
                              rw [hIv36]
                              refine ⟨hs, by omega, fun j hj => ?_⟩
                              by_cases e : j = k
                              · subst e; assumption
                              · exact hne j (by omega)
                            · skip
                              rw [hms37, hms37]
                              omega
                        · skip
                          refine St_exit ?_
                          refine Jm_then_exit (Jm_then_exit (Jm_block_same (Jm_block_normal (Jm_seq ?_))))
                          refine St_region ?_
                          refine Ls_run (run_move rfl) rfl ?_
                          refine Ls_run (run_add rfl rfl (w64 (by omega))) rfl ?_
                          refine Ls_run (run_assign rfl) rfl ?_
                          refine Ls_nil ?_
                          refine Jm_round (i + 1) ?_ ?_ ?_
                          · rw [hEn17]; exact (subE_cons rfl (subE_cons rfl (subE_cons rfl (subE_cons rfl subE_nil))))
                          · skip
                            rw [hIv18]
                            first | exact ⟨hs, by omega, fun j hj => by by_cases e : j = i; exact e ▸ .inl (by assumption); exact htab j (by omega)⟩ | exact ⟨hs, by omega, fun j hj => by by_cases e : j = i; exact e ▸ .inr ⟨⟨by omega, by omega⟩, fun q hq => hne q (by omega)⟩; exact htab j (by omega)⟩
                          · skip
                            rw [hms19, hms19]
                            omega
                · skip
                  refine St_exit ?_
                  refine Jm_then_exit (Jm_then_exit (Jm_block_same (Jm_seq ?_)))
                  refine St_seq ?_
                  refine St_region ?_
                  refine Ls_run (run_move rfl) rfl ?_
                  refine Ls_run (run_conv_int Try.underlying3 us38 rfl (w64 (by omega))) rfl ?_
                  refine Ls_run (run_move rfl) rfl ?_
                  refine Ls_run (run_assign rfl) rfl ?_
                  refine Ls_run (run_assign rfl) rfl ?_
                  refine Ls_nil ?_
                  refine Jm_seq ?_
                  refine St_ret ?_
                  refine Jm_ret2 rfl rfl rfl ?_
                  have hR : rroot l nb = some ((xn : Int), tl) := rroot_3 (a := (an : Int)) htk (by omega) (by omega) htn (by omega) (by omega) (by omega) (fun j hj => htab j (by omega))
                  rw [hR]
                  exact ⟨_, rfl, At, ct, rfl, hs⟩
end Go.Proofs.Ytipkfdeiallifaa.Lg
