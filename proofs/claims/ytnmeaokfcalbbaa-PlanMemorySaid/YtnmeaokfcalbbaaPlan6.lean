/-
  The law PlanMemory, walked. By program (gen/plan6.py).
-/
import Derived.Test.YtnmeaokfcalbbaaPlan5
import Derived.Test.YtnmeaokfcalbbaaKp
set_option linter.unusedVariables false
set_option linter.unusedSimpArgs false
namespace Go.Proofs.Ytnmeaokfcalbbaa.Lg
open Go Go.RowKit Go.Proofs.Ytnmeaokfcalbbaa.PlanPure
def P71 : Pr := (71, false, 0)
def P72 : Pr := (72, false, 0)
def P98 : Pr := (98, false, 0)
def P99 : Pr := (99, false, 0)
def f99 (r : List Pr) : List Pr := List.replicate r.length P99
def f98 (r : List Pr) : List Pr := List.replicate r.length P99 ++ List.replicate 9 P98
theorem KP_one (l : List Pr) : ∀ u ∈ KP.flat l, u.oneCell' = true := by
  intro u hu
  obtain ⟨x, _, hx⟩ := List.mem_flatMap.1 hu
  simp only [KP, List.mem_cons, List.not_mem_nil, or_false] at hx
  rcases hx with rfl | rfl | rfl <;> rfl
theorem KP_enc1 (x : Pr) : ∀ u ∈ KP.enc x, u.oneCell' = true := by
  intro u hx
  simp only [KP, List.mem_cons, List.not_mem_nil, or_false] at hx
  rcases hx with rfl | rfl | rfl <;> rfl
theorem rdK_take {w : World} {A : Option Addr} {m c : Nat} {l1 l2 : List Pr} (h : Rd w A m c 3 (KP.flat (l1 ++ l2))) (n : Nat) (hn : l1.length = n) (hm : n ≤ m) : Rd w A n c 3 (KP.flat l1) := by
  have := h.take n hm
  rw [El.flat_append, List.take_left' (by rw [El.flat_length, hn]; rfl)] at this
  exact this
theorem f98_len (r : List Pr) : (f98 r).length = r.length + 9 := by simp [f98]
theorem f99_len (r : List Pr) : (f99 r).length = r.length := by simp [f99]
theorem f98_lo (r : List Pr) (k : Nat) (h : k < r.length) : (f98 r).getD k (0, false, 0) = P99 := by
  simp [f98, List.getD_eq_getElem?_getD, List.getElem?_append_left, h]
theorem f98_hi (r : List Pr) (k : Nat) (h : ¬ k < r.length) (h2 : k < r.length + 9) : (f98 r).getD k (0, false, 0) = P98 := by
  have e : k - r.length < 9 := by omega
  rw [f98, List.getD_eq_getElem?_getD, List.getElem?_append_right (by rw [List.length_replicate]; omega), List.length_replicate, List.getElem?_replicate, if_pos e]
  rfl
theorem p71_at {l : List Pr} {n : Nat} (hl : l.length = n) : (l ++ [P71, P72]).getD (n : Int).toNat (0, false, 0) = P71 := by
  simp [List.getD_eq_getElem?_getD, ← hl]
theorem p72_at {l : List Pr} {n : Nat} (hl : l.length = n) : (l ++ [P71, P72]).getD ((n : Int) + 1).toNat (0, false, 0) = P72 := by
  have e : ((n : Int) + 1).toNat = l.length + 1 := by omega
  rw [e]; simp [List.getD_eq_getElem?_getD]
set_option maxRecDepth 100000 in
set_option maxHeartbeats 4000000 in
theorem PlanMemory_c (w : World) (p : PlanA) (ops : List (Int × Int × Nat)) (hr : Rd w p.oA p.on p.oc 3 (KOp.flat ops)) (hn : p.on ≤ 9223372036854775807) (A : Option Addr) (n c : Nat) (l : List Pr) (hrl : Rd w A n c 3 (KP.flat l)) (hb : ∀ x ∈ l, 0 ≤ x.1 ∧ x.1 < 18446744073709551616) (hnl : n * 24 ≤ 140737488351232) :
    Calls Try.prog 9 [.agg #[.int .i64 p.pa, .int .i64 p.st, .int .i64 p.wo, .slice p.oA p.on p.oc, .int .i64 p.ag, .int .i64 p.ba, .int .i64 p.wi, .int .i64 p.gu], .slice A n c].toArray w (Ret (fun v' w' => v' = .bool true ∧ Below w.heap.size w w')) := by
  have hs := Sat.start w
  have hl : l.length = n := by have := hrl.len; rw [El.flat_length] at this; exact Nat.eq_of_mul_eq_mul_right (by decide) this
  have hnl2 := hnl
  refine Calls_body Try.func9 rfl rfl rfl (envE_cons (i := 0) (v := .agg #[.int .i64 p.pa, .int .i64 p.st, .int .i64 p.wo, .slice p.oA p.on p.oc, .int .i64 p.ag, .int .i64 p.ba, .int .i64 p.wi, .int .i64 p.gu]) rfl (envE_cons (i := 1) (v := .slice A n c) rfl envE_nil)) ?_
  refine St_seq ?_
  refine St_region ?_
  refine Ls_box hs rfl rfl ?_
  intro b2 w1 hs
  refine Ls_run (run_assign rfl) rfl ?_
  refine Ls_nil ?_
  refine Jm_seq ?_
  refine St_seq ?_
  refine St_seq ?_
  refine St_region ?_
  refine Ls_call Try.func18 nm18 rfl rfl (pawake_c w1) rfl ?_
  rintro v3 w4 ⟨rfl, hsA5⟩
  replace hs := hs.trans hsA5
  refine Ls_run (run_not rfl) rfl ?_
  refine Ls_nil ?_
  refine Jm_seq ?_
  refine St_iff rfl ?_
  refine St_skip ?_
  refine Jm_seq ?_
  refine St_seq ?_
  refine St_region ?_
  refine Ls_run (run_move rfl) rfl ?_
  refine Ls_run (run_len Try.underlying41 rfl) rfl ?_
  refine Ls_run (run_assign rfl) rfl ?_
  refine Ls_nil ?_
  refine Jm_seq ?_
  refine St_seq ?_
  refine St_region ?_
  refine Ls_run (run_move rfl) rfl ?_
  refine Ls_run (run_as (run_add rfl rfl (w64 (by omega))) (show _ = Value.int .i64 ((n + 2 : Nat) : Int) from rfl)) rfl ?_
  refine Ls_make0 (m := (n + 2)) hs Try.underlying41 inf50 (by decide) rfl rfl (by omega) (by omega) rfl ?_
  intro b7 w8 hs
  refine Ls_run (run_assign rfl) rfl ?_
  refine Ls_nil ?_
  refine Jm_seq ?_
  refine St_seq ?_
  refine St_region ?_
  refine Ls_run (run_move rfl) rfl ?_
  refine Ls_run (run_move rfl) rfl ?_
  refine Ls_append hs Try.underlying41 inf50 rfl (by decide) (by decide) rfl rfl (hrl.inB hs) (KP_one l) (by omega) rfl ?_
  intro A9 c10 w11 hs
  refine Ls_run (run_assign rfl) rfl ?_
  refine Ls_nil ?_
  refine Jm_seq ?_
  refine St_seq ?_
  refine St_region ?_
  refine Ls_run (run_move rfl) rfl ?_
  refine Ls_run (run_buildO (pv := [(0, _)]) rfl (bld50_0 _)) rfl ?_
  refine Ls_run (run_buildO (pv := [(0, _)]) rfl (bld50_0 _)) rfl ?_
  refine Ls_literal [_, _] hs Try.underlying41 inf50 rfl rfl rfl rfl rfl rfl ?_
  intro b12 w13 hs
  simp only [List.flatMap_cons, List.flatMap_nil, Value.cells, List.cons_append, List.nil_append] at hs
  replace hs := hs.front 1 rfl
  simp only [List.cons_append, List.nil_append, List.eraseIdx_cons_zero, List.eraseIdx_cons_succ] at hs
  refine Ls_append hs Try.underlying41 inf50 rfl (by decide) (by decide) rfl rfl (rd_block (hs.is_at 1 rfl).2 3 2 rfl) (by simp [Value.oneCell']) (by omega) rfl ?_
  intro A14 c15 w16 hs
  replace hs := hs.erase 1
  simp only [List.cons_append, List.nil_append, List.eraseIdx_cons_zero, List.eraseIdx_cons_succ] at hs
  refine Ls_run (run_assign rfl) rfl ?_
  refine Ls_nil ?_
  refine Jm_seq ?_
  refine St_seq ?_
  refine St_draw (fun x => Below w16.heap.size w16 x) mixed ?_
  intro w17 q18
  have hH := q18.below
  replace hs := hs.quiet q18
  refine An_grow hH ?_
  replace hH := Below.refl w17.heap.size w17
  simp only [Nat.zero_add, List.nil_append] at hs ⊢
  rw [show KP.flat l ++ [Value.int .u64 71, Value.bool false, Value.int .u64 0, Value.int .u64 72, Value.bool false, Value.int .u64 0] = KP.flat (l ++ [P71, P72]) from by simp [El.flat, KP, P71, P72]] at hs
  obtain ⟨Am, hAm⟩ : ∃ q, q = A14 := ⟨_, rfl⟩
  obtain ⟨cm, hcm⟩ : ∃ q, q = c15 := ⟨_, rfl⟩
  rw [← hAm, ← hcm] at hs ⊢
  have hcap := (hs.rd_at 0 rfl).cap
  refine An_take 0 rfl (by kernel_rfl) (by kernel_rfl) (by kernel_rfl) (fun _ _ _ h => h) hH (fun x hx => run_load_agg agg34 inf34 rfl rfl ((hs.grow hx).blk_cells 1 rfl 0 8)) rfl ?_
  refine An_take 1 rfl (by kernel_rfl) (by kernel_rfl) (by kernel_rfl) (fun _ _ _ h => h) hH (fun x hx => run_move rfl) rfl ?_
  refine An_take 2 rfl (by kernel_rfl) (by kernel_rfl) (by kernel_rfl) (fun _ _ _ h => h) hH (fun x hx => run_move rfl) rfl ?_
  refine An_take 3 rfl (by kernel_rfl) (by kernel_rfl) (by kernel_rfl) (fun _ _ _ h => h) hH (fun x hx => run_slice_h Try.underlying41 inf50 rfl rfl (by omega) (by omega)) rfl ?_
  refine An_only 4 (by kernel_rfl) rfl ?_
  try simp only [List.nil_append, List.cons_append] at hs
  refine Ls_call Try.func30 nm30 rfl rfl (Deal_c w17 p ops (hr.inB hs) hn Am n cm l (rdK_take (hs.rd_at 0 rfl) n hl (by omega)) hb (by omega)) rfl ?_
  rintro v19 w20 ⟨Aa, ca, va, rfl, hla, hsD⟩
  replace hs := (hs.trans hsD).rotL
  obtain ⟨D, hDe⟩ : ∃ D, D = deal p ops l := ⟨_, rfl⟩
  rw [← hDe] at hs hla ⊢
  simp only [List.nil_append, List.cons_append] at hs
  have hDx : ∀ x ∈ D, x.length ≤ n := fun x hx => by rw [hDe] at hx; have := deal_rows x hx; omega
  have hD4 : D.length ≤ 4 := by rw [hDe]; exact deal_len p ops l
  replace hH := (hsD.below : Below w17.heap.size w17 w20)
  refine Ls_nil (Jm_An hH ?_)
  refine An_grow hH ?_
  replace hH := Below.refl w20.heap.size w20
  refine An_take 5 rfl (by kernel_rfl) (by kernel_rfl) (by kernel_rfl) (fun _ _ _ h => h) hH (fun x hx => run_assign rfl) rfl ?_
  refine An_done (by kernel_rfl) ?_
  refine Jm_seq ?_
  refine St_seq ?_
  refine St_draw (fun x => Below w20.heap.size w20 x) mixed ?_
  intro w21 q22
  have hH := q22.below
  replace hs := hs.quiet q22
  refine An_grow hH ?_
  replace hH := Below.refl w21.heap.size w21
  refine An_take 0 rfl (by kernel_rfl) (by kernel_rfl) (by kernel_rfl) (fun _ _ _ h => h) hH (fun x hx => run_load_agg agg34 inf34 rfl rfl ((hs.grow hx).blk_cells 2 rfl 0 8)) rfl ?_
  refine An_take 1 rfl (by kernel_rfl) (by kernel_rfl) (by kernel_rfl) (fun _ _ _ h => h) hH (fun x hx => run_move rfl) rfl ?_
  refine An_take 2 rfl (by kernel_rfl) (by kernel_rfl) (by kernel_rfl) (fun _ _ _ h => h) hH (fun x hx => run_move rfl) rfl ?_
  refine An_take 3 rfl (by kernel_rfl) (by kernel_rfl) (by kernel_rfl) (fun _ _ _ h => h) hH (fun x hx => run_slice_h Try.underlying41 inf50 rfl rfl (by omega) (by omega)) rfl ?_
  refine An_only 4 (by kernel_rfl) rfl ?_
  try simp only [List.nil_append, List.cons_append] at hs
  refine Ls_call Try.func30 nm30 rfl rfl (Deal_c w21 p ops (hr.inB hs) hn Am n cm l (rdK_take (hs.rd_at 1 rfl) n hl (by omega)) hb (by omega)) rfl ?_
  rintro v23 w24 ⟨Ab, cb, vb, rfl, hlb, hsB⟩
  rw [← hDe] at hsB hlb ⊢
  replace hs := Sat.toKeep (F := fun w => Rd w Ab D.length cb 1 (El.val.flat vb) ∧ PartsK KP w vb D) (fun B w q => ⟨q.rd_at 0 rfl, Sat.parts (pre := [_]) q hlb⟩) (hs.trans hsB)
  replace hH := (hsB.below : Below w21.heap.size w21 w24)
  refine Ls_nil (Jm_An hH ?_)
  refine An_grow hH ?_
  replace hH := Below.refl w24.heap.size w24
  refine An_take 5 rfl (by kernel_rfl) (by kernel_rfl) (by kernel_rfl) (fun _ _ _ h => h) hH (fun x hx => run_assign rfl) rfl ?_
  refine An_done (by kernel_rfl) ?_
  refine Jm_seq ?_
  refine St_seq ?_
  refine St_seq ?_
  refine St_region ?_
  refine Ls_run (run_move rfl) rfl ?_
  refine Ls_run (run_move rfl) rfl ?_
  try simp only [List.nil_append, List.cons_append] at hs
  refine Ls_call Try.func29 nm29 rfl rfl (lists_c w24 _ _ _ va D _ _ _ vb D (hs.rd_at 1 rfl) (hs.kept 0 rfl).1 (Sat.parts (pre := [_, _, _, _]) hs hla) (hs.kept 0 rfl).2 (fun x hx => by have := hDx x hx; omega) (by omega)) rfl ?_
  rintro v25 w26 ⟨rfl, hsL⟩
  replace hs := hs.trans hsL
  rw [decide_eq_true (rfl : D = D)]
  refine Ls_run (run_not rfl) rfl ?_
  refine Ls_run (run_move rfl) rfl ?_
  refine Ls_on rfl rfl ?_
  refine Ls_run (run_move rfl) rfl ?_
  refine Ls_on rfl rfl ?_
  refine Ls_run (run_move rfl) rfl ?_
  refine Ls_on rfl rfl ?_
  refine Ls_run (run_slice_h Try.underlying41 inf50 rfl rfl (by omega) (by omega)) rfl ?_
  refine Ls_on rfl rfl ?_
  refine Ls_run (run_move rfl) rfl ?_
  refine Ls_on rfl rfl ?_
  try simp only [List.nil_append, List.cons_append] at hs
  refine Ls_call Try.func32 nm32 rfl rfl (same_c w26 _ _ _ l _ _ _ l (rdK_take (hs.rd_at 2 rfl) n hl (by omega)) (hrl.inB hs) (by omega)) rfl ?_
  rintro v27 w28 ⟨rfl, hsS⟩
  replace hs := hs.trans hsS
  rw [decide_eq_true (rfl : l = l)]
  try simp only [List.nil_append, List.cons_append] at hs
  refine Ls_on rfl rfl ?_
  refine Ls_run (run_not rfl) rfl ?_
  refine Ls_run (run_pick_f rfl rfl) rfl ?_
  refine Ls_run (run_move rfl) rfl ?_
  refine Ls_on rfl rfl ?_
  refine Ls_run (run_move rfl) rfl ?_
  refine Ls_on rfl rfl ?_
  refine Ls_run (run_move rfl) rfl ?_
  refine Ls_on rfl rfl ?_
  refine Ls_index (KP) (hs.rd_at 2 rfl) Try.underlying41 inf50 rfl rfl (by omega) (by omega) (p71_at hl) rfl ?_
  intro b29 o30 hc31
  refine Ls_on rfl rfl ?_
  refine Ls_run (run_as (run_load_agg agg50 inf50 rfl rfl hc31) (show _ = Value.agg #[.int .u64 71, .bool false, .int .u64 0] from rfl)) rfl ?_
  refine Ls_on rfl rfl ?_
  refine Ls_run (run_buildO (pv := [(0, _)]) rfl (bld50_0 _)) rfl ?_
  refine Ls_on rfl rfl ?_
  refine Ls_run (run_asB (c := false) (run_neq_agg rfl rfl (by kernel_rfl) (eqs50 9997 _ _ _ _ _ _)) (by simp)) rfl ?_
  refine Ls_run (run_pick_f rfl rfl) rfl ?_
  refine Ls_run (run_move rfl) rfl ?_
  refine Ls_on rfl rfl ?_
  refine Ls_run (run_move rfl) rfl ?_
  refine Ls_on rfl rfl ?_
  refine Ls_run (run_move rfl) rfl ?_
  refine Ls_on rfl rfl ?_
  refine Ls_run (run_add rfl rfl (show _ = ((n : Int) + 1) by rw [w64 (by omega)])) rfl ?_
  refine Ls_on rfl rfl ?_
  refine Ls_index (KP) (hs.rd_at 2 rfl) Try.underlying41 inf50 rfl rfl (by omega) (by omega) (p72_at hl) rfl ?_
  intro b32 o33 hc34
  refine Ls_on rfl rfl ?_
  refine Ls_run (run_as (run_load_agg agg50 inf50 rfl rfl hc34) (show _ = Value.agg #[.int .u64 72, .bool false, .int .u64 0] from rfl)) rfl ?_
  refine Ls_on rfl rfl ?_
  refine Ls_run (run_buildO (pv := [(0, _)]) rfl (bld50_0 _)) rfl ?_
  refine Ls_on rfl rfl ?_
  refine Ls_run (run_asB (c := false) (run_neq_agg rfl rfl (by kernel_rfl) (eqs50 9997 _ _ _ _ _ _)) (by simp)) rfl ?_
  refine Ls_run (run_pick_f rfl rfl) rfl ?_
  refine Ls_nil ?_
  refine Jm_seq ?_
  refine St_iff rfl ?_
  refine St_skip ?_
  refine Jm_seq ?_
  refine St_seq ?_
  refine St_seq ?_
  refine St_region ?_
  refine Ls_run (run_assign rfl) rfl ?_
  refine Ls_nil ?_
  refine Jm_seq ?_
  refine St_block ?_
  obtain ⟨En36, hEn36⟩ : ∃ F : Nat → Env, ∀ (i : Nat), F i = [(1, .slice A n c), (2, .pointer (some ⟨b2, 0, none⟩)), (5, .int .i64 (n : Int)), (6, .slice Am (n + 2) cm), (7, .slice Aa D.length ca), (8, .slice Ab D.length cb), (9, .int .i64 (i : Int))] := ⟨(fun (i : Nat) => [(1, .slice A n c), (2, .pointer (some ⟨b2, 0, none⟩)), (5, .int .i64 (n : Int)), (6, .slice Am (n + 2) cm), (7, .slice Aa D.length ca), (8, .slice Ab D.length cb), (9, .int .i64 (i : Int))]), fun _ => rfl⟩
  obtain ⟨Iv37, hIv37⟩ : ∃ F : Nat → World → Prop, ∀ (i : Nat) (wr : World), F i wr = (Sat w wr (Keep (fun w => Rd w Ab D.length cb 1 (El.val.flat vb) ∧ PartsK KP w vb D) :: Own 41 1 (.slice Aa D.length ca) D.length (El.val.flat va) :: Own 50 3 (.slice Am (n + 2) cm) (n + 2) (KP.flat (l ++ [P71, P72])) :: Blk b2 [.int .i64 p.pa, .int .i64 p.st, .int .i64 p.wo, .slice p.oA p.on p.oc, .int .i64 p.ag, .int .i64 p.ba, .int .i64 p.wi, .int .i64 p.gu] 34 :: rowsA 50 KP va (mix f99 (fun r : List Pr => r) D i)) ∧ i ≤ D.length) := ⟨(fun (i : Nat) => fun (wr : World) => Sat w wr (Keep (fun w => Rd w Ab D.length cb 1 (El.val.flat vb) ∧ PartsK KP w vb D) :: Own 41 1 (.slice Aa D.length ca) D.length (El.val.flat va) :: Own 50 3 (.slice Am (n + 2) cm) (n + 2) (KP.flat (l ++ [P71, P72])) :: Blk b2 [.int .i64 p.pa, .int .i64 p.st, .int .i64 p.wo, .slice p.oA p.on p.oc, .int .i64 p.ag, .int .i64 p.ba, .int .i64 p.wi, .int .i64 p.gu] 34 :: rowsA 50 KP va (mix f99 (fun r : List Pr => r) D i)) ∧ i ≤ D.length), fun _ _ => rfl⟩
  obtain ⟨ms38, hms38⟩ : ∃ F : Nat → Nat, ∀ (i : Nat), F i = (D.length - i) := ⟨(fun (i : Nat) => D.length - i), fun _ => rfl⟩
  refine St_loop En36 Iv37 ms38 (0) ?_ ?_ ?_
  · skip
    rw [hIv37]
    refine ⟨?_, by omega⟩
    rw [mix_0, List.map_id']
    exact hs
  · rw [hEn36]; exact (subE_cons rfl (subE_cons rfl (subE_cons rfl (subE_cons rfl (subE_cons rfl (subE_cons rfl (subE_cons rfl subE_nil)))))))
  rintro i wr hI39
  rw [hIv37] at hI39
  obtain ⟨hs, hi⟩ := hI39
  refine St_eqE (hEn36 _) ?_
  refine St_seq ?_
  refine St_seq ?_
  refine St_region ?_
  refine Ls_run (run_move rfl) rfl ?_
  refine Ls_run (run_move rfl) rfl ?_
  refine Ls_run (run_len Try.underlying43 rfl) rfl ?_
  refine Ls_run (run_lss rfl rfl) rfl ?_
  refine Ls_nil ?_
  refine Jm_seq ?_
  refine St_ifP rfl (fun h40 => ?_) (fun h40 => ?_)
  · skip
    refine St_skip ?_
    refine Jm_seq ?_
    refine St_seq ?_
    refine St_block ?_
    refine St_seq ?_
    refine St_region ?_
    refine Ls_run (run_assign rfl) rfl ?_
    refine Ls_nil ?_
    refine Jm_seq ?_
    refine St_block ?_
    obtain ⟨yl, hyl0⟩ : ∃ y, y = (D.getD i []).length := ⟨_, rfl⟩
    have hDi := hDx _ (getD_mem3 (d := []) (show i < D.length by omega))
    have e0 : (mix f99 (fun r : List Pr => r) D i).set i (List.replicate 0 P99 ++ (D.getD i []).drop 0) = mix f99 (fun r : List Pr => r) D i := (by have q := mix_getD (f := f99) (g := (fun r : List Pr => r)) (D := D) (i := i) (by omega); have q2 := set_getD_same (l := mix f99 (fun r : List Pr => r) D i) (d := []) (i := i) (by rw [mix_len]; omega); rw [q] at q2; simpa using q2)
    obtain ⟨En41, hEn41⟩ : ∃ F : Nat → Env, ∀ (k : Nat), F k = [(1, .slice A n c), (2, .pointer (some ⟨b2, 0, none⟩)), (5, .int .i64 (n : Int)), (6, .slice Am (n + 2) cm), (7, .slice Aa D.length ca), (8, .slice Ab D.length cb), (9, .int .i64 (i : Int)), (10, .int .i64 (k : Int))] := ⟨(fun (k : Nat) => [(1, .slice A n c), (2, .pointer (some ⟨b2, 0, none⟩)), (5, .int .i64 (n : Int)), (6, .slice Am (n + 2) cm), (7, .slice Aa D.length ca), (8, .slice Ab D.length cb), (9, .int .i64 (i : Int)), (10, .int .i64 (k : Int))]), fun _ => rfl⟩
    obtain ⟨Iv42, hIv42⟩ : ∃ F : Nat → World → Prop, ∀ (k : Nat) (wr2 : World), F k wr2 = (Sat w wr2 (Keep (fun w => Rd w Ab D.length cb 1 (El.val.flat vb) ∧ PartsK KP w vb D) :: Own 41 1 (.slice Aa D.length ca) D.length (El.val.flat va) :: Own 50 3 (.slice Am (n + 2) cm) (n + 2) (KP.flat (l ++ [P71, P72])) :: Blk b2 [.int .i64 p.pa, .int .i64 p.st, .int .i64 p.wo, .slice p.oA p.on p.oc, .int .i64 p.ag, .int .i64 p.ba, .int .i64 p.wi, .int .i64 p.gu] 34 :: rowsA 50 KP va ((mix f99 (fun r : List Pr => r) D i).set i (List.replicate k P99 ++ (D.getD i []).drop k))) ∧ k ≤ (D.getD i []).length) := ⟨(fun (k : Nat) => fun (wr2 : World) => Sat w wr2 (Keep (fun w => Rd w Ab D.length cb 1 (El.val.flat vb) ∧ PartsK KP w vb D) :: Own 41 1 (.slice Aa D.length ca) D.length (El.val.flat va) :: Own 50 3 (.slice Am (n + 2) cm) (n + 2) (KP.flat (l ++ [P71, P72])) :: Blk b2 [.int .i64 p.pa, .int .i64 p.st, .int .i64 p.wo, .slice p.oA p.on p.oc, .int .i64 p.ag, .int .i64 p.ba, .int .i64 p.wi, .int .i64 p.gu] 34 :: rowsA 50 KP va ((mix f99 (fun r : List Pr => r) D i).set i (List.replicate k P99 ++ (D.getD i []).drop k))) ∧ k ≤ (D.getD i []).length), fun _ _ => rfl⟩
    obtain ⟨ms43, hms43⟩ : ∃ F : Nat → Nat, ∀ (k : Nat), F k = ((D.getD i []).length - k) := ⟨(fun (k : Nat) => (D.getD i []).length - k), fun _ => rfl⟩
    refine St_loop En41 Iv42 ms43 (0) ?_ ?_ ?_
    · skip
      rw [hIv42]
      exact ⟨by rw [e0]; exact hs, by omega⟩
    · rw [hEn41]; exact (subE_cons rfl (subE_cons rfl (subE_cons rfl (subE_cons rfl (subE_cons rfl (subE_cons rfl (subE_cons rfl (subE_cons rfl subE_nil))))))))
    rintro k wr2 hI44
    rw [hIv42] at hI44
    obtain ⟨hs, hk1⟩ := hI44
    refine St_eqE (hEn41 _) ?_
    have hvl2 : va.length = ((mix f99 (fun r : List Pr => r) D i).set i (List.replicate k P99 ++ (D.getD i []).drop k)).length := by rw [List.length_set, mix_len]; exact hla
    obtain ⟨Ah, nh, ch, hvh, hrh⟩ := (Sat.parts (pre := [_, _, _, _]) hs hvl2).2 i (by rw [List.length_set, mix_len]; omega)
    rw [getD_set_same (by rw [mix_len]; omega)] at hrh
    have hnh := hrh.len
    rw [El.flat_length] at hnh
    replace hnh := Nat.eq_of_mul_eq_mul_right (by decide) hnh
    simp only [List.length_append, List.length_replicate, List.length_drop] at hnh
    refine St_seq ?_
    refine St_seq ?_
    refine St_region ?_
    refine Ls_run (run_move rfl) rfl ?_
    refine Ls_run (run_move rfl) rfl ?_
    refine Ls_run (run_move rfl) rfl ?_
    refine Ls_index (El.val) (hs.rd_at 1 rfl) Try.underlying43 inf41 rfl rfl (by omega) (by omega) hvh rfl ?_
    intro b45 o46 hc47
    refine Ls_run (run_load sc41 rfl (hc47 0 _ rfl)) rfl ?_
    refine Ls_run (run_len Try.underlying41 rfl) rfl ?_
    refine Ls_run (run_lss rfl rfl) rfl ?_
    refine Ls_nil ?_
    refine Jm_seq ?_
    refine St_ifP rfl (fun h48 => ?_) (fun h48 => ?_)
    · skip
      refine St_skip ?_
      refine Jm_seq ?_
      refine St_seq ?_
      refine St_block ?_
      refine St_region ?_
      refine Ls_run (run_move rfl) rfl ?_
      refine Ls_run (run_move rfl) rfl ?_
      try simp only [List.nil_append, List.cons_append] at hs
      replace hs := Sat.row_out (pre := [_, _, _, _]) i hs hvl2 (by omega)
      rw [getD_set_same (by rw [mix_len]; omega)] at hs
      obtain ⟨Ai, ci, hvi, _, _, _⟩ := hs.own_form
      rw [hvi] at hs
      simp only [List.cons_append, List.nil_append] at hs
      have hyl : (List.replicate k P99 ++ (D.getD i []).drop k).length = yl := by simp only [List.length_append, List.length_replicate, List.length_drop]; omega
      rw [hyl] at hs hvi
      obtain ⟨g, rfl⟩ := hs.own_addr (by omega)
      refine Ls_index (El.val) (hs.rd_at 2 rfl) Try.underlying43 inf41 rfl rfl (by omega) (by omega) hvi rfl ?_
      intro b49 o50 hc51
      refine Ls_run (run_load sc41 rfl (hc51 0 _ rfl)) rfl ?_
      refine Ls_run (run_move rfl) rfl ?_
      refine Ls_run (run_buildO (pv := [(0, _)]) rfl (bld50_0 _)) rfl ?_
      refine Ls_run (run_as (run_index Try.underlying41 inf50 rfl rfl rfl (by omega) (by omega)) (show _ = Value.pointer (some ⟨g, k * 3, none⟩) by simp)) rfl ?_
      refine Ls_storeOwnAgg (KP) (x' := P99) hs inf50 rfl rfl (KP_enc1 _) hyl (by omega) ?_
      intro w52 hs
      refine Ls_nil ?_
      refine Jm_block_normal (Jm_seq ?_)
      refine St_region ?_
      replace hs := hs.front 4 rfl
      simp only [List.cons_append, List.nil_append, List.eraseIdx_cons_zero, List.eraseIdx_cons_succ] at hs
      replace hs := hs.front 4 rfl
      simp only [List.cons_append, List.nil_append, List.eraseIdx_cons_zero, List.eraseIdx_cons_succ] at hs
      replace hs := hs.front 4 rfl
      simp only [List.cons_append, List.nil_append, List.eraseIdx_cons_zero, List.eraseIdx_cons_succ] at hs
      replace hs := hs.front 4 rfl
      simp only [List.cons_append, List.nil_append, List.eraseIdx_cons_zero, List.eraseIdx_cons_succ] at hs
      replace hs := hs.front 4 rfl
      simp only [List.cons_append, List.nil_append, List.eraseIdx_cons_zero, List.eraseIdx_cons_succ] at hs
      have hs5 := Sat.row_in (pre := [_, _, _, _]) i (List.replicate (k + 1) P99 ++ (D.getD i []).drop (k + 1)) hs (by simp only [List.length_append, List.length_replicate, List.length_drop]; omega) (by rw [rep_drop (by omega)]) hvl2 (by omega)
      rw [List.set_set, ← hvi, set_getD_same (by omega)] at hs5
      replace hs := hs5
      simp only [List.cons_append, List.nil_append] at hs
      refine Ls_run (run_move rfl) rfl ?_
      refine Ls_run (run_add rfl rfl (w64 (by omega))) rfl ?_
      refine Ls_run (run_assign rfl) rfl ?_
      refine Ls_nil ?_
      refine Jm_round (k + 1) ?_ ?_ ?_
      · rw [hEn41]; exact (subE_cons rfl (subE_cons rfl (subE_cons rfl (subE_cons rfl (subE_cons rfl (subE_cons rfl (subE_cons rfl (subE_cons rfl subE_nil))))))))
      · skip
        rw [hIv42]
        exact ⟨hs, by omega⟩
      · skip
        rw [hms43, hms43]
        omega
    · skip
      refine St_exit ?_
      refine Jm_then_exit (Jm_then_exit (Jm_block_same (Jm_block_normal (Jm_seq ?_))))
      refine St_region ?_
      refine Ls_run (run_move rfl) rfl ?_
      refine Ls_run (run_add rfl rfl (w64 (by omega))) rfl ?_
      refine Ls_run (run_assign rfl) rfl ?_
      refine Ls_nil ?_
      have hk9 : k = (D.getD i []).length := by omega
      rw [hk9, List.drop_length, List.append_nil] at hs
      rw [show List.replicate (D.getD i []).length P99 = f99 (D.getD i []) from rfl, mix_set (by omega)] at hs
      refine Jm_round (i + 1) ?_ ?_ ?_
      · rw [hEn36]; exact (subE_cons rfl (subE_cons rfl (subE_cons rfl (subE_cons rfl (subE_cons rfl (subE_cons rfl (subE_cons rfl subE_nil)))))))
      · skip
        rw [hIv37]
        exact ⟨hs, by omega⟩
      · skip
        rw [hms38, hms38]
        omega
  · skip
    refine St_exit ?_
    refine Jm_then_exit (Jm_then_exit (Jm_block_same (Jm_seq ?_)))
    refine St_seq ?_
    refine St_seq ?_
    refine St_region ?_
    refine Ls_run (run_assign rfl) rfl ?_
    refine Ls_nil ?_
    refine Jm_seq ?_
    refine St_block ?_
    have hi9 : i = D.length := by omega
    rw [hi9, mix_all] at hs
    obtain ⟨En53, hEn53⟩ : ∃ F : Nat × List Value → Env, ∀ (i : Nat) (vs : List Value), F (i, vs) = [(1, .slice A n c), (2, .pointer (some ⟨b2, 0, none⟩)), (5, .int .i64 (n : Int)), (6, .slice Am (n + 2) cm), (7, .slice Aa D.length ca), (8, .slice Ab D.length cb), (11, .int .i64 (i : Int))] := ⟨(fun (s : Nat × List Value) => match s with | (i, vs) => [(1, .slice A n c), (2, .pointer (some ⟨b2, 0, none⟩)), (5, .int .i64 (n : Int)), (6, .slice Am (n + 2) cm), (7, .slice Aa D.length ca), (8, .slice Ab D.length cb), (11, .int .i64 (i : Int))]), fun _ _ => rfl⟩
    obtain ⟨Iv54, hIv54⟩ : ∃ F : Nat × List Value → World → Prop, ∀ (i : Nat) (vs : List Value) (wr3 : World), F (i, vs) wr3 = (Sat w wr3 (Keep (fun w => Rd w Ab D.length cb 1 (El.val.flat vb) ∧ PartsK KP w vb D) :: Own 41 1 (.slice Aa D.length ca) D.length (El.val.flat vs) :: Own 50 3 (.slice Am (n + 2) cm) (n + 2) (KP.flat (l ++ [P71, P72])) :: Blk b2 [.int .i64 p.pa, .int .i64 p.st, .int .i64 p.wo, .slice p.oA p.on p.oc, .int .i64 p.ag, .int .i64 p.ba, .int .i64 p.wi, .int .i64 p.gu] 34 :: rowsA 50 KP vs (mix f98 f99 D i)) ∧ i ≤ D.length ∧ vs.length = D.length) := ⟨(fun (s : Nat × List Value) => match s with | (i, vs) => fun (wr3 : World) => Sat w wr3 (Keep (fun w => Rd w Ab D.length cb 1 (El.val.flat vb) ∧ PartsK KP w vb D) :: Own 41 1 (.slice Aa D.length ca) D.length (El.val.flat vs) :: Own 50 3 (.slice Am (n + 2) cm) (n + 2) (KP.flat (l ++ [P71, P72])) :: Blk b2 [.int .i64 p.pa, .int .i64 p.st, .int .i64 p.wo, .slice p.oA p.on p.oc, .int .i64 p.ag, .int .i64 p.ba, .int .i64 p.wi, .int .i64 p.gu] 34 :: rowsA 50 KP vs (mix f98 f99 D i)) ∧ i ≤ D.length ∧ vs.length = D.length), fun _ _ _ => rfl⟩
    obtain ⟨ms55, hms55⟩ : ∃ F : Nat × List Value → Nat, ∀ (i : Nat) (vs : List Value), F (i, vs) = (D.length - i) := ⟨(fun (s : Nat × List Value) => match s with | (i, vs) => D.length - i), fun _ _ => rfl⟩
    refine St_loop En53 Iv54 ms55 (0, va) ?_ ?_ ?_
    · skip
      rw [hIv54]
      exact ⟨by rw [mix_0]; exact hs, by omega, hla⟩
    · rw [hEn53]; exact (subE_cons rfl (subE_cons rfl (subE_cons rfl (subE_cons rfl (subE_cons rfl (subE_cons rfl (subE_cons rfl subE_nil)))))))
    rintro ⟨i, vs⟩ wr3 hI56
    rw [hIv54] at hI56
    obtain ⟨hs, hi, hvs⟩ := hI56
    refine St_eqE (hEn53 _ _) ?_
    refine St_seq ?_
    refine St_seq ?_
    refine St_region ?_
    refine Ls_run (run_move rfl) rfl ?_
    refine Ls_run (run_move rfl) rfl ?_
    refine Ls_run (run_len Try.underlying43 rfl) rfl ?_
    refine Ls_run (run_lss rfl rfl) rfl ?_
    refine Ls_nil ?_
    refine Jm_seq ?_
    refine St_ifP rfl (fun h57 => ?_) (fun h57 => ?_)
    · skip
      refine St_skip ?_
      refine Jm_seq ?_
      refine St_seq ?_
      refine St_block ?_
      refine St_seq ?_
      refine St_region ?_
      refine Ls_run (run_assign rfl) rfl ?_
      refine Ls_nil ?_
      refine Jm_seq ?_
      refine St_block ?_
      obtain ⟨yl0, hyl0⟩ : ∃ y, y = (D.getD i []).length := ⟨_, rfl⟩
      have hDi := hDx _ (getD_mem3 (d := []) (show i < D.length by omega))
      have e0 : (mix f98 f99 D i).set i (List.replicate (D.getD i []).length P99 ++ List.replicate 0 P98) = mix f98 f99 D i := (by have q := mix_getD (f := f98) (g := f99) (D := D) (i := i) (by omega); have q2 := set_getD_same (l := mix f98 f99 D i) (d := []) (i := i) (by rw [mix_len]; omega); rw [q] at q2; simpa [f99] using q2)
      obtain ⟨En58, hEn58⟩ : ∃ F : Nat × List Value → Env, ∀ (k : Nat) (vs2 : List Value), F (k, vs2) = [(1, .slice A n c), (2, .pointer (some ⟨b2, 0, none⟩)), (5, .int .i64 (n : Int)), (6, .slice Am (n + 2) cm), (7, .slice Aa D.length ca), (8, .slice Ab D.length cb), (11, .int .i64 (i : Int)), (12, .int .i64 (k : Int))] := ⟨(fun (s : Nat × List Value) => match s with | (k, vs2) => [(1, .slice A n c), (2, .pointer (some ⟨b2, 0, none⟩)), (5, .int .i64 (n : Int)), (6, .slice Am (n + 2) cm), (7, .slice Aa D.length ca), (8, .slice Ab D.length cb), (11, .int .i64 (i : Int)), (12, .int .i64 (k : Int))]), fun _ _ => rfl⟩
      obtain ⟨Iv59, hIv59⟩ : ∃ F : Nat × List Value → World → Prop, ∀ (k : Nat) (vs2 : List Value) (wr4 : World), F (k, vs2) wr4 = (Sat w wr4 (Keep (fun w => Rd w Ab D.length cb 1 (El.val.flat vb) ∧ PartsK KP w vb D) :: Own 41 1 (.slice Aa D.length ca) D.length (El.val.flat vs2) :: Own 50 3 (.slice Am (n + 2) cm) (n + 2) (KP.flat (l ++ [P71, P72])) :: Blk b2 [.int .i64 p.pa, .int .i64 p.st, .int .i64 p.wo, .slice p.oA p.on p.oc, .int .i64 p.ag, .int .i64 p.ba, .int .i64 p.wi, .int .i64 p.gu] 34 :: rowsA 50 KP vs2 ((mix f98 f99 D i).set i (List.replicate (D.getD i []).length P99 ++ List.replicate k P98))) ∧ k ≤ 9 ∧ vs2.length = D.length) := ⟨(fun (s : Nat × List Value) => match s with | (k, vs2) => fun (wr4 : World) => Sat w wr4 (Keep (fun w => Rd w Ab D.length cb 1 (El.val.flat vb) ∧ PartsK KP w vb D) :: Own 41 1 (.slice Aa D.length ca) D.length (El.val.flat vs2) :: Own 50 3 (.slice Am (n + 2) cm) (n + 2) (KP.flat (l ++ [P71, P72])) :: Blk b2 [.int .i64 p.pa, .int .i64 p.st, .int .i64 p.wo, .slice p.oA p.on p.oc, .int .i64 p.ag, .int .i64 p.ba, .int .i64 p.wi, .int .i64 p.gu] 34 :: rowsA 50 KP vs2 ((mix f98 f99 D i).set i (List.replicate (D.getD i []).length P99 ++ List.replicate k P98))) ∧ k ≤ 9 ∧ vs2.length = D.length), fun _ _ _ => rfl⟩
      obtain ⟨ms60, hms60⟩ : ∃ F : Nat × List Value → Nat, ∀ (k : Nat) (vs2 : List Value), F (k, vs2) = (9 - k) := ⟨(fun (s : Nat × List Value) => match s with | (k, vs2) => 9 - k), fun _ _ => rfl⟩
      refine St_loop En58 Iv59 ms60 (0, vs) ?_ ?_ ?_
      · skip
        rw [hIv59]
        exact ⟨by rw [e0]; exact hs, by omega, hvs⟩
      · rw [hEn58]; exact (subE_cons rfl (subE_cons rfl (subE_cons rfl (subE_cons rfl (subE_cons rfl (subE_cons rfl (subE_cons rfl (subE_cons rfl subE_nil))))))))
      rintro ⟨k, vs2⟩ wr4 hI61
      rw [hIv59] at hI61
      obtain ⟨hs, hk1, hvs2⟩ := hI61
      refine St_eqE (hEn58 _ _) ?_
      have hvl2 : vs2.length = ((mix f98 f99 D i).set i (List.replicate (D.getD i []).length P99 ++ List.replicate k P98)).length := by rw [List.length_set, mix_len]; exact hvs2
      obtain ⟨yl, hyly⟩ : ∃ y, y = (D.getD i []).length + k := ⟨_, rfl⟩
      refine St_seq ?_
      refine St_seq ?_
      refine St_region ?_
      refine Ls_run (run_move rfl) rfl ?_
      refine Ls_run (run_lss rfl rfl) rfl ?_
      refine Ls_nil ?_
      refine Jm_seq ?_
      refine St_ifP rfl (fun h62 => ?_) (fun h62 => ?_)
      · skip
        refine St_skip ?_
        refine Jm_seq ?_
        refine St_seq ?_
        refine St_block ?_
        refine St_region ?_
        refine Ls_run (run_move rfl) rfl ?_
        refine Ls_run (run_move rfl) rfl ?_
        refine Ls_run (run_move rfl) rfl ?_
        refine Ls_run (run_move rfl) rfl ?_
        try simp only [List.nil_append, List.cons_append] at hs
        replace hs := Sat.row_out (pre := [_, _, _, _]) i hs hvl2 (by omega)
        rw [getD_set_same (by rw [mix_len]; omega)] at hs
        obtain ⟨Ai, ci, hvi, _, _, _⟩ := hs.own_form
        rw [hvi] at hs
        simp only [List.cons_append, List.nil_append] at hs
        have hyl : (List.replicate (D.getD i []).length P99 ++ List.replicate k P98).length = yl := by simp only [List.length_append, List.length_replicate, List.length_drop]; omega
        rw [hyl] at hs hvi
        refine Ls_index (El.val) (hs.rd_at 2 rfl) Try.underlying43 inf41 rfl rfl (by omega) (by omega) hvi rfl ?_
        intro b63 o64 hc65
        refine Ls_run (run_load sc41 rfl (hc65 0 _ rfl)) rfl ?_
        refine Ls_run (run_buildO (pv := [(0, _)]) rfl (bld50_0 _)) rfl ?_
        refine Ls_literal [_] hs Try.underlying41 inf50 rfl rfl rfl rfl rfl rfl ?_
        intro b66 w67 hs
        simp only [List.flatMap_cons, List.flatMap_nil, Value.cells, List.cons_append, List.nil_append] at hs
        replace hs := hs.front 1 rfl
        simp only [List.cons_append, List.nil_append, List.eraseIdx_cons_zero, List.eraseIdx_cons_succ] at hs
        refine Ls_append hs Try.underlying41 inf50 rfl (by decide) (by decide) rfl rfl (rd_block (hs.is_at 1 rfl).2 3 1 rfl) (by simp [Value.oneCell']) (by omega) rfl ?_
        intro A68 c69 w70 hs
        replace hs := hs.erase 1
        simp only [List.cons_append, List.nil_append, List.eraseIdx_cons_zero, List.eraseIdx_cons_succ] at hs
        obtain ⟨g2, rfl⟩ := (hs.front 2 rfl).own_addr (by omega)
        refine Ls_run (run_index Try.underlying43 inf41 rfl rfl rfl (by omega) (by omega)) rfl ?_
        replace hs := hs.front 2 rfl
        simp only [List.cons_append, List.nil_append, List.eraseIdx_cons_zero, List.eraseIdx_cons_succ] at hs
        refine Ls_storeOwn hs inf41 rfl rfl rfl (by omega) ?_
        intro w71 hs
        refine Ls_nil ?_
        refine Jm_block_normal (Jm_seq ?_)
        refine St_region ?_
        replace hs := hs.front 4 rfl
        simp only [List.cons_append, List.nil_append, List.eraseIdx_cons_zero, List.eraseIdx_cons_succ] at hs
        replace hs := hs.front 4 rfl
        simp only [List.cons_append, List.nil_append, List.eraseIdx_cons_zero, List.eraseIdx_cons_succ] at hs
        replace hs := hs.front 2 rfl
        simp only [List.cons_append, List.nil_append, List.eraseIdx_cons_zero, List.eraseIdx_cons_succ] at hs
        replace hs := hs.front 4 rfl
        simp only [List.cons_append, List.nil_append, List.eraseIdx_cons_zero, List.eraseIdx_cons_succ] at hs
        replace hs := hs.front 4 rfl
        simp only [List.cons_append, List.nil_append, List.eraseIdx_cons_zero, List.eraseIdx_cons_succ] at hs
        simp only [Nat.zero_add, Nat.mul_one, Int.toNat_natCast, El.val_flat] at hs
        have hs5 := Sat.row_in (pre := [_, _, _, _]) i (List.replicate (D.getD i []).length P99 ++ List.replicate (k + 1) P98) hs (by simp only [List.length_append, List.length_replicate]; omega) (by rw [List.replicate_succ', ← List.append_assoc]; exact flatP_snoc _ _ _ _) hvl2 (by omega)
        rw [List.set_set] at hs5
        replace hs := hs5
        simp only [List.cons_append, List.nil_append] at hs
        refine Ls_run (run_move rfl) rfl ?_
        refine Ls_run (run_add rfl rfl (w64 (by omega))) rfl ?_
        refine Ls_run (run_assign rfl) rfl ?_
        refine Ls_nil ?_
        refine Jm_round (k + 1, vs2.set i (Value.slice A68 (yl + 1) c69)) ?_ ?_ ?_
        · rw [hEn58]; exact (subE_cons rfl (subE_cons rfl (subE_cons rfl (subE_cons rfl (subE_cons rfl (subE_cons rfl (subE_cons rfl (subE_cons rfl subE_nil))))))))
        · skip
          rw [hIv59]
          exact ⟨by simp only [El.val_flat] at hs ⊢; exact hs, by omega, by rw [List.length_set]; exact hvs2⟩
        · skip
          rw [hms60, hms60]
          omega
      · skip
        refine St_exit ?_
        refine Jm_then_exit (Jm_then_exit (Jm_block_same (Jm_block_normal (Jm_seq ?_))))
        refine St_region ?_
        refine Ls_run (run_move rfl) rfl ?_
        refine Ls_run (run_add rfl rfl (w64 (by omega))) rfl ?_
        refine Ls_run (run_assign rfl) rfl ?_
        refine Ls_nil ?_
        have hk9 : k = 9 := by omega
        rw [hk9] at hs
        rw [show List.replicate (D.getD i []).length P99 ++ List.replicate 9 P98 = f98 (D.getD i []) from rfl, mix_set (by omega)] at hs
        refine Jm_round (i + 1, vs2) ?_ ?_ ?_
        · rw [hEn53]; exact (subE_cons rfl (subE_cons rfl (subE_cons rfl (subE_cons rfl (subE_cons rfl (subE_cons rfl (subE_cons rfl subE_nil)))))))
        · skip
          rw [hIv54]
          exact ⟨hs, by omega, hvs2⟩
        · skip
          rw [hms55, hms55]
          omega
    · skip
      refine St_exit ?_
      refine Jm_then_exit (Jm_then_exit (Jm_block_same (Jm_seq ?_)))
      refine St_seq ?_
      refine St_seq ?_
      refine St_region ?_
      refine Ls_run (run_assign rfl) rfl ?_
      refine Ls_nil ?_
      refine Jm_seq ?_
      refine St_block ?_
      have hi9 : i = D.length := by omega
      rw [hi9, mix_all] at hs
      obtain ⟨En72, hEn72⟩ : ∃ F : Nat → Env, ∀ (i : Nat), F i = [(1, .slice A n c), (2, .pointer (some ⟨b2, 0, none⟩)), (5, .int .i64 (n : Int)), (6, .slice Am (n + 2) cm), (7, .slice Aa D.length ca), (8, .slice Ab D.length cb), (13, .int .i64 (i : Int))] := ⟨(fun (i : Nat) => [(1, .slice A n c), (2, .pointer (some ⟨b2, 0, none⟩)), (5, .int .i64 (n : Int)), (6, .slice Am (n + 2) cm), (7, .slice Aa D.length ca), (8, .slice Ab D.length cb), (13, .int .i64 (i : Int))]), fun _ => rfl⟩
      obtain ⟨Iv73, hIv73⟩ : ∃ F : Nat → World → Prop, ∀ (i : Nat) (wr5 : World), F i wr5 = (Sat w wr5 (Keep (fun w => Rd w Ab D.length cb 1 (El.val.flat vb) ∧ PartsK KP w vb D) :: Own 41 1 (.slice Aa D.length ca) D.length (El.val.flat vs) :: Own 50 3 (.slice Am (n + 2) cm) (n + 2) (KP.flat (l ++ [P71, P72])) :: Blk b2 [.int .i64 p.pa, .int .i64 p.st, .int .i64 p.wo, .slice p.oA p.on p.oc, .int .i64 p.ag, .int .i64 p.ba, .int .i64 p.wi, .int .i64 p.gu] 34 :: rowsA 50 KP vs (D.map f98)) ∧ i ≤ D.length) := ⟨(fun (i : Nat) => fun (wr5 : World) => Sat w wr5 (Keep (fun w => Rd w Ab D.length cb 1 (El.val.flat vb) ∧ PartsK KP w vb D) :: Own 41 1 (.slice Aa D.length ca) D.length (El.val.flat vs) :: Own 50 3 (.slice Am (n + 2) cm) (n + 2) (KP.flat (l ++ [P71, P72])) :: Blk b2 [.int .i64 p.pa, .int .i64 p.st, .int .i64 p.wo, .slice p.oA p.on p.oc, .int .i64 p.ag, .int .i64 p.ba, .int .i64 p.wi, .int .i64 p.gu] 34 :: rowsA 50 KP vs (D.map f98)) ∧ i ≤ D.length), fun _ _ => rfl⟩
      obtain ⟨ms74, hms74⟩ : ∃ F : Nat → Nat, ∀ (i : Nat), F i = (D.length - i) := ⟨(fun (i : Nat) => D.length - i), fun _ => rfl⟩
      refine St_loop En72 Iv73 ms74 (0) ?_ ?_ ?_
      · skip
        rw [hIv73]
        exact ⟨hs, by omega⟩
      · rw [hEn72]; exact (subE_cons rfl (subE_cons rfl (subE_cons rfl (subE_cons rfl (subE_cons rfl (subE_cons rfl (subE_cons rfl subE_nil)))))))
      rintro i wr5 hI75
      rw [hIv73] at hI75
      obtain ⟨hs, hi⟩ := hI75
      refine St_eqE (hEn72 _) ?_
      refine St_seq ?_
      refine St_seq ?_
      refine St_region ?_
      refine Ls_run (run_move rfl) rfl ?_
      refine Ls_run (run_move rfl) rfl ?_
      refine Ls_run (run_len Try.underlying43 rfl) rfl ?_
      refine Ls_run (run_lss rfl rfl) rfl ?_
      refine Ls_nil ?_
      refine Jm_seq ?_
      refine St_ifP rfl (fun h76 => ?_) (fun h76 => ?_)
      · skip
        refine St_skip ?_
        refine Jm_seq ?_
        refine St_seq ?_
        refine St_block ?_
        refine St_seq ?_
        refine St_region ?_
        refine Ls_run (run_assign rfl) rfl ?_
        refine Ls_nil ?_
        refine Jm_seq ?_
        refine St_block ?_
        obtain ⟨En77, hEn77⟩ : ∃ F : Nat → Env, ∀ (k : Nat), F k = [(1, .slice A n c), (2, .pointer (some ⟨b2, 0, none⟩)), (5, .int .i64 (n : Int)), (6, .slice Am (n + 2) cm), (7, .slice Aa D.length ca), (8, .slice Ab D.length cb), (13, .int .i64 (i : Int)), (14, .int .i64 (k : Int))] := ⟨(fun (k : Nat) => [(1, .slice A n c), (2, .pointer (some ⟨b2, 0, none⟩)), (5, .int .i64 (n : Int)), (6, .slice Am (n + 2) cm), (7, .slice Aa D.length ca), (8, .slice Ab D.length cb), (13, .int .i64 (i : Int)), (14, .int .i64 (k : Int))]), fun _ => rfl⟩
        obtain ⟨Iv78, hIv78⟩ : ∃ F : Nat → World → Prop, ∀ (k : Nat) (wr6 : World), F k wr6 = (Sat w wr6 (Keep (fun w => Rd w Ab D.length cb 1 (El.val.flat vb) ∧ PartsK KP w vb D) :: Own 41 1 (.slice Aa D.length ca) D.length (El.val.flat vs) :: Own 50 3 (.slice Am (n + 2) cm) (n + 2) (KP.flat (l ++ [P71, P72])) :: Blk b2 [.int .i64 p.pa, .int .i64 p.st, .int .i64 p.wo, .slice p.oA p.on p.oc, .int .i64 p.ag, .int .i64 p.ba, .int .i64 p.wi, .int .i64 p.gu] 34 :: rowsA 50 KP vs (D.map f98)) ∧ k ≤ (D.getD i []).length + 9) := ⟨(fun (k : Nat) => fun (wr6 : World) => Sat w wr6 (Keep (fun w => Rd w Ab D.length cb 1 (El.val.flat vb) ∧ PartsK KP w vb D) :: Own 41 1 (.slice Aa D.length ca) D.length (El.val.flat vs) :: Own 50 3 (.slice Am (n + 2) cm) (n + 2) (KP.flat (l ++ [P71, P72])) :: Blk b2 [.int .i64 p.pa, .int .i64 p.st, .int .i64 p.wo, .slice p.oA p.on p.oc, .int .i64 p.ag, .int .i64 p.ba, .int .i64 p.wi, .int .i64 p.gu] 34 :: rowsA 50 KP vs (D.map f98)) ∧ k ≤ (D.getD i []).length + 9), fun _ _ => rfl⟩
        obtain ⟨ms79, hms79⟩ : ∃ F : Nat → Nat, ∀ (k : Nat), F k = ((D.getD i []).length + 9 - k) := ⟨(fun (k : Nat) => (D.getD i []).length + 9 - k), fun _ => rfl⟩
        refine St_loop En77 Iv78 ms79 (0) ?_ ?_ ?_
        · skip
          rw [hIv78]
          exact ⟨hs, by omega⟩
        · rw [hEn77]; exact (subE_cons rfl (subE_cons rfl (subE_cons rfl (subE_cons rfl (subE_cons rfl (subE_cons rfl (subE_cons rfl (subE_cons rfl subE_nil))))))))
        rintro k wr6 hI80
        rw [hIv78] at hI80
        obtain ⟨hs, hk1⟩ := hI80
        refine St_eqE (hEn77 _) ?_
        have hDi := hDx _ (getD_mem3 (d := []) (show i < D.length by omega))
        have hvl : vs.length = (D.map f98).length := by rw [List.length_map]; exact hvs
        obtain ⟨Ai, ni, ci, hvi, hri⟩ := (Sat.parts (pre := [_, _, _, _]) hs hvl).2 i (by rw [List.length_map]; omega)
        rw [map_getD_ls (by omega)] at hri
        have hni : (f98 (D.getD i [])).length = ni := by have := hri.len; rw [El.flat_length] at this; exact Nat.eq_of_mul_eq_mul_right (by decide) this
        rw [f98_len] at hni
        obtain ⟨Bi, mi, di, hwi, hrb⟩ := (hs.kept 0 rfl).2.2 i (by omega)
        have hmi : (D.getD i []).length = mi := by have := hrb.len; rw [El.flat_length] at this; exact Nat.eq_of_mul_eq_mul_right (by decide) this
        refine St_seq ?_
        refine St_seq ?_
        refine St_region ?_
        refine Ls_run (run_move rfl) rfl ?_
        refine Ls_run (run_move rfl) rfl ?_
        refine Ls_run (run_move rfl) rfl ?_
        refine Ls_index (El.val) (hs.rd_at 1 rfl) Try.underlying43 inf41 rfl rfl (by omega) (by omega) hvi rfl ?_
        intro b81 o82 hc83
        refine Ls_run (run_load sc41 rfl (hc83 0 _ rfl)) rfl ?_
        refine Ls_run (run_len Try.underlying41 rfl) rfl ?_
        refine Ls_run (run_lss rfl rfl) rfl ?_
        refine Ls_nil ?_
        refine Jm_seq ?_
        refine St_ifP rfl (fun h84 => ?_) (fun h84 => ?_)
        · skip
          refine St_skip ?_
          refine Jm_seq ?_
          refine St_seq ?_
          refine St_block ?_
          refine St_seq ?_
          refine St_region ?_
          refine Ls_run (run_move rfl) rfl ?_
          refine Ls_run (run_move rfl) rfl ?_
          refine Ls_run (run_move rfl) rfl ?_
          refine Ls_index (El.val) ((hs.kept 0 rfl).1) Try.underlying43 inf41 rfl rfl (by omega) (by omega) hwi rfl ?_
          intro b85 o86 hc87
          refine Ls_run (run_load sc41 rfl (hc87 0 _ rfl)) rfl ?_
          refine Ls_run (run_len Try.underlying41 rfl) rfl ?_
          refine Ls_run (run_lss rfl rfl) rfl ?_
          refine Ls_run (run_move rfl) rfl ?_
          refine Ls_partP (t := 133) rfl (fun h88 => ?_) (fun h88 => ?_)
          · skip
            refine Ls_on rfl rfl ?_
            refine Ls_run (run_move rfl) rfl ?_
            refine Ls_on rfl rfl ?_
            refine Ls_run (run_move rfl) rfl ?_
            refine Ls_on rfl rfl ?_
            refine Ls_index (El.val) (hs.rd_at 1 rfl) Try.underlying43 inf41 rfl rfl (by omega) (by omega) hvi rfl ?_
            intro b89 o90 hc91
            refine Ls_on rfl rfl ?_
            refine Ls_run (run_load sc41 rfl (hc91 0 _ rfl)) rfl ?_
            refine Ls_on rfl rfl ?_
            refine Ls_run (run_move rfl) rfl ?_
            refine Ls_on rfl rfl ?_
            refine Ls_index (KP) hri Try.underlying41 inf50 rfl rfl (by omega) (by omega) (show _ = P99 from f98_lo _ k (by omega)) rfl ?_
            intro b92 o93 hc94
            refine Ls_on rfl rfl ?_
            refine Ls_run (run_as (run_load_agg agg50 inf50 rfl rfl hc94) (show _ = Value.agg #[.int .u64 99, .bool false, .int .u64 0] from rfl)) rfl ?_
            refine Ls_on rfl rfl ?_
            refine Ls_run (run_buildO (pv := [(0, _)]) rfl (bld50_0 _)) rfl ?_
            refine Ls_on rfl rfl ?_
            refine Ls_run (run_asB (c := false) (run_neq_agg rfl rfl (by kernel_rfl) (eqs50 9997 _ _ _ _ _ _)) (by simp)) rfl ?_
            refine Ls_run (run_pick_t rfl rfl) rfl ?_
            refine Ls_run (run_move rfl) rfl ?_
            refine Ls_on rfl rfl ?_
            refine Ls_run (run_move rfl) rfl ?_
            refine Ls_on rfl rfl ?_
            refine Ls_run (run_move rfl) rfl ?_
            refine Ls_on rfl rfl ?_
            refine Ls_run (run_move rfl) rfl ?_
            refine Ls_on rfl rfl ?_
            refine Ls_index (El.val) ((hs.kept 0 rfl).1) Try.underlying43 inf41 rfl rfl (by omega) (by omega) hwi rfl ?_
            intro b95 o96 hc97
            refine Ls_on rfl rfl ?_
            refine Ls_run (run_load sc41 rfl (hc97 0 _ rfl)) rfl ?_
            refine Ls_on rfl rfl ?_
            refine Ls_run (run_len Try.underlying41 rfl) rfl ?_
            refine Ls_on rfl rfl ?_
            refine Ls_run (run_asB (c := false) (run_geq rfl rfl) (decide_eq_false (by omega))) rfl ?_
            refine Ls_on rfl rfl ?_
            refine Ls_run (run_move rfl) rfl ?_
            refine Ls_off rfl rfl rfl rfl ?_
            refine Ls_off rfl rfl rfl rfl ?_
            refine Ls_off rfl rfl rfl rfl ?_
            refine Ls_off rfl rfl rfl rfl ?_
            refine Ls_off rfl rfl rfl rfl ?_
            refine Ls_off rfl rfl rfl rfl ?_
            refine Ls_off rfl rfl rfl rfl ?_
            refine Ls_off rfl rfl rfl rfl ?_
            refine Ls_off rfl rfl rfl rfl ?_
            refine Ls_on rfl rfl ?_
            refine Ls_run (run_pick_f rfl rfl) rfl ?_
            refine Ls_run (run_pick_f rfl rfl) rfl ?_
            refine Ls_nil ?_
            refine Jm_seq ?_
            refine St_iff rfl ?_
            refine St_skip ?_
            refine Jm_block_normal (Jm_seq ?_)
            refine St_region ?_
            refine Ls_run (run_move rfl) rfl ?_
            refine Ls_run (run_add rfl rfl (w64 (by omega))) rfl ?_
            refine Ls_run (run_assign rfl) rfl ?_
            refine Ls_nil ?_
            refine Jm_round (k + 1) ?_ ?_ ?_
            · rw [hEn77]; exact (subE_cons rfl (subE_cons rfl (subE_cons rfl (subE_cons rfl (subE_cons rfl (subE_cons rfl (subE_cons rfl (subE_cons rfl subE_nil))))))))
            · skip
              rw [hIv78]
              exact ⟨hs, by omega⟩
            · skip
              rw [hms79, hms79]
              omega
          · skip
            refine Ls_off rfl rfl rfl rfl ?_
            refine Ls_off rfl rfl rfl rfl ?_
            refine Ls_off rfl rfl rfl rfl ?_
            refine Ls_off rfl rfl rfl rfl ?_
            refine Ls_off rfl rfl rfl rfl ?_
            refine Ls_off rfl rfl rfl rfl ?_
            refine Ls_off rfl rfl rfl rfl ?_
            refine Ls_off rfl rfl rfl rfl ?_
            refine Ls_off rfl rfl rfl rfl ?_
            refine Ls_run (run_pick_f rfl rfl) rfl ?_
            refine Ls_run (run_move rfl) rfl ?_
            refine Ls_on rfl rfl ?_
            refine Ls_run (run_move rfl) rfl ?_
            refine Ls_on rfl rfl ?_
            refine Ls_run (run_move rfl) rfl ?_
            refine Ls_on rfl rfl ?_
            refine Ls_run (run_move rfl) rfl ?_
            refine Ls_on rfl rfl ?_
            refine Ls_index (El.val) ((hs.kept 0 rfl).1) Try.underlying43 inf41 rfl rfl (by omega) (by omega) hwi rfl ?_
            intro b99 o100 hc101
            refine Ls_on rfl rfl ?_
            refine Ls_run (run_load sc41 rfl (hc101 0 _ rfl)) rfl ?_
            refine Ls_on rfl rfl ?_
            refine Ls_run (run_len Try.underlying41 rfl) rfl ?_
            refine Ls_on rfl rfl ?_
            refine Ls_run (run_asB (c := true) (run_geq rfl rfl) (decide_eq_true (by omega))) rfl ?_
            refine Ls_on rfl rfl ?_
            refine Ls_run (run_move rfl) rfl ?_
            refine Ls_on rfl rfl ?_
            refine Ls_run (run_move rfl) rfl ?_
            refine Ls_on rfl rfl ?_
            refine Ls_run (run_move rfl) rfl ?_
            refine Ls_on rfl rfl ?_
            refine Ls_index (El.val) (hs.rd_at 1 rfl) Try.underlying43 inf41 rfl rfl (by omega) (by omega) hvi rfl ?_
            intro b102 o103 hc104
            refine Ls_on rfl rfl ?_
            refine Ls_run (run_load sc41 rfl (hc104 0 _ rfl)) rfl ?_
            refine Ls_on rfl rfl ?_
            refine Ls_run (run_move rfl) rfl ?_
            refine Ls_on rfl rfl ?_
            refine Ls_index (KP) hri Try.underlying41 inf50 rfl rfl (by omega) (by omega) (show _ = P98 from f98_hi _ k (by omega) (by omega)) rfl ?_
            intro b105 o106 hc107
            refine Ls_on rfl rfl ?_
            refine Ls_run (run_as (run_load_agg agg50 inf50 rfl rfl hc107) (show _ = Value.agg #[.int .u64 98, .bool false, .int .u64 0] from rfl)) rfl ?_
            refine Ls_on rfl rfl ?_
            refine Ls_run (run_buildO (pv := [(0, _)]) rfl (bld50_0 _)) rfl ?_
            refine Ls_on rfl rfl ?_
            refine Ls_run (run_asB (c := false) (run_neq_agg rfl rfl (by kernel_rfl) (eqs50 9997 _ _ _ _ _ _)) (by simp)) rfl ?_
            refine Ls_on rfl rfl ?_
            refine Ls_run (run_pick_t rfl rfl) rfl ?_
            refine Ls_run (run_pick_f rfl rfl) rfl ?_
            refine Ls_nil ?_
            refine Jm_seq ?_
            refine St_iff rfl ?_
            refine St_skip ?_
            refine Jm_block_normal (Jm_seq ?_)
            refine St_region ?_
            refine Ls_run (run_move rfl) rfl ?_
            refine Ls_run (run_add rfl rfl (w64 (by omega))) rfl ?_
            refine Ls_run (run_assign rfl) rfl ?_
            refine Ls_nil ?_
            refine Jm_round (k + 1) ?_ ?_ ?_
            · rw [hEn77]; exact (subE_cons rfl (subE_cons rfl (subE_cons rfl (subE_cons rfl (subE_cons rfl (subE_cons rfl (subE_cons rfl (subE_cons rfl subE_nil))))))))
            · skip
              rw [hIv78]
              exact ⟨hs, by omega⟩
            · skip
              rw [hms79, hms79]
              omega
        · skip
          refine St_exit ?_
          refine Jm_then_exit (Jm_then_exit (Jm_block_same (Jm_block_normal (Jm_seq ?_))))
          refine St_region ?_
          refine Ls_run (run_move rfl) rfl ?_
          refine Ls_run (run_add rfl rfl (w64 (by omega))) rfl ?_
          refine Ls_run (run_assign rfl) rfl ?_
          refine Ls_nil ?_
          refine Jm_round (i + 1) ?_ ?_ ?_
          · rw [hEn72]; exact (subE_cons rfl (subE_cons rfl (subE_cons rfl (subE_cons rfl (subE_cons rfl (subE_cons rfl (subE_cons rfl subE_nil)))))))
          · skip
            rw [hIv73]
            exact ⟨hs, by omega⟩
          · skip
            rw [hms74, hms74]
            omega
      · skip
        refine St_exit ?_
        refine Jm_then_exit (Jm_then_exit (Jm_block_same (Jm_seq ?_)))
        refine St_seq ?_
        refine St_region ?_
        refine Ls_run (run_move rfl) rfl ?_
        refine Ls_run (run_load_agg agg34 inf34 rfl rfl (hs.blk_cells 3 rfl 0 8)) rfl ?_
        refine Ls_run (run_move rfl) rfl ?_
        try simp only [List.nil_append, List.cons_append] at hs
        refine Ls_call Try.func30 nm30 rfl rfl (Deal_c wr5 p ops (hr.inB hs) hn A n c l (hrl.inB hs) hb (by omega)) rfl ?_
        rintro v109 w110 ⟨Ac, cc, vc, rfl, hlc, hsC⟩
        rw [← hDe] at hsC hlc ⊢
        replace hs := Sat.toKeep (F := fun w => Rd w Ac D.length cc 1 (El.val.flat vc) ∧ PartsK KP w vc D) (fun B w q => ⟨q.rd_at 0 rfl, Sat.parts (pre := [_]) q hlc⟩) (hs.trans hsC)
        refine Ls_call Try.func29 nm29 rfl rfl (lists_c w110 _ _ _ vb D _ _ _ vc D (hs.kept 1 rfl).1 (hs.kept 0 rfl).1 (hs.kept 1 rfl).2 (hs.kept 0 rfl).2 (fun x hx => by have := hDx x hx; omega) (by omega)) rfl ?_
        rintro v111 w112 ⟨rfl, hsL⟩
        replace hs := hs.trans hsL
        rw [decide_eq_true (rfl : D = D)]
        refine Ls_run (run_move rfl) rfl ?_
        refine Ls_on rfl rfl ?_
        refine Ls_run (run_move rfl) rfl ?_
        refine Ls_on rfl rfl ?_
        refine Ls_run (run_move rfl) rfl ?_
        refine Ls_on rfl rfl ?_
        refine Ls_run (run_slice_h Try.underlying41 inf50 rfl rfl (by omega) (by omega)) rfl ?_
        refine Ls_on rfl rfl ?_
        refine Ls_run (run_move rfl) rfl ?_
        refine Ls_on rfl rfl ?_
        try simp only [List.nil_append, List.cons_append] at hs
        refine Ls_call Try.func32 nm32 rfl rfl (same_c w112 _ _ _ l _ _ _ l (rdK_take (hs.rd_at 3 rfl) n hl (by omega)) (hrl.inB hs) (by omega)) rfl ?_
        rintro v113 w114 ⟨rfl, hsS⟩
        replace hs := hs.trans hsS
        rw [decide_eq_true (rfl : l = l)]
        try simp only [List.nil_append, List.cons_append] at hs
        refine Ls_run (run_pick_t rfl rfl) rfl ?_
        refine Ls_run (run_assign rfl) rfl ?_
        refine Ls_nil ?_
        refine Jm_seq ?_
        refine St_ret ?_
        refine Jm_ret1 rfl rfl ?_
        exact ⟨_, rfl, rfl, hs.below⟩
end Go.Proofs.Ytnmeaokfcalbbaa.Lg
