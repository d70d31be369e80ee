/-
  The laws PlanCheck, PlanNodes, PlanDeals, walked. By program (gen/plan4.py).
-/
import Derived.Test.YtnmeaokfcalbbaaPlan3
set_option linter.unusedVariables false
set_option linter.unusedSimpArgs false
namespace Go.Proofs.Ytnmeaokfcalbbaa.Lg
open Go Go.RowKit Go.Proofs.Ytnmeaokfcalbbaa.PlanPure
theorem Sat.ofBelow {w w' : World} (h : Below w.heap.size w w') : Sat w w' [] := ⟨h, fun _ => none, fun _ => rfl, fun b o h => by cases h⟩
def p0 : PlanA := ⟨1, 3, 2, none, 0, 0, 1, 4, 2, 8⟩
def q0 : PlanA := ⟨1, 3, 2, none, 0, 0, 1, 4, 2, 7⟩
def l0 : List Pr := [(3, false, 0), (1, false, 0), (4, false, 0), (6, false, 0)]
def d0 : List (List Pr) := [[(3, false, 0), (6, false, 0)], [(1, false, 0), (4, false, 0)], []]
theorem deal0 : deal p0 [] l0 = d0 := by decide
set_option maxRecDepth 100000 in
set_option maxHeartbeats 4000000 in
theorem pawake_c (w : World) :
    Calls Try.prog 18 [].toArray w (Ret (fun v' w' => v' = .bool true ∧ Sat w w' [])) := by
  have hs := Sat.start w
  refine Calls_body Try.func18 rfl rfl rfl envE_nil ?_
  refine St_seq ?_
  refine St_region ?_
  refine Ls_run (run_assign rfl) rfl ?_
  refine Ls_nil ?_
  refine Jm_seq ?_
  refine St_seq ?_
  refine St_region ?_
  refine Ls_run (run_buildO (pv := [(0, _), (1, _), (2, _), (4, _), (5, _), (6, _), (7, _)]) rfl (bld34_0_1_2_4_5_6_7 _ _ _ _ _ _ _)) rfl ?_
  refine Ls_alloc hs inf34 rfl ?_
  intro b2 w1 hs
  refine Ls_storeAgg hs inf34 rfl rfl rfl rfl (by simp [Value.oneCell']) ?_
  intro w3 hs
  refine Ls_nil ?_
  refine Jm_seq ?_
  refine St_seq ?_
  refine St_region ?_
  refine Ls_run (run_load_agg agg34 inf34 rfl rfl (hs.blk_cells 0 rfl 0 8)) rfl ?_
  refine Ls_alloc hs inf34 rfl ?_
  intro b5 w4 hs
  refine Ls_storeAgg hs inf34 rfl rfl rfl rfl (by simp [Value.oneCell']) ?_
  intro w6 hs
  refine Ls_nil ?_
  refine Jm_seq ?_
  refine St_seq ?_
  refine St_region ?_
  refine Ls_run (run_field Try.underlying34 rfl inf3 (by decide) rfl) rfl ?_
  refine Ls_store hs inf3 rfl rfl rfl rfl ?_
  intro w7 hs
  try simp only [List.set_cons_zero, List.set_cons_succ] at hs
  refine Ls_nil ?_
  refine Jm_seq ?_
  refine St_seq ?_
  refine St_region ?_
  refine Ls_run (run_load_agg agg34 inf34 rfl rfl (hs.blk_cells 1 rfl 0 8)) rfl ?_
  refine Ls_call Try.func19 nm19 rfl rfl (Check_c w7 p0 [] (Rd.none _ 3) (by decide)) rfl ?_
  rintro v8 w9 ⟨rfl, hsQ10⟩
  replace hs := hs.trans hsQ10
  refine Ls_run (run_asB (c := true) (run_eql rfl rfl) (by decide)) rfl ?_
  refine Ls_run (run_move rfl) rfl ?_
  refine Ls_on rfl rfl ?_
  refine Ls_run (run_load_agg agg34 inf34 rfl rfl (hs.blk_cells 0 rfl 0 8)) rfl ?_
  refine Ls_on rfl rfl ?_
  refine Ls_call Try.func19 nm19 rfl rfl (Check_c w9 q0 [] (Rd.none _ 3) (by decide)) rfl ?_
  rintro v11 w12 ⟨rfl, hsQ13⟩
  replace hs := hs.trans hsQ13
  refine Ls_on rfl rfl ?_
  refine Ls_run (run_asB (c := true) (run_eql rfl rfl) (by decide)) rfl ?_
  refine Ls_run (run_pick_t rfl rfl) rfl ?_
  refine Ls_run (run_move rfl) rfl ?_
  refine Ls_on rfl rfl ?_
  refine Ls_run (run_load_agg agg34 inf34 rfl rfl (hs.blk_cells 1 rfl 0 8)) rfl ?_
  refine Ls_on rfl rfl ?_
  refine Ls_call Try.func23 nm23 rfl rfl (Nodes_c w12 p0 [] (Rd.none _ 3) (by decide)) rfl ?_
  rintro v14 w15 ⟨rfl, hsQ16⟩
  replace hs := hs.trans hsQ16
  refine Ls_on rfl rfl ?_
  refine Ls_run (run_asB (c := true) (run_eql rfl rfl) (by decide)) rfl ?_
  refine Ls_run (run_pick_t rfl rfl) rfl ?_
  refine Ls_run (run_move rfl) rfl ?_
  refine Ls_on rfl rfl ?_
  refine Ls_run (run_load_agg agg34 inf34 rfl rfl (hs.blk_cells 1 rfl 0 8)) rfl ?_
  refine Ls_on rfl rfl ?_
  refine Ls_call Try.func21 nm21 rfl rfl (Kind_c w15 p0 [] (Rd.none _ 3) (by decide) 0) rfl ?_
  rintro v17 w18 ⟨rfl, hsQ19⟩
  replace hs := hs.trans hsQ19
  refine Ls_on rfl rfl ?_
  refine Ls_run (run_asB (c := true) (run_eql rfl rfl) (by decide)) rfl ?_
  refine Ls_run (run_pick_t rfl rfl) rfl ?_
  refine Ls_run (run_move rfl) rfl ?_
  refine Ls_on rfl rfl ?_
  refine Ls_run (run_load_agg agg34 inf34 rfl rfl (hs.blk_cells 1 rfl 0 8)) rfl ?_
  refine Ls_on rfl rfl ?_
  refine Ls_call Try.func21 nm21 rfl rfl (Kind_c w18 p0 [] (Rd.none _ 3) (by decide) 2) rfl ?_
  rintro v20 w21 ⟨rfl, hsQ22⟩
  replace hs := hs.trans hsQ22
  refine Ls_on rfl rfl ?_
  refine Ls_run (run_asB (c := true) (run_eql rfl rfl) (by decide)) rfl ?_
  refine Ls_run (run_pick_t rfl rfl) rfl ?_
  refine Ls_run (run_move rfl) rfl ?_
  refine Ls_on rfl rfl ?_
  refine Ls_run (run_load_agg agg34 inf34 rfl rfl (hs.blk_cells 1 rfl 0 8)) rfl ?_
  refine Ls_on rfl rfl ?_
  refine Ls_call Try.func21 nm21 rfl rfl (Kind_c w21 p0 [] (Rd.none _ 3) (by decide) 3) rfl ?_
  rintro v23 w24 ⟨rfl, hsQ25⟩
  replace hs := hs.trans hsQ25
  refine Ls_on rfl rfl ?_
  refine Ls_run (run_asB (c := true) (run_eql rfl rfl) (by decide)) rfl ?_
  refine Ls_run (run_pick_t rfl rfl) rfl ?_
  refine Ls_run (run_move rfl) rfl ?_
  refine Ls_on rfl rfl ?_
  refine Ls_run (run_load_agg agg34 inf34 rfl rfl (hs.blk_cells 1 rfl 0 8)) rfl ?_
  refine Ls_on rfl rfl ?_
  refine Ls_call Try.func25 nm25 rfl rfl (WorkerOf_c w24 p0 [] (Rd.none _ 3) (by decide) 5 (by decide)) rfl ?_
  rintro v26 w27 ⟨rfl, hsQ28⟩
  replace hs := hs.trans hsQ28
  refine Ls_on rfl rfl ?_
  refine Ls_run (run_asB (c := true) (run_eql rfl rfl) (by decide)) rfl ?_
  refine Ls_run (run_pick_t rfl rfl) rfl ?_
  refine Ls_run (run_move rfl) rfl ?_
  refine Ls_on rfl rfl ?_
  refine Ls_run (run_load_agg agg34 inf34 rfl rfl (hs.blk_cells 1 rfl 0 8)) rfl ?_
  refine Ls_on rfl rfl ?_
  refine Ls_call Try.func27 nm27 rfl rfl (StoreOf_c w27 p0 [] (Rd.none _ 3) (by decide) 7 (by decide)) rfl ?_
  rintro v29 w30 ⟨rfl, hsQ31⟩
  replace hs := hs.trans hsQ31
  refine Ls_on rfl rfl ?_
  refine Ls_run (run_asB (c := true) (run_eql rfl rfl) (by decide)) rfl ?_
  refine Ls_run (run_pick_t rfl rfl) rfl ?_
  refine Ls_run (run_move rfl) rfl ?_
  refine Ls_on rfl rfl ?_
  refine Ls_run (run_load_agg agg34 inf34 rfl rfl (hs.blk_cells 1 rfl 0 8)) rfl ?_
  refine Ls_on rfl rfl ?_
  refine Ls_run (run_buildO (pv := [(0, _)]) rfl (bld50_0 _)) rfl ?_
  refine Ls_on rfl rfl ?_
  refine Ls_run (run_buildO (pv := [(0, _)]) rfl (bld50_0 _)) rfl ?_
  refine Ls_on rfl rfl ?_
  refine Ls_run (run_buildO (pv := [(0, _)]) rfl (bld50_0 _)) rfl ?_
  refine Ls_on rfl rfl ?_
  refine Ls_run (run_buildO (pv := [(0, _)]) rfl (bld50_0 _)) rfl ?_
  refine Ls_on rfl rfl ?_
  refine Ls_literal [_, _, _, _] hs Try.underlying41 inf50 rfl rfl rfl rfl rfl rfl ?_
  intro b32 w33 hs
  simp only [List.flatMap_cons, List.flatMap_nil, Value.cells, List.cons_append, List.nil_append] at hs
  refine Ls_on rfl rfl ?_
  refine Ls_call Try.func30 nm30 rfl rfl (Deal_c w33 p0 [] (Rd.none _ 3) (by decide) _ 4 4 l0 (rd_block (hs.is_at 0 rfl).2 3 4 rfl) (by decide) (by decide)) rfl ?_
  rintro v34 w35 ⟨Ad, cd, vd, rfl, hld, hsD⟩
  have hpa := Sat.parts (pre := [_]) hsD hld
  have hrA := hsD.rd_at 0 rfl
  rw [deal0] at hpa hrA ⊢
  have hbel := hs.below.trans (hsD.below.mono hs.below.size)
  replace hs := Sat.start w35
  refine Ls_on rfl rfl ?_
  refine Ls_run (run_buildO (pv := [(0, _)]) rfl (bld50_0 _)) rfl ?_
  refine Ls_on rfl rfl ?_
  refine Ls_run (run_buildO (pv := [(0, _)]) rfl (bld50_0 _)) rfl ?_
  refine Ls_on rfl rfl ?_
  refine Ls_literal [_, _] hs Try.underlying41 inf50 rfl rfl rfl rfl rfl rfl ?_
  intro b36 w37 hs
  simp only [List.flatMap_cons, List.flatMap_nil, Value.cells, List.cons_append, List.nil_append] at hs
  refine Ls_on rfl rfl ?_
  refine Ls_run (run_buildO (pv := [(0, _)]) rfl (bld50_0 _)) rfl ?_
  refine Ls_on rfl rfl ?_
  refine Ls_run (run_buildO (pv := [(0, _)]) rfl (bld50_0 _)) rfl ?_
  refine Ls_on rfl rfl ?_
  refine Ls_literal [_, _] hs Try.underlying41 inf50 rfl rfl rfl rfl rfl rfl ?_
  intro b38 w39 hs
  simp only [List.flatMap_cons, List.flatMap_nil, Value.cells, List.cons_append, List.nil_append] at hs
  refine Ls_on rfl rfl ?_
  refine Ls_literal [_, _, _] hs Try.underlying43 inf41 rfl rfl rfl rfl rfl rfl ?_
  intro b40 w41 hs
  simp only [List.flatMap_cons, List.flatMap_nil, Value.cells, List.cons_append, List.nil_append] at hs
  refine Ls_on rfl rfl ?_
  refine Ls_call Try.func29 nm29 rfl rfl (lists_c w41 _ _ _ _ d0 _ _ _ [_, _, _] d0 (hrA.inB hs) (rd_block (hs.is_at 0 rfl).2 1 3 rfl) (hpa.inB hs) (PartsK.cons (l := [(3, false, 0), (6, false, 0)]) (rd_block (hs.is_at 2 rfl).2 3 2 rfl) (PartsK.cons (l := [(1, false, 0), (4, false, 0)]) (rd_block (hs.is_at 1 rfl).2 3 2 rfl) (PartsK.cons (l := []) (Rd.none _ 3) (PartsK.nil KP _)))) (by decide) (by decide)) rfl ?_
  rintro v42 w43 ⟨rfl, hsL⟩
  replace hs := hs.trans hsL
  rw [decide_eq_true (rfl : d0 = d0)]
  refine Ls_run (run_pick_t rfl rfl) rfl ?_
  refine Ls_run (run_assign rfl) rfl ?_
  refine Ls_nil ?_
  refine Jm_seq ?_
  refine St_ret ?_
  refine Jm_ret1 rfl rfl ?_
  exact ⟨_, rfl, rfl, Sat.ofBelow (hbel.trans (hs.below.mono hbel.size))⟩
set_option maxRecDepth 100000 in
set_option maxHeartbeats 4000000 in
theorem PlanCheck_c (w : World) (p : PlanA) (ops : List (Int × Int × Nat)) (hr : Rd w p.oA p.on p.oc 3 (KOp.flat ops)) (hn : p.on ≤ 9223372036854775807) :
    Calls Try.prog 5 [.agg #[.int .i64 p.pa, .int .i64 p.st, .int .i64 p.wo, .slice p.oA p.on p.oc, .int .i64 p.ag, .int .i64 p.ba, .int .i64 p.wi, .int .i64 p.gu]].toArray w (Ret (fun v' w' => v' = .bool true ∧ Below w.heap.size w w')) := by
  have hs := Sat.start w
  refine Calls_body Try.func5 rfl rfl rfl (envE_cons (i := 0) (v := .agg #[.int .i64 p.pa, .int .i64 p.st, .int .i64 p.wo, .slice p.oA p.on p.oc, .int .i64 p.ag, .int .i64 p.ba, .int .i64 p.wi, .int .i64 p.gu]) rfl envE_nil) ?_
  refine St_seq ?_
  refine St_region ?_
  refine Ls_box hs rfl rfl ?_
  intro b2 w1 hs
  refine Ls_run (run_assign rfl) rfl ?_
  refine Ls_nil ?_
  refine Jm_seq ?_
  refine St_seq ?_
  refine St_seq ?_
  refine St_region ?_
  refine Ls_call Try.func18 nm18 rfl rfl (pawake_c w1) rfl ?_
  rintro v3 w4 ⟨rfl, hsA5⟩
  replace hs := hs.trans hsA5
  refine Ls_run (run_not rfl) rfl ?_
  refine Ls_nil ?_
  refine Jm_seq ?_
  refine St_iff rfl ?_
  refine St_skip ?_
  refine Jm_seq ?_
  refine St_seq ?_
  refine St_draw (fun x => Below w4.heap.size w4 x) mixed ?_
  intro w7 q8
  have hH := q8.below
  replace hs := hs.quiet q8
  refine An_grow hH ?_
  replace hH := Below.refl w7.heap.size w7
  refine An_take 0 rfl (by kernel_rfl) (by kernel_rfl) (by kernel_rfl) (fun _ _ _ h => h) hH (fun x hx => run_load_agg agg34 inf34 rfl rfl ((hs.grow hx).blk_cells 0 rfl 0 8)) rfl ?_
  refine An_take 2 rfl (by kernel_rfl) (by kernel_rfl) (by kernel_rfl) (fun _ _ _ h => h) hH (fun x hx => run_load_agg agg34 inf34 rfl rfl ((hs.grow hx).blk_cells 0 rfl 0 8)) rfl ?_
  refine An_only 1 (by kernel_rfl) rfl ?_
  refine Ls_call Try.func19 nm19 rfl rfl (Check_c w7 p ops (hr.inB hs) hn) rfl ?_
  rintro v9 w10 ⟨rfl, hsQ11⟩
  replace hs := hs.trans hsQ11
  replace hH := (hsQ11.below : Below w7.heap.size w7 w10)
  refine Ls_nil (Jm_An hH ?_)
  refine An_grow hH ?_
  replace hH := Below.refl w10.heap.size w10
  refine An_only 3 (by kernel_rfl) rfl ?_
  refine Ls_call Try.func20 nm20 rfl rfl (rCheck_c w10 p ops (hr.inB hs) hn) rfl ?_
  rintro v12 w13 ⟨rfl, hsQ14⟩
  replace hs := hs.trans hsQ14
  replace hH := (hsQ14.below : Below w10.heap.size w10 w13)
  refine Ls_nil (Jm_An hH ?_)
  refine An_grow hH ?_
  replace hH := Below.refl w13.heap.size w13
  refine An_take 4 rfl (by kernel_rfl) (by kernel_rfl) (by kernel_rfl) (fun _ _ _ h => h) hH (fun x hx => run_asB (c := true) (run_eql rfl rfl) (by simp)) rfl ?_
  refine An_take 5 rfl (by kernel_rfl) (by kernel_rfl) (by kernel_rfl) (fun _ _ _ h => h) hH (fun x hx => run_assign rfl) rfl ?_
  refine An_done (by kernel_rfl) ?_
  refine Jm_seq ?_
  refine St_ret ?_
  refine Jm_ret1 rfl rfl ?_
  exact ⟨_, rfl, rfl, hs.below⟩
set_option maxRecDepth 100000 in
set_option maxHeartbeats 4000000 in
theorem PlanNodes_c (w : World) (p : PlanA) (ops : List (Int × Int × Nat)) (hr : Rd w p.oA p.on p.oc 3 (KOp.flat ops)) (hn : p.on ≤ 9223372036854775807) (a : Int) (key : Nat) (ha : a ≤ 9223372036854775807) (hkey : key < 18446744073709551616) :
    Calls Try.prog 6 [.agg #[.int .i64 p.pa, .int .i64 p.st, .int .i64 p.wo, .slice p.oA p.on p.oc, .int .i64 p.ag, .int .i64 p.ba, .int .i64 p.wi, .int .i64 p.gu], .int .i64 a, .int .u64 (key : Int)].toArray w (Ret (fun v' w' => v' = .bool true ∧ Below w.heap.size w w')) := by
  have hs := Sat.start w
  refine Calls_body Try.func6 rfl rfl rfl (envE_cons (i := 0) (v := .agg #[.int .i64 p.pa, .int .i64 p.st, .int .i64 p.wo, .slice p.oA p.on p.oc, .int .i64 p.ag, .int .i64 p.ba, .int .i64 p.wi, .int .i64 p.gu]) rfl (envE_cons (i := 1) (v := .int .i64 a) rfl (envE_cons (i := 2) (v := .int .u64 (key : Int)) rfl envE_nil))) ?_
  refine St_seq ?_
  refine St_region ?_
  refine Ls_box hs rfl rfl ?_
  intro b2 w1 hs
  refine Ls_run (run_assign rfl) rfl ?_
  refine Ls_nil ?_
  refine Jm_seq ?_
  refine St_seq ?_
  refine St_seq ?_
  refine St_region ?_
  refine Ls_call Try.func18 nm18 rfl rfl (pawake_c w1) rfl ?_
  rintro v3 w4 ⟨rfl, hsA5⟩
  replace hs := hs.trans hsA5
  refine Ls_run (run_not rfl) rfl ?_
  refine Ls_nil ?_
  refine Jm_seq ?_
  refine St_iff rfl ?_
  refine St_skip ?_
  refine Jm_seq ?_
  refine St_seq ?_
  refine St_seq ?_
  refine St_region ?_
  refine Ls_run (run_assign rfl) rfl ?_
  refine Ls_nil ?_
  refine Jm_seq ?_
  refine St_block ?_
  obtain ⟨En7, hEn7⟩ : ∃ F : Nat → Env, ∀ (i : Nat), F i = [(1, .int .i64 a), (2, .int .u64 (key : Int)), (3, .pointer (some ⟨b2, 0, none⟩)), (7, .int .i64 ((i : Int) - 1))] := ⟨(fun (i : Nat) => [(1, .int .i64 a), (2, .int .u64 (key : Int)), (3, .pointer (some ⟨b2, 0, none⟩)), (7, .int .i64 ((i : Int) - 1))]), fun _ => rfl⟩
  obtain ⟨Iv8, hIv8⟩ : ∃ F : Nat → World → Prop, ∀ (i : Nat) (wr : World), F i wr = (Sat w wr [Blk b2 [.int .i64 p.pa, .int .i64 p.st, .int .i64 p.wo, .slice p.oA p.on p.oc, .int .i64 p.ag, .int .i64 p.ba, .int .i64 p.wi, .int .i64 p.gu] 34] ∧ i ≤ 12) := ⟨(fun (i : Nat) => fun (wr : World) => Sat w wr [Blk b2 [.int .i64 p.pa, .int .i64 p.st, .int .i64 p.wo, .slice p.oA p.on p.oc, .int .i64 p.ag, .int .i64 p.ba, .int .i64 p.wi, .int .i64 p.gu] 34] ∧ i ≤ 12), fun _ _ => rfl⟩
  obtain ⟨ms9, hms9⟩ : ∃ F : Nat → Nat, ∀ (i : Nat), F i = (12 - i) := ⟨(fun (i : Nat) => 12 - i), fun _ => rfl⟩
  refine St_loop En7 Iv8 ms9 (0) ?_ ?_ ?_
  · skip
    rw [hIv8]
    exact ⟨hs, by omega⟩
  · rw [hEn7]; exact (subE_cons rfl (subE_cons rfl (subE_cons rfl (subE_cons rfl subE_nil))))
  rintro i wr hI10
  rw [hIv8] at hI10
  obtain ⟨hs, hi⟩ := hI10
  refine St_eqE (hEn7 _) ?_
  refine St_seq ?_
  refine St_seq ?_
  refine St_region ?_
  refine Ls_run (run_move rfl) rfl ?_
  refine Ls_run (run_lss rfl rfl) rfl ?_
  refine Ls_nil ?_
  refine Jm_seq ?_
  refine St_ifP rfl (fun h11 => ?_) (fun h11 => ?_)
  · skip
    refine St_skip ?_
    refine Jm_seq ?_
    refine St_seq ?_
    refine St_block ?_
    refine St_seq ?_
    refine St_draw (fun x => Below wr.heap.size wr x) mixed ?_
    intro w12 q13
    have hH := q13.below
    replace hs := hs.quiet q13
    refine An_grow hH ?_
    replace hH := Below.refl w12.heap.size w12
    refine An_take 0 rfl (by kernel_rfl) (by kernel_rfl) (by kernel_rfl) (fun _ _ _ h => h) hH (fun x hx => run_load_agg agg34 inf34 rfl rfl ((hs.grow hx).blk_cells 0 rfl 0 8)) rfl ?_
    refine An_take 1 rfl (by kernel_rfl) (by kernel_rfl) (by kernel_rfl) (fun _ _ _ h => h) hH (fun x hx => run_move rfl) rfl ?_
    refine An_take 3 rfl (by kernel_rfl) (by kernel_rfl) (by kernel_rfl) (fun _ _ _ h => h) hH (fun x hx => run_load_agg agg34 inf34 rfl rfl ((hs.grow hx).blk_cells 0 rfl 0 8)) rfl ?_
    refine An_take 4 rfl (by kernel_rfl) (by kernel_rfl) (by kernel_rfl) (fun _ _ _ h => h) hH (fun x hx => run_move rfl) rfl ?_
    refine An_only 2 (by kernel_rfl) rfl ?_
    refine Ls_call Try.func21 nm21 rfl rfl (Kind_c w12 p ops (hr.inB hs) hn ((i : Int) - 1)) rfl ?_
    rintro v14 w15 ⟨rfl, hsQ16⟩
    replace hs := hs.trans hsQ16
    replace hH := (hsQ16.below : Below w12.heap.size w12 w15)
    refine Ls_nil (Jm_An hH ?_)
    refine An_grow hH ?_
    replace hH := Below.refl w15.heap.size w15
    refine An_only 5 (by kernel_rfl) rfl ?_
    refine Ls_call Try.func22 nm22 rfl rfl (rKind_c w15 p ops (hr.inB hs) hn ((i : Int) - 1)) rfl ?_
    rintro v17 w18 ⟨rfl, hsQ19⟩
    replace hs := hs.trans hsQ19
    replace hH := (hsQ19.below : Below w15.heap.size w15 w18)
    refine Ls_nil (Jm_An hH ?_)
    refine An_grow hH ?_
    replace hH := Below.refl w18.heap.size w18
    refine An_take 6 rfl (by kernel_rfl) (by kernel_rfl) (by kernel_rfl) (fun _ _ _ h => h) hH (fun x hx => run_asB (c := false) (run_neq rfl rfl) (by simp)) rfl ?_
    refine An_done (by kernel_rfl) ?_
    refine Jm_seq ?_
    refine St_iff rfl ?_
    refine St_skip ?_
    refine Jm_block_normal (Jm_seq ?_)
    refine St_region ?_
    refine Ls_run (run_move rfl) rfl ?_
    refine Ls_run (run_add rfl rfl (show _ = (((i + 1 : Nat) : Int) - 1) by rw [w64 (by omega)]; omega)) rfl ?_
    refine Ls_run (run_assign rfl) rfl ?_
    refine Ls_nil ?_
    refine Jm_round (i + 1) ?_ ?_ ?_
    · rw [hEn7]; exact (subE_cons rfl (subE_cons rfl (subE_cons rfl (subE_cons rfl subE_nil))))
    · skip
      rw [hIv8]
      exact ⟨hs, by omega⟩
    · skip
      rw [hms9, hms9]
      omega
  · skip
    refine St_exit ?_
    refine Jm_then_exit (Jm_then_exit (Jm_block_same (Jm_seq ?_)))
    refine St_seq ?_
    refine St_draw (fun x => Below wr.heap.size wr x) mixed ?_
    intro w21 q22
    have hH := q22.below
    replace hs := hs.quiet q22
    refine An_grow hH ?_
    replace hH := Below.refl w21.heap.size w21
    refine An_take 0 rfl (by kernel_rfl) (by kernel_rfl) (by kernel_rfl) (fun _ _ _ h => h) hH (fun x hx => run_load_agg agg34 inf34 rfl rfl ((hs.grow hx).blk_cells 0 rfl 0 8)) rfl ?_
    refine An_take 2 rfl (by kernel_rfl) (by kernel_rfl) (by kernel_rfl) (fun _ _ _ h => h) hH (fun x hx => run_load_agg agg34 inf34 rfl rfl ((hs.grow hx).blk_cells 0 rfl 0 8)) rfl ?_
    refine An_only 1 (by kernel_rfl) rfl ?_
    refine Ls_call Try.func23 nm23 rfl rfl (Nodes_c w21 p ops (hr.inB hs) hn) rfl ?_
    rintro v23 w24 ⟨rfl, hsQ25⟩
    replace hs := hs.trans hsQ25
    replace hH := (hsQ25.below : Below w21.heap.size w21 w24)
    refine Ls_nil (Jm_An hH ?_)
    refine An_grow hH ?_
    replace hH := Below.refl w24.heap.size w24
    refine An_only 3 (by kernel_rfl) rfl ?_
    refine Ls_call Try.func24 nm24 rfl rfl (rNodes_c w24 p ops (hr.inB hs) hn) rfl ?_
    rintro v26 w27 ⟨rfl, hsQ28⟩
    replace hs := hs.trans hsQ28
    replace hH := (hsQ28.below : Below w24.heap.size w24 w27)
    refine Ls_nil (Jm_An hH ?_)
    refine An_grow hH ?_
    replace hH := Below.refl w27.heap.size w27
    refine An_take 4 rfl (by kernel_rfl) (by kernel_rfl) (by kernel_rfl) (fun _ _ _ h => h) hH (fun x hx => run_asB (c := true) (run_eql rfl rfl) (by simp)) rfl ?_
    refine An_take 5 rfl (by kernel_rfl) (by kernel_rfl) (by kernel_rfl) (fun _ _ _ h => h) hH (fun x hx => run_move rfl) rfl ?_
    refine An_take_on 6 rfl (by kernel_rfl) (by kernel_rfl) (by kernel_rfl) rfl rfl (fun _ _ _ h => h) hH (fun x hx => run_load_agg agg34 inf34 rfl rfl ((hs.grow hx).blk_cells 0 rfl 0 8)) rfl ?_
    refine An_take_on 7 rfl (by kernel_rfl) (by kernel_rfl) (by kernel_rfl) rfl rfl (fun _ _ _ h => h) hH (fun x hx => run_move rfl) rfl ?_
    refine An_take_on 9 rfl (by kernel_rfl) (by kernel_rfl) (by kernel_rfl) rfl rfl (fun _ _ _ h => h) hH (fun x hx => run_load_agg agg34 inf34 rfl rfl ((hs.grow hx).blk_cells 0 rfl 0 8)) rfl ?_
    refine An_take_on 10 rfl (by kernel_rfl) (by kernel_rfl) (by kernel_rfl) rfl rfl (fun _ _ _ h => h) hH (fun x hx => run_move rfl) rfl ?_
    refine An_only 8 (by kernel_rfl) rfl ?_
    refine Ls_on rfl rfl ?_
    refine Ls_call Try.func21 nm21 rfl rfl (Kind_c w27 p ops (hr.inB hs) hn a) rfl ?_
    rintro v29 w30 ⟨rfl, hsQ31⟩
    replace hs := hs.trans hsQ31
    replace hH := (hsQ31.below : Below w27.heap.size w27 w30)
    refine Ls_nil (Jm_An hH ?_)
    refine An_grow hH ?_
    replace hH := Below.refl w30.heap.size w30
    refine An_only 11 (by kernel_rfl) rfl ?_
    refine Ls_on rfl rfl ?_
    refine Ls_call Try.func22 nm22 rfl rfl (rKind_c w30 p ops (hr.inB hs) hn a) rfl ?_
    rintro v32 w33 ⟨rfl, hsQ34⟩
    replace hs := hs.trans hsQ34
    replace hH := (hsQ34.below : Below w30.heap.size w30 w33)
    refine Ls_nil (Jm_An hH ?_)
    refine An_grow hH ?_
    replace hH := Below.refl w33.heap.size w33
    refine An_take_on 12 rfl (by kernel_rfl) (by kernel_rfl) (by kernel_rfl) rfl rfl (fun _ _ _ h => h) hH (fun x hx => run_asB (c := true) (run_eql rfl rfl) (by simp)) rfl ?_
    refine An_take 13 rfl (by kernel_rfl) (by kernel_rfl) (by kernel_rfl) (fun _ _ _ h => h) hH (fun x hx => run_pick_t rfl rfl) rfl ?_
    refine An_take 14 rfl (by kernel_rfl) (by kernel_rfl) (by kernel_rfl) (fun _ _ _ h => h) hH (fun x hx => run_move rfl) rfl ?_
    refine An_take_on 15 rfl (by kernel_rfl) (by kernel_rfl) (by kernel_rfl) rfl rfl (fun _ _ _ h => h) hH (fun x hx => run_load_agg agg34 inf34 rfl rfl ((hs.grow hx).blk_cells 0 rfl 0 8)) rfl ?_
    refine An_take_on 16 rfl (by kernel_rfl) (by kernel_rfl) (by kernel_rfl) rfl rfl (fun _ _ _ h => h) hH (fun x hx => run_move rfl) rfl ?_
    refine An_take_on 18 rfl (by kernel_rfl) (by kernel_rfl) (by kernel_rfl) rfl rfl (fun _ _ _ h => h) hH (fun x hx => run_load_agg agg34 inf34 rfl rfl ((hs.grow hx).blk_cells 0 rfl 0 8)) rfl ?_
    refine An_take_on 19 rfl (by kernel_rfl) (by kernel_rfl) (by kernel_rfl) rfl rfl (fun _ _ _ h => h) hH (fun x hx => run_move rfl) rfl ?_
    refine An_only 17 (by kernel_rfl) rfl ?_
    refine Ls_on rfl rfl ?_
    refine Ls_call Try.func25 nm25 rfl rfl (WorkerOf_c w33 p ops (hr.inB hs) hn a ha) rfl ?_
    rintro v35 w36 ⟨rfl, hsQ37⟩
    replace hs := hs.trans hsQ37
    replace hH := (hsQ37.below : Below w33.heap.size w33 w36)
    refine Ls_nil (Jm_An hH ?_)
    refine An_grow hH ?_
    replace hH := Below.refl w36.heap.size w36
    refine An_only 20 (by kernel_rfl) rfl ?_
    refine Ls_on rfl rfl ?_
    refine Ls_call Try.func26 nm26 rfl rfl (rWorkerOf_c w36 p ops (hr.inB hs) hn a ha) rfl ?_
    rintro v38 w39 ⟨rfl, hsQ40⟩
    replace hs := hs.trans hsQ40
    replace hH := (hsQ40.below : Below w36.heap.size w36 w39)
    refine Ls_nil (Jm_An hH ?_)
    refine An_grow hH ?_
    replace hH := Below.refl w39.heap.size w39
    refine An_take_on 21 rfl (by kernel_rfl) (by kernel_rfl) (by kernel_rfl) rfl rfl (fun _ _ _ h => h) hH (fun x hx => run_asB (c := true) (run_eql rfl rfl) (by simp)) rfl ?_
    refine An_take 22 rfl (by kernel_rfl) (by kernel_rfl) (by kernel_rfl) (fun _ _ _ h => h) hH (fun x hx => run_pick_t rfl rfl) rfl ?_
    refine An_take 23 rfl (by kernel_rfl) (by kernel_rfl) (by kernel_rfl) (fun _ _ _ h => h) hH (fun x hx => run_move rfl) rfl ?_
    refine An_take_on 24 rfl (by kernel_rfl) (by kernel_rfl) (by kernel_rfl) rfl rfl (fun _ _ _ h => h) hH (fun x hx => run_load_agg agg34 inf34 rfl rfl ((hs.grow hx).blk_cells 0 rfl 0 8)) rfl ?_
    refine An_take_on 25 rfl (by kernel_rfl) (by kernel_rfl) (by kernel_rfl) rfl rfl (fun _ _ _ h => h) hH (fun x hx => run_move rfl) rfl ?_
    refine An_take_on 27 rfl (by kernel_rfl) (by kernel_rfl) (by kernel_rfl) rfl rfl (fun _ _ _ h => h) hH (fun x hx => run_load_agg agg34 inf34 rfl rfl ((hs.grow hx).blk_cells 0 rfl 0 8)) rfl ?_
    refine An_take_on 28 rfl (by kernel_rfl) (by kernel_rfl) (by kernel_rfl) rfl rfl (fun _ _ _ h => h) hH (fun x hx => run_move rfl) rfl ?_
    refine An_only 26 (by kernel_rfl) rfl ?_
    refine Ls_on rfl rfl ?_
    refine Ls_call Try.func27 nm27 rfl rfl (StoreOf_c w39 p ops (hr.inB hs) hn key hkey) rfl ?_
    rintro v41 w42 ⟨rfl, hsQ43⟩
    replace hs := hs.trans hsQ43
    replace hH := (hsQ43.below : Below w39.heap.size w39 w42)
    refine Ls_nil (Jm_An hH ?_)
    refine An_grow hH ?_
    replace hH := Below.refl w42.heap.size w42
    refine An_only 29 (by kernel_rfl) rfl ?_
    refine Ls_on rfl rfl ?_
    refine Ls_call Try.func28 nm28 rfl rfl (rStoreOf_c w42 p ops (hr.inB hs) hn key hkey) rfl ?_
    rintro v44 w45 ⟨rfl, hsQ46⟩
    replace hs := hs.trans hsQ46
    replace hH := (hsQ46.below : Below w42.heap.size w42 w45)
    refine Ls_nil (Jm_An hH ?_)
    refine An_grow hH ?_
    replace hH := Below.refl w45.heap.size w45
    refine An_take_on 30 rfl (by kernel_rfl) (by kernel_rfl) (by kernel_rfl) rfl rfl (fun _ _ _ h => h) hH (fun x hx => run_asB (c := true) (run_eql rfl rfl) (by simp)) rfl ?_
    refine An_take 31 rfl (by kernel_rfl) (by kernel_rfl) (by kernel_rfl) (fun _ _ _ h => h) hH (fun x hx => run_pick_t rfl rfl) rfl ?_
    refine An_take 32 rfl (by kernel_rfl) (by kernel_rfl) (by kernel_rfl) (fun _ _ _ h => h) hH (fun x hx => run_assign rfl) rfl ?_
    refine An_done (by kernel_rfl) ?_
    refine Jm_seq ?_
    refine St_ret ?_
    refine Jm_ret1 rfl rfl ?_
    exact ⟨_, rfl, rfl, hs.below⟩
set_option maxRecDepth 100000 in
set_option maxHeartbeats 4000000 in
theorem PlanDeals_c (w : World) (p : PlanA) (ops : List (Int × Int × Nat)) (hr : Rd w p.oA p.on p.oc 3 (KOp.flat ops)) (hn : p.on ≤ 9223372036854775807) (A : Option Addr) (n c : Nat) (l : List Pr) (hrl : Rd w A n c 3 (KP.flat l)) (hb : ∀ x ∈ l, 0 ≤ x.1 ∧ x.1 < 18446744073709551616) (hnl : n * 24 ≤ 140737488355300) :
    Calls Try.prog 7 [.agg #[.int .i64 p.pa, .int .i64 p.st, .int .i64 p.wo, .slice p.oA p.on p.oc, .int .i64 p.ag, .int .i64 p.ba, .int .i64 p.wi, .int .i64 p.gu], .slice A n c].toArray w (Ret (fun v' w' => v' = .bool true ∧ Below w.heap.size w w')) := by
  have hs := Sat.start w
  have hl : l.length = n := by have := hrl.len; rw [El.flat_length] at this; exact Nat.eq_of_mul_eq_mul_right (by decide) this
  refine Calls_body Try.func7 rfl rfl rfl (envE_cons (i := 0) (v := .agg #[.int .i64 p.pa, .int .i64 p.st, .int .i64 p.wo, .slice p.oA p.on p.oc, .int .i64 p.ag, .int .i64 p.ba, .int .i64 p.wi, .int .i64 p.gu]) rfl (envE_cons (i := 1) (v := .slice A n c) rfl envE_nil)) ?_
  refine St_seq ?_
  refine St_region ?_
  refine Ls_box hs rfl rfl ?_
  intro b2 w1 hs
  refine Ls_run (run_assign rfl) rfl ?_
  refine Ls_nil ?_
  refine Jm_seq ?_
  refine St_seq ?_
  refine St_seq ?_
  refine St_region ?_
  refine Ls_call Try.func18 nm18 rfl rfl (pawake_c w1) rfl ?_
  rintro v3 w4 ⟨rfl, hsA5⟩
  replace hs := hs.trans hsA5
  refine Ls_run (run_not rfl) rfl ?_
  refine Ls_nil ?_
  refine Jm_seq ?_
  refine St_iff rfl ?_
  refine St_skip ?_
  refine Jm_seq ?_
  refine St_seq ?_
  refine St_draw (fun x => Below w4.heap.size w4 x) mixed ?_
  intro w7 q8
  have hH := q8.below
  replace hs := hs.quiet q8
  refine An_grow hH ?_
  replace hH := Below.refl w7.heap.size w7
  refine An_take 0 rfl (by kernel_rfl) (by kernel_rfl) (by kernel_rfl) (fun _ _ _ h => h) hH (fun x hx => run_load_agg agg34 inf34 rfl rfl ((hs.grow hx).blk_cells 0 rfl 0 8)) rfl ?_
  refine An_take 1 rfl (by kernel_rfl) (by kernel_rfl) (by kernel_rfl) (fun _ _ _ h => h) hH (fun x hx => run_move rfl) rfl ?_
  refine An_take 3 rfl (by kernel_rfl) (by kernel_rfl) (by kernel_rfl) (fun _ _ _ h => h) hH (fun x hx => run_load_agg agg34 inf34 rfl rfl ((hs.grow hx).blk_cells 0 rfl 0 8)) rfl ?_
  refine An_take 4 rfl (by kernel_rfl) (by kernel_rfl) (by kernel_rfl) (fun _ _ _ h => h) hH (fun x hx => run_move rfl) rfl ?_
  refine An_only 2 (by kernel_rfl) rfl ?_
  refine Ls_call Try.func30 nm30 rfl rfl (Deal_c w7 p ops (hr.inB hs) hn A n c l (hrl.inB hs) hb hnl) rfl ?_
  rintro v9 w10 ⟨AD1, cD1, vsD1, rfl, hlD1, hsD1⟩
  have hpD1 := Sat.parts (pre := [_]) hsD1 hlD1
  have hrD1 := hsD1.rd_at 0 rfl
  obtain ⟨hwD1, hzD1⟩ : ∃ x, x = w10 := ⟨_, rfl⟩
  have hgD1 := hsD1.below
  replace hs := hs.grow hsD1.below
  replace hH := (hgD1 : Below w7.heap.size w7 w10)
  refine Ls_nil (Jm_An hH ?_)
  refine An_grow hH ?_
  replace hH := Below.refl w10.heap.size w10
  refine An_only 5 (by kernel_rfl) rfl ?_
  refine Ls_call Try.func31 nm31 rfl rfl (rDeal_c w10 p ops (hr.inB hs) hn A n c l (hrl.inB hs) hb hnl) rfl ?_
  rintro v11 w12 ⟨AD2, cD2, vsD2, rfl, hlD2, hsD2⟩
  have hpD2 := Sat.parts (pre := [_]) hsD2 hlD2
  have hrD2 := hsD2.rd_at 0 rfl
  obtain ⟨hwD2, hzD2⟩ : ∃ x, x = w12 := ⟨_, rfl⟩
  have hgD2 := hsD2.below
  replace hs := hs.grow hsD2.below
  replace hH := (hgD2 : Below w10.heap.size w10 w12)
  refine Ls_nil (Jm_An hH ?_)
  refine An_grow hH ?_
  replace hH := Below.refl w12.heap.size w12
  refine An_only 6 (by kernel_rfl) rfl ?_
  refine Ls_call Try.func29 nm29 rfl rfl (lists_c w12 _ _ _ _ (deal p ops l) _ _ _ _ (deal p ops l) (hrD1.grow hgD2) hrD2 (hpD1.grow hgD2) hpD2 (fun x hx => by have := deal_rows x hx; omega) (by have := hrD1.cap; have q := hlD1; have e := deal_len p ops l; omega)) rfl ?_
  rintro v13 w14 ⟨rfl, hsL⟩
  replace hs := hs.trans hsL
  rw [decide_eq_true (rfl : deal p ops l = deal p ops l)]
  replace hH := (hsL.below : Below w12.heap.size w12 w14)
  refine Ls_nil (Jm_An hH ?_)
  refine An_grow hH ?_
  replace hH := Below.refl w14.heap.size w14
  refine An_take 7 rfl (by kernel_rfl) (by kernel_rfl) (by kernel_rfl) (fun _ _ _ h => h) hH (fun x hx => run_assign rfl) rfl ?_
  refine An_done (by kernel_rfl) ?_
  refine Jm_seq ?_
  refine St_ret ?_
  refine Jm_ret1 rfl rfl ?_
  exact ⟨_, rfl, rfl, hs.below⟩
end Go.Proofs.Ytnmeaokfcalbbaa.Lg
