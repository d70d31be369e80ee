/-
  The laws PlanCheck, PlanNodes, PlanDeals, walked. By program (gen/plan4.py).
-/
import Derived.Test.YtnmeaokfcalbbaaPlan3
set_option linter.unusedVariables false
set_option linter.unusedSimpArgs false
namespace Go.Proofs.Ytnmeaokfcalbbaa.Lg
open Go Go.RowKit Go.Proofs.Ytnmeaokfcalbbaa.PlanPure
theorem Sat.ofBelow {w w' : World} (h : Below w.heap.size w w') : Sat w w' [] := ⟨h, fun _ => none, fun _ => rfl, fun b o h => by cases h⟩
def p0 : PlanA := ⟨1, 3, 2, none, 0, 0, 1, 4, 2, 8⟩
def q0 : PlanA := ⟨1, 3, 2, none, 0, 0, 1, 4, 2, 7⟩
def l0 : List Pr := [(3, false, 0), (1, false, 0), (4, false, 0), (6, false, 0)]
def d0 : List (List Pr) := [[(3, false, 0), (6, false, 0)], [(1, false, 0), (4, false, 0)], []]
theorem deal0 : deal p0 [] l0 = d0 := by decide
set_option maxRecDepth 100000 in
set_option maxHeartbeats 4000000 in
theorem pawake_c (w : World) :
    Calls Try.prog 18 [].toArray w (Ret (fun v' w' => v' = .bool true ∧ Sat w w' [])) := by
  have hs := Sat.start w
  refine Calls_body Try.func18 rfl rfl rfl envE_nil ?_
  refine St_seq ?_
  refine St_region ?_
  refine Ls_run (run_assign rfl) rfl ?_
  refine Ls_nil ?_
  refine Jm_seq ?_
  refine St_seq ?_
  refine St_region ?_
  refine Ls_run (run_buildO (pv := [(0, _), (1, _), (2, _), (4, _), (5, _), (6, _), (7, _)]) rfl (bld34_0_1_2_4_5_6_7 _ _ _ _ _ _ _)) rfl ?_
  refine Ls_alloc hs inf34 rfl ?_
  intro b2 w1 hs
  refine Ls_storeAgg hs inf34 rfl rfl rfl rfl (by simp [Value.oneCell']) ?_
  intro w3 hs
  refine Ls_nil ?_
  refine Jm_seq ?_
  refine St_seq ?_
  refine St_region ?_
  refine Ls_run (run_load_agg agg34 inf34 rfl rfl (hs.blk_cells 0 rfl 0 8)) rfl ?_
  refine Ls_alloc hs inf34 rfl ?_
  intro b5 w4 hs
  refine Ls_storeAgg hs inf34 rfl rfl rfl rfl (by simp [Value.oneCell']) ?_
  intro w6 hs
  refine Ls_nil ?_
  refine Jm_seq ?_
  refine St_seq ?_
  refine St_region ?_
  refine Ls_run (run_field Try.underlying34 rfl inf3 (by decide) rfl) rfl ?_
  refine Ls_store hs inf3 rfl rfl rfl rfl ?_
  intro w7 hs
  try simp only [List.set_cons_zero, List.set_cons_succ] at hs
  refine Ls_nil ?_
  refine Jm_seq ?_
  refine St_seq ?_
  refine St_region ?_
  refine Ls_run (run_load_agg agg34 inf34 rfl rfl (hs.blk_cells 1 rfl 0 8)) rfl ?_
  refine Ls_call Try.func19 nm19 rfl rfl (Check_c w7 p0 [] (Rd.none _ 3) (by decide)) rfl ?_
  rintro v8 w9 ⟨rfl, hsQ10⟩
  replace hs := hs.trans hsQ10
  refine Ls_run (run_asB (c := true) (run_eql rfl rfl) (by decide)) rfl ?_
  refine Ls_run (run_move rfl) rfl ?_
  refine Ls_on rfl rfl ?_
  refine Ls_run (run_load_agg agg34 inf34 rfl rfl (hs.blk_cells 0 rfl 0 8)) rfl ?_
  refine Ls_on rfl rfl ?_
  refine Ls_call Try.func19 nm19 rfl rfl (Check_c w9 q0 [] (Rd.none _ 3) (by decide)) rfl ?_
  rintro v11 w12 ⟨rfl, hsQ13⟩
  replace hs := hs.trans hsQ13
  refine Ls_on rfl rfl ?_
  refine Ls_run (run_asB (c := true) (run_eql rfl rfl) (by decide)) rfl ?_
  refine Ls_run (run_pick_t rfl rfl) rfl ?_
  refine Ls_run (run_move rfl) rfl ?_
  refine Ls_on rfl rfl ?_
  refine Ls_run (run_load_agg agg34 inf34 rfl rfl (hs.blk_cells 1 rfl 0 8)) rfl ?_
  refine Ls_on rfl rfl ?_
  refine Ls_call Try.func23 nm23 rfl rfl (Nodes_c w12 p0 [] (Rd.none _ 3) (by decide)) rfl ?_
  rintro v14 w15 ⟨rfl, hsQ16⟩
  replace hs := hs.trans hsQ16
  refine Ls_on rfl rfl ?_
  refine Ls_run (run_asB (c := true) (run_eql rfl rfl) (by decide)) rfl ?_
  refine Ls_run (run_pick_t rfl rfl) rfl ?_
  refine Ls_run (run_move rfl) rfl ?_
  refine Ls_on rfl rfl ?_
  refine Ls_run (run_load_agg agg34 inf34 rfl rfl (hs.blk_cells 1 rfl 0 8)) rfl ?_
  refine Ls_on rfl rfl ?_
  refine Ls_call Try.func21 nm21 rfl rfl (Kind_c w15 p0 [] (Rd.none _ 3) (by decide) 0) rfl ?_
  rintro v17 w18 ⟨rfl, hsQ19⟩
  replace hs := hs.trans hsQ19
  refine Ls_on rfl rfl ?_
  refine Ls_run (run_asB (c := true) (run_eql rfl rfl) (by decide)) rfl ?_
  refine Ls_run (run_pick_t rfl rfl) rfl ?_
  refine Ls_run (run_move rfl) rfl ?_
  refine Ls_on rfl rfl ?_
  refine Ls_run (run_load_agg agg34 inf34 rfl rfl (hs.blk_cells 1 rfl 0 8)) rfl ?_
  refine Ls_on rfl rfl ?_
  refine Ls_call Try.func21 nm21 rfl rfl (Kind_c w18 p0 [] (Rd.none _ 3) (by decide) 2) rfl ?_
  rintro v20 w21 ⟨rfl, hsQ22⟩
  replace hs := hs.trans hsQ22
  refine Ls_on rfl rfl ?_
  refine Ls_run (run_asB (c := true) (run_eql rfl rfl) (by decide)) rfl ?_
  refine Ls_run (run_pick_t rfl rfl) rfl ?_
  refine Ls_run (run_move rfl) rfl ?_
  refine Ls_on rfl rfl ?_
  refine Ls_run (run_load_agg agg34 inf34 rfl rfl (hs.blk_cells 1 rfl 0 8)) rfl ?_
  refine Ls_on rfl rfl ?_
  refine Ls_call Try.func21 nm21 rfl rfl (Kind_c w21 p0 [] (Rd.none _ 3) (by decide) 3) rfl ?_
  rintro v23 w24 ⟨rfl, hsQ25⟩
  replace hs := hs.trans hsQ25
  refine Ls_on rfl rfl ?_
  refine Ls_run (run_asB (c := true) (run_eql rfl rfl) (by decide)) rfl ?_
  refine Ls_run (run_pick_t rfl rfl) rfl ?_
  refine Ls_run (run_move rfl) rfl ?_
  refine Ls_on rfl rfl ?_
  refine Ls_run (run_load_agg agg34 inf34 rfl rfl (hs.blk_cells 1 rfl 0 8)) rfl ?_
  refine Ls_on rfl rfl ?_
  refine Ls_call Try.func25 nm25 rfl rfl (WorkerOf_c w24 p0 [] (Rd.none _ 3) (by decide) 5 (by decide)) rfl ?_
  rintro v26 w27 ⟨rfl, hsQ28⟩
  replace hs := hs.trans hsQ28
  refine Ls_on rfl rfl ?_
  refine Ls_run (run_asB (c := true) (run_eql rfl rfl) (by decide)) rfl ?_
  refine Ls_run (run_pick_t rfl rfl) rfl ?_
  refine Ls_run (run_move rfl) rfl ?_
  refine Ls_on rfl rfl ?_
  refine Ls_run (run_load_agg agg34 inf34 rfl rfl (hs.blk_cells 1 rfl 0 8)) rfl ?_
  refine Ls_on rfl rfl ?_
  refine Ls_call Try.func27 nm27 rfl rfl (StoreOf_c w27 p0 [] (Rd.none _ 3) (by decide) 7 (by decide)) rfl ?_
  rintro v29 w30 ⟨rfl, hsQ31⟩
  replace hs := hs.trans hsQ31
  refine Ls_on rfl rfl ?_
  refine Ls_run (run_asB (c := true) (run_eql rfl rfl) (by decide)) rfl ?_
  refine Ls_run (run_pick_t rfl rfl) rfl ?_
  refine Ls_run (run_move rfl) rfl ?_
  refine Ls_on rfl rfl ?_
  refine Ls_run (run_load_agg agg34 inf34 rfl rfl (hs.blk_cells 1 rfl 0 8)) rfl ?_
  refine Ls_on rfl rfl ?_
  refine Ls_run (run_buildO (pv := [(0, _)]) rfl (bld50_0 _)) rfl ?_
  refine Ls_on rfl rfl ?_
  refine Ls_run (run_buildO (pv := [(0, _)]) rfl (bld50_0 _)) rfl ?_
  refine Ls_on rfl rfl ?_
  refine Ls_run (run_buildO (pv := [(0, _)]) rfl (bld50_0 _)) rfl ?_
  refine Ls_on rfl rfl ?_
  refine Ls_run (run_buildO (pv := [(0, _)]) rfl (bld50_0 _)) rfl ?_
  refine Ls_on rfl rfl ?_
  refine Ls_literal [_, _, _, _] hs Try.underlying41 inf50 rfl rfl rfl rfl rfl rfl ?_
  intro b32 w33 hs
  simp only [List.flatMap_cons, List.flatMap_nil, Value.cells, List.cons_append, List.nil_append] at hs
  refine Ls_on rfl rfl ?_
  refine Ls_call Try.func30 nm30 rfl rfl (Deal_c w33 p0 [] (Rd.none _ 3) (by decide) _ 4 4 l0 (rd_block (hs.is_at 0 rfl).2 3 4 rfl) (by decide) (by decide)) rfl ?_
  rintro v34 w35 ⟨Ad, cd, vd, rfl, hld, hsD⟩
  have hpa := Sat.parts (pre := [_]) hsD hld
  have hrA := hsD.rd_at 0 rfl
  rw [deal0] at hpa hrA ⊢
  have hbel := hs.below.trans (hsD.below.mono hs.below.size)
  replace hs := Sat.start w35
  refine Ls_on rfl rfl ?_
  refine Ls_run (run_buildO (pv := [(0, _)]) rfl (bld50_0 _)) rfl ?_
  refine Ls_on rfl rfl ?_
  refine Ls_run (run_buildO (pv := [(0, _)]) rfl (bld50_0 _)) rfl ?_
  refine Ls_on rfl rfl ?_
  refine Ls_literal [_, _] hs Try.underlying41 inf50 rfl rfl rfl rfl rfl rfl ?_
  intro b36 w37 hs
  simp only [List.flatMap_cons, List.flatMap_nil, Value.cells, List.cons_append, List.nil_append] at hs
  refine Ls_on rfl rfl ?_
  refine Ls_run (run_buildO (pv := [(0, _)]) rfl (bld50_0 _)) rfl ?_
  refine Ls_on rfl rfl ?_
  refine Ls_run (run_buildO (pv := [(0, _)]) rfl (bld50_0 _)) rfl ?_
  refine Ls_on rfl rfl ?_
  refine Ls_literal [_, _] hs Try.underlying41 inf50 rfl rfl rfl rfl rfl rfl ?_
  intro b38 w39 hs
  simp only [List.flatMap_cons, List.flatMap_nil, Value.cells, List.cons_append, List.nil_append] at hs
  refine Ls_on rfl rfl ?_
  refine Ls_literal [_, _, _] hs Try.underlying43 inf41 rfl rfl rfl rfl rfl rfl ?_
  intro b40 w41 hs
  simp only [List.flatMap_cons, List.flatMap_nil, Value.cells, List.cons_append, List.nil_append] at hs
  refine Ls_on rfl rfl ?_
  refine Ls_call Try.func29 nm29 rfl rfl (lists_c w41 _ _ _ _ d0 _ _ _ [_, _, _] d0 (hrA.inB hs) (rd_block (hs.is_at 0 rfl).2 1 3 rfl) (hpa.inB hs) (PartsK.cons (l := [(3, false, 0), (6, false, 0)]) (rd_block (hs.is_at 2 rfl).2 3 2 rfl) (PartsK.cons (l := [(1, false, 0), (4, false, 0)]) (rd_block (hs.is_at 1 rfl).2 3 2 rfl) (PartsK.cons (l := []) (Rd.none _ 3) (PartsK.nil KP _)))) (by decide) (by decide)) rfl ?_
  rintro v42 w43 ⟨rfl, hsL⟩
  replace hs := hs.trans hsL
  rw [decide_eq_true (rfl : d0 = d0)]
  refine Ls_run (run_pick_t rfl rfl) rfl ?_
  refine Ls_run (run_assign rfl) rfl ?_
  refine Ls_nil ?_
  refine Jm_seq ?_
  refine St_ret ?_
  refine Jm_ret1 rfl rfl ?_
  exact ⟨_, rfl, rfl, Sat.ofBelow (hbel.trans (hs.below.mono hbel.size))⟩
set_option maxRecDepth 100000 in
set_option maxHeartbeats 4000000 in
theorem PlanCheck_c (w : World) (p : PlanA) (ops : List (Int × Int × Nat)) (hr : Rd w p.oA p.on p.oc 3 (KOp.flat ops)) (hn : p.on ≤ 9223372036854775807) :
    Calls Try.prog 5 [.agg #[.int .i64 p.pa, .int .i64 p.st, .int .i64 p.wo, .slice p.oA p.on p.oc, .int .i64 p.ag, .int .i64 p.ba, .int .i64 p.wi, .int .i64 p.gu]].toArray w (Ret (fun v' w' => v' = .bool true ∧ Below w.heap.size w w')) := by
  have hs := Sat.start w
  refine Calls_body Try.func5 rfl rfl rfl (envE_cons (i := 0) (v := .agg #[.int .i64 p.pa, .int .i64 p.st, .int .i64 p.wo, .slice p.oA p.on p.oc, .int .i64 p.ag, .int .i64 p.ba, .int .i64 p.wi, .int .i64 p.gu]) rfl envE_nil) ?_
  refine St_seq ?_
  refine St_region ?_
  refine Ls_box hs rfl rfl ?_
  intro b2 w1 hs
  refine Ls_run (run_assign rfl) rfl ?_
  refine Ls_nil ?_
  refine Jm_seq ?_
  refine St_seq ?_
  refine St_seq ?_
  refine St_region ?_
  refine Ls_call Try.func18 nm18 rfl rfl (pawake_c w1) rfl ?_
  rintro v3 w4 ⟨rfl, hsA5⟩
  replace hs := hs.trans hsA5
  refine Ls_run (run_not rfl) rfl ?_
  refine Ls_nil ?_
  refine Jm_seq ?_
  refine St_iff rfl ?_
  refine St_skip ?_
  refine Jm_seq ?_
  refine St_seq ?_
  refine St_draw (fun x => Below w4.heap.size w4 x) mixed ?_
  intro w7 q8
  have hH := q8.below
  replace hs := hs.quiet q8
  refine An_grow hH ?_
  replace hH := Below.refl w7.heap.size w7
  refine An_take 0 rfl (by kernel_rfl) (by kernel_rfl) (by kernel_rfl) (fun _ _ _ h => h) hH (fun x hx => run_load_agg agg34 inf34 rfl rfl ((hs.grow hx).blk_cells 0 rfl 0 8)) rfl ?_
  refine An_take 2 rfl (by kernel_rfl) (by kernel_rfl) (by kernel_rfl) (fun _ _ _ h => h) hH (fun x hx => run_load_agg agg34 inf34 rfl rfl ((hs.grow hx).blk_cells 0 rfl 0 8)) rfl ?_
  refine An_only 1 (by kernel_rfl) rfl ?_
  refine Ls_call Try.func19 nm19 rfl rfl (Check_c w7 p ops (hr.inB hs) hn) rfl ?_
  rintro v9 w10 ⟨rfl, hsQ11⟩
  replace hs := hs.trans hsQ11
  replace hH := (hsQ11.below : Below w7.heap.size w7 w10)
  refine Ls_nil (Jm_An hH ?_)
  refine An_grow hH ?_
  replace hH := Below.refl w10.heap.size w10
  refine An_only 3 (by kernel_rfl) rfl ?_
  refine Ls_call Try.func20 nm20 rfl rfl (rCheck_c w10 p ops (hr.inB hs) hn) rfl ?_
  rintro v12 w13 ⟨rfl, hsQ14⟩
  replace hs := hs.trans hsQ14
  replace hH := (hsQ14.below : Below w10.heap.size w10 w13)
  refine Ls_nil (Jm_An hH ?_)
  refine An_grow hH ?_
  replace hH := Below.refl w13.heap.size w13
  refine An_take 4 rfl (by kernel_rfl) (by kernel_rfl) (by kernel_rfl) (fun _ _ _ h => h) hH (fun x hx => run_asB (c := true) (run_eql rfl rfl) (by simp)) rfl ?_
  refine An_take 5 rfl (by kernel_rfl) (by kernel_rfl) (by kernel_rfl) (fun _ _ _ h => h) hH (fun x hx => run_assign rfl) rfl ?_
  refine An_done (by kernel_rfl) ?_
  refine Jm_seq ?_
  refine St_ret ?_
  refine Jm_ret1 rfl rfl ?_
  exact ⟨_, rfl, rfl, hs.below⟩
end Go.Proofs.Ytnmeaokfcalbbaa.Lg
