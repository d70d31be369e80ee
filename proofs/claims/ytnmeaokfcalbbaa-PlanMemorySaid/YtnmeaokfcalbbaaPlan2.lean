/-
  The plan's Check, Nodes, Kind, WorkerOf, StoreOf and the reference's, walked. By program (gen/plan2.py).
-/
import Derived.Test.YtnmeaokfcalbbaaPlan1
set_option linter.unusedVariables false
set_option linter.unusedSimpArgs false
namespace Go.Proofs.Ytnmeaokfcalbbaa.Lg
open Go Go.RowKit Go.Proofs.Ytnmeaokfcalbbaa.PlanPure
set_option maxRecDepth 100000 in
set_option maxHeartbeats 4000000 in
theorem Check_c (w : World) (p : PlanA) (ops : List (Int × Int × Nat)) (hr : Rd w p.oA p.on p.oc 3 (KOp.flat ops)) (hn : p.on ≤ 9223372036854775807) :
    Calls Try.prog 19 [.agg #[.int .i64 p.pa, .int .i64 p.st, .int .i64 p.wo, .slice p.oA p.on p.oc, .int .i64 p.ag, .int .i64 p.ba, .int .i64 p.wi, .int .i64 p.gu]].toArray w (Ret (fun v' w' => v' = .int .i64 (chk p ops) ∧ Sat w w' [])) := by
  have hs := Sat.start w
  refine Calls_body Try.func19 rfl rfl rfl (envE_cons (i := 0) (v := .agg #[.int .i64 p.pa, .int .i64 p.st, .int .i64 p.wo, .slice p.oA p.on p.oc, .int .i64 p.ag, .int .i64 p.ba, .int .i64 p.wi, .int .i64 p.gu]) rfl envE_nil) ?_
  refine St_seq ?_
  refine St_region ?_
  refine Ls_box hs rfl rfl ?_
  intro b2 w1 hs
  refine Ls_run (run_assign rfl) rfl ?_
  refine Ls_nil ?_
  refine Jm_seq ?_
  refine St_seq ?_
  refine St_seq ?_
  refine St_region ?_
  refine Ls_run (run_load_agg agg34 inf34 rfl rfl (hs.blk_cells 0 rfl 0 8)) rfl ?_
  refine Ls_call Try.func51 nm51 rfl rfl (numbers_c w1 p) rfl ?_
  rintro v3 w4 ⟨rfl, hsQ5⟩
  replace hs := hs.trans hsQ5
  refine Ls_run (run_not rfl) rfl ?_
  refine Ls_nil ?_
  refine Jm_seq ?_
  refine St_ifN rfl (fun h6 => ?_) (fun h6 => ?_)
  · skip
    refine St_seq ?_
    refine St_region ?_
    refine Ls_run (run_assign rfl) rfl ?_
    refine Ls_nil ?_
    refine Jm_seq ?_
    refine St_ret ?_
    refine Jm_then_ret  ?_
    refine Jm_ret1 rfl rfl ?_
    refine ⟨_, rfl, ?_, hs.forget⟩
    congr 1
    rw [chk, if_neg (by assumption)]
  · skip
    refine St_skip ?_
    refine Jm_seq ?_
    refine St_seq ?_
    refine St_region ?_
    refine Ls_run (run_field Try.underlying34 rfl inf32 (by decide) rfl) rfl ?_
    refine Ls_run (run_load sc32 rfl (hs.blk_at 0 rfl 3 rfl)) rfl ?_
    refine Ls_call Try.func52 nm52 rfl rfl (opsCheck_c w4 _ _ _ ops (hr.inB hs) hn) rfl ?_
    rintro v7 w8 ⟨rfl, hsQ9⟩
    replace hs := hs.trans hsQ9
    refine Ls_run (run_assign rfl) rfl ?_
    refine Ls_nil ?_
    refine Jm_seq ?_
    refine St_ret ?_
    refine Jm_ret1 rfl rfl ?_
    refine ⟨_, rfl, ?_, hs.forget⟩
    congr 1
    rw [chk, if_pos (by first | assumption | exact Decidable.not_not.1 (by assumption))]
set_option maxRecDepth 100000 in
set_option maxHeartbeats 4000000 in
theorem rCheck_c (w : World) (p : PlanA) (ops : List (Int × Int × Nat)) (hr : Rd w p.oA p.on p.oc 3 (KOp.flat ops)) (hn : p.on ≤ 9223372036854775807) :
    Calls Try.prog 20 [.agg #[.int .i64 p.pa, .int .i64 p.st, .int .i64 p.wo, .slice p.oA p.on p.oc, .int .i64 p.ag, .int .i64 p.ba, .int .i64 p.wi, .int .i64 p.gu]].toArray w (Ret (fun v' w' => v' = .int .i64 (chk p ops) ∧ Sat w w' [])) := by
  have hs := Sat.start w
  refine Calls_body Try.func20 rfl rfl rfl (envE_cons (i := 0) (v := .agg #[.int .i64 p.pa, .int .i64 p.st, .int .i64 p.wo, .slice p.oA p.on p.oc, .int .i64 p.ag, .int .i64 p.ba, .int .i64 p.wi, .int .i64 p.gu]) rfl envE_nil) ?_
  refine St_seq ?_
  refine St_region ?_
  refine Ls_box hs rfl rfl ?_
  intro b2 w1 hs
  refine Ls_run (run_assign rfl) rfl ?_
  refine Ls_nil ?_
  refine Jm_seq ?_
  refine St_seq ?_
  refine St_seq ?_
  refine St_region ?_
  refine Ls_run (run_field Try.underlying34 rfl inf3 (by decide) rfl) rfl ?_
  refine Ls_run (run_load sc3 rfl (hs.blk_at 0 rfl 0 rfl)) rfl ?_
  refine Ls_call Try.func53 nm53 rfl rfl (within_c w1 _ _) rfl ?_
  rintro v3 w4 ⟨rfl, rfl⟩
  refine Ls_run (run_not rfl) rfl ?_
  refine Ls_run (run_move rfl) rfl ?_
  refine Ls_partN (t := 7) rfl (fun h5 => ?_) (fun h5 => ?_)
  · skip
    refine Ls_off rfl rfl rfl rfl ?_
    refine Ls_off rfl rfl rfl rfl ?_
    refine Ls_off rfl rfl rfl rfl ?_
    refine Ls_off rfl rfl rfl rfl ?_
    refine Ls_run (run_pick_t rfl rfl) rfl ?_
    refine Ls_run (run_move rfl) rfl ?_
    refine Ls_off rfl rfl rfl rfl ?_
    refine Ls_off rfl rfl rfl rfl ?_
    refine Ls_off rfl rfl rfl rfl ?_
    refine Ls_off rfl rfl rfl rfl ?_
    refine Ls_run (run_pick_t rfl rfl) rfl ?_
    refine Ls_run (run_move rfl) rfl ?_
    refine Ls_off rfl rfl rfl rfl ?_
    refine Ls_off rfl rfl rfl rfl ?_
    refine Ls_off rfl rfl rfl rfl ?_
    refine Ls_off rfl rfl rfl rfl ?_
    refine Ls_run (run_pick_t rfl rfl) rfl ?_
    refine Ls_run (run_move rfl) rfl ?_
    refine Ls_off rfl rfl rfl rfl ?_
    refine Ls_off rfl rfl rfl rfl ?_
    refine Ls_off rfl rfl rfl rfl ?_
    refine Ls_off rfl rfl rfl rfl ?_
    refine Ls_run (run_pick_t rfl rfl) rfl ?_
    refine Ls_run (run_move rfl) rfl ?_
    refine Ls_off rfl rfl rfl rfl ?_
    refine Ls_off rfl rfl rfl rfl ?_
    refine Ls_off rfl rfl rfl rfl ?_
    refine Ls_off rfl rfl rfl rfl ?_
    refine Ls_run (run_pick_t rfl rfl) rfl ?_
    refine Ls_run (run_move rfl) rfl ?_
    refine Ls_off rfl rfl rfl rfl ?_
    refine Ls_off rfl rfl rfl rfl ?_
    refine Ls_off rfl rfl rfl rfl ?_
    refine Ls_run (run_pick_t rfl rfl) rfl ?_
    refine Ls_run (run_move rfl) rfl ?_
    refine Ls_off rfl rfl rfl rfl ?_
    refine Ls_off rfl rfl rfl rfl ?_
    refine Ls_off rfl rfl rfl rfl ?_
    refine Ls_run (run_pick_t rfl rfl) rfl ?_
    refine Ls_nil ?_
    refine Jm_seq ?_
    refine St_ift rfl ?_
    refine St_seq ?_
    refine St_region ?_
    refine Ls_run (run_assign rfl) rfl ?_
    refine Ls_nil ?_
    refine Jm_seq ?_
    refine St_ret ?_
    refine Jm_then_ret  ?_
    refine Jm_ret1 rfl rfl ?_
    refine ⟨_, rfl, ?_, hs.forget⟩
    congr 1
    first
    | (rw [chk, if_neg (by unfold numsOk; omega)]; done)
    | rw [chk, if_pos (by unfold numsOk; omega)]
  · skip
    refine Ls_on rfl rfl ?_
    refine Ls_run (run_field Try.underlying34 rfl inf3 (by decide) rfl) rfl ?_
    refine Ls_on rfl rfl ?_
    refine Ls_run (run_load sc3 rfl (hs.blk_at 0 rfl 1 rfl)) rfl ?_
    refine Ls_on rfl rfl ?_
    refine Ls_call Try.func53 nm53 rfl rfl (within_c w1 _ _) rfl ?_
    rintro v7 w8 ⟨rfl, rfl⟩
    refine Ls_on rfl rfl ?_
    refine Ls_run (run_not rfl) rfl ?_
    refine Ls_run (run_pick_f rfl rfl) rfl ?_
    refine Ls_run (run_move rfl) rfl ?_
    refine Ls_partN (t := 13) rfl (fun h9 => ?_) (fun h9 => ?_)
    · skip
      refine Ls_off rfl rfl rfl rfl ?_
      refine Ls_off rfl rfl rfl rfl ?_
      refine Ls_off rfl rfl rfl rfl ?_
      refine Ls_off rfl rfl rfl rfl ?_
      refine Ls_run (run_pick_t rfl rfl) rfl ?_
      refine Ls_run (run_move rfl) rfl ?_
      refine Ls_off rfl rfl rfl rfl ?_
      refine Ls_off rfl rfl rfl rfl ?_
      refine Ls_off rfl rfl rfl rfl ?_
      refine Ls_off rfl rfl rfl rfl ?_
      refine Ls_run (run_pick_t rfl rfl) rfl ?_
      refine Ls_run (run_move rfl) rfl ?_
      refine Ls_off rfl rfl rfl rfl ?_
      refine Ls_off rfl rfl rfl rfl ?_
      refine Ls_off rfl rfl rfl rfl ?_
      refine Ls_off rfl rfl rfl rfl ?_
      refine Ls_run (run_pick_t rfl rfl) rfl ?_
      refine Ls_run (run_move rfl) rfl ?_
      refine Ls_off rfl rfl rfl rfl ?_
      refine Ls_off rfl rfl rfl rfl ?_
      refine Ls_off rfl rfl rfl rfl ?_
      refine Ls_off rfl rfl rfl rfl ?_
      refine Ls_run (run_pick_t rfl rfl) rfl ?_
      refine Ls_run (run_move rfl) rfl ?_
      refine Ls_off rfl rfl rfl rfl ?_
      refine Ls_off rfl rfl rfl rfl ?_
      refine Ls_off rfl rfl rfl rfl ?_
      refine Ls_run (run_pick_t rfl rfl) rfl ?_
      refine Ls_run (run_move rfl) rfl ?_
      refine Ls_off rfl rfl rfl rfl ?_
      refine Ls_off rfl rfl rfl rfl ?_
      refine Ls_off rfl rfl rfl rfl ?_
      refine Ls_run (run_pick_t rfl rfl) rfl ?_
      refine Ls_nil ?_
      refine Jm_seq ?_
      refine St_ift rfl ?_
      refine St_seq ?_
      refine St_region ?_
      refine Ls_run (run_assign rfl) rfl ?_
      refine Ls_nil ?_
      refine Jm_seq ?_
      refine St_ret ?_
      refine Jm_then_ret  ?_
      refine Jm_ret1 rfl rfl ?_
      refine ⟨_, rfl, ?_, hs.forget⟩
      congr 1
      first
      | (rw [chk, if_neg (by unfold numsOk; omega)]; done)
      | rw [chk, if_pos (by unfold numsOk; omega)]
    · skip
      refine Ls_on rfl rfl ?_
      refine Ls_run (run_field Try.underlying34 rfl inf3 (by decide) rfl) rfl ?_
      refine Ls_on rfl rfl ?_
      refine Ls_run (run_load sc3 rfl (hs.blk_at 0 rfl 2 rfl)) rfl ?_
      refine Ls_on rfl rfl ?_
      refine Ls_call Try.func53 nm53 rfl rfl (within_c w1 _ _) rfl ?_
      rintro v11 w12 ⟨rfl, rfl⟩
      refine Ls_on rfl rfl ?_
      refine Ls_run (run_not rfl) rfl ?_
      refine Ls_run (run_pick_f rfl rfl) rfl ?_
      refine Ls_run (run_move rfl) rfl ?_
      refine Ls_partN (t := 19) rfl (fun h13 => ?_) (fun h13 => ?_)
      · skip
        refine Ls_off rfl rfl rfl rfl ?_
        refine Ls_off rfl rfl rfl rfl ?_
        refine Ls_off rfl rfl rfl rfl ?_
        refine Ls_off rfl rfl rfl rfl ?_
        refine Ls_run (run_pick_t rfl rfl) rfl ?_
        refine Ls_run (run_move rfl) rfl ?_
        refine Ls_off rfl rfl rfl rfl ?_
        refine Ls_off rfl rfl rfl rfl ?_
        refine Ls_off rfl rfl rfl rfl ?_
        refine Ls_off rfl rfl rfl rfl ?_
        refine Ls_run (run_pick_t rfl rfl) rfl ?_
        refine Ls_run (run_move rfl) rfl ?_
        refine Ls_off rfl rfl rfl rfl ?_
        refine Ls_off rfl rfl rfl rfl ?_
        refine Ls_off rfl rfl rfl rfl ?_
        refine Ls_off rfl rfl rfl rfl ?_
        refine Ls_run (run_pick_t rfl rfl) rfl ?_
        refine Ls_run (run_move rfl) rfl ?_
        refine Ls_off rfl rfl rfl rfl ?_
        refine Ls_off rfl rfl rfl rfl ?_
        refine Ls_off rfl rfl rfl rfl ?_
        refine Ls_run (run_pick_t rfl rfl) rfl ?_
        refine Ls_run (run_move rfl) rfl ?_
        refine Ls_off rfl rfl rfl rfl ?_
        refine Ls_off rfl rfl rfl rfl ?_
        refine Ls_off rfl rfl rfl rfl ?_
        refine Ls_run (run_pick_t rfl rfl) rfl ?_
        refine Ls_nil ?_
        refine Jm_seq ?_
        refine St_ift rfl ?_
        refine St_seq ?_
        refine St_region ?_
        refine Ls_run (run_assign rfl) rfl ?_
        refine Ls_nil ?_
        refine Jm_seq ?_
        refine St_ret ?_
        refine Jm_then_ret  ?_
        refine Jm_ret1 rfl rfl ?_
        refine ⟨_, rfl, ?_, hs.forget⟩
        congr 1
        first
        | (rw [chk, if_neg (by unfold numsOk; omega)]; done)
        | rw [chk, if_pos (by unfold numsOk; omega)]
      · skip
        refine Ls_on rfl rfl ?_
        refine Ls_run (run_field Try.underlying34 rfl inf3 (by decide) rfl) rfl ?_
        refine Ls_on rfl rfl ?_
        refine Ls_run (run_load sc3 rfl (hs.blk_at 0 rfl 4 rfl)) rfl ?_
        refine Ls_on rfl rfl ?_
        refine Ls_call Try.func54 nm54 rfl rfl (rKnown_c w1 _) rfl ?_
        rintro v15 w16 ⟨rfl, rfl⟩
        refine Ls_on rfl rfl ?_
        refine Ls_run (run_not rfl) rfl ?_
        refine Ls_run (run_pick_f rfl rfl) rfl ?_
        refine Ls_run (run_move rfl) rfl ?_
        refine Ls_partN (t := 25) rfl (fun h17 => ?_) (fun h17 => ?_)
        · skip
          refine Ls_off rfl rfl rfl rfl ?_
          refine Ls_off rfl rfl rfl rfl ?_
          refine Ls_off rfl rfl rfl rfl ?_
          refine Ls_off rfl rfl rfl rfl ?_
          refine Ls_run (run_pick_t rfl rfl) rfl ?_
          refine Ls_run (run_move rfl) rfl ?_
          refine Ls_off rfl rfl rfl rfl ?_
          refine Ls_off rfl rfl rfl rfl ?_
          refine Ls_off rfl rfl rfl rfl ?_
          refine Ls_off rfl rfl rfl rfl ?_
          refine Ls_run (run_pick_t rfl rfl) rfl ?_
          refine Ls_run (run_move rfl) rfl ?_
          refine Ls_off rfl rfl rfl rfl ?_
          refine Ls_off rfl rfl rfl rfl ?_
          refine Ls_off rfl rfl rfl rfl ?_
          refine Ls_run (run_pick_t rfl rfl) rfl ?_
          refine Ls_run (run_move rfl) rfl ?_
          refine Ls_off rfl rfl rfl rfl ?_
          refine Ls_off rfl rfl rfl rfl ?_
          refine Ls_off rfl rfl rfl rfl ?_
          refine Ls_run (run_pick_t rfl rfl) rfl ?_
          refine Ls_nil ?_
          refine Jm_seq ?_
          refine St_ift rfl ?_
          refine St_seq ?_
          refine St_region ?_
          refine Ls_run (run_assign rfl) rfl ?_
          refine Ls_nil ?_
          refine Jm_seq ?_
          refine St_ret ?_
          refine Jm_then_ret  ?_
          refine Jm_ret1 rfl rfl ?_
          refine ⟨_, rfl, ?_, hs.forget⟩
          congr 1
          first
          | (rw [chk, if_neg (by unfold numsOk; omega)]; done)
          | rw [chk, if_pos (by unfold numsOk; omega)]
        · skip
          refine Ls_on rfl rfl ?_
          refine Ls_run (run_field Try.underlying34 rfl inf3 (by decide) rfl) rfl ?_
          refine Ls_on rfl rfl ?_
          refine Ls_run (run_load sc3 rfl (hs.blk_at 0 rfl 5 rfl)) rfl ?_
          refine Ls_on rfl rfl ?_
          refine Ls_call Try.func53 nm53 rfl rfl (within_c w1 _ _) rfl ?_
          rintro v19 w20 ⟨rfl, rfl⟩
          refine Ls_on rfl rfl ?_
          refine Ls_run (run_not rfl) rfl ?_
          refine Ls_run (run_pick_f rfl rfl) rfl ?_
          refine Ls_run (run_move rfl) rfl ?_
          refine Ls_partN (t := 31) rfl (fun h21 => ?_) (fun h21 => ?_)
          · skip
            refine Ls_off rfl rfl rfl rfl ?_
            refine Ls_off rfl rfl rfl rfl ?_
            refine Ls_off rfl rfl rfl rfl ?_
            refine Ls_off rfl rfl rfl rfl ?_
            refine Ls_run (run_pick_t rfl rfl) rfl ?_
            refine Ls_run (run_move rfl) rfl ?_
            refine Ls_off rfl rfl rfl rfl ?_
            refine Ls_off rfl rfl rfl rfl ?_
            refine Ls_off rfl rfl rfl rfl ?_
            refine Ls_run (run_pick_t rfl rfl) rfl ?_
            refine Ls_run (run_move rfl) rfl ?_
            refine Ls_off rfl rfl rfl rfl ?_
            refine Ls_off rfl rfl rfl rfl ?_
            refine Ls_off rfl rfl rfl rfl ?_
            refine Ls_run (run_pick_t rfl rfl) rfl ?_
            refine Ls_nil ?_
            refine Jm_seq ?_
            refine St_ift rfl ?_
            refine St_seq ?_
            refine St_region ?_
            refine Ls_run (run_assign rfl) rfl ?_
            refine Ls_nil ?_
            refine Jm_seq ?_
            refine St_ret ?_
            refine Jm_then_ret  ?_
            refine Jm_ret1 rfl rfl ?_
            refine ⟨_, rfl, ?_, hs.forget⟩
            congr 1
            first
            | (rw [chk, if_neg (by unfold numsOk; omega)]; done)
            | rw [chk, if_pos (by unfold numsOk; omega)]
          · skip
            refine Ls_on rfl rfl ?_
            refine Ls_run (run_field Try.underlying34 rfl inf3 (by decide) rfl) rfl ?_
            refine Ls_on rfl rfl ?_
            refine Ls_run (run_load sc3 rfl (hs.blk_at 0 rfl 6 rfl)) rfl ?_
            refine Ls_on rfl rfl ?_
            refine Ls_call Try.func53 nm53 rfl rfl (within_c w1 _ _) rfl ?_
            rintro v23 w24 ⟨rfl, rfl⟩
            refine Ls_on rfl rfl ?_
            refine Ls_run (run_not rfl) rfl ?_
            refine Ls_run (run_pick_f rfl rfl) rfl ?_
            refine Ls_run (run_move rfl) rfl ?_
            refine Ls_partN (t := 37) rfl (fun h25 => ?_) (fun h25 => ?_)
            · skip
              refine Ls_off rfl rfl rfl rfl ?_
              refine Ls_off rfl rfl rfl rfl ?_
              refine Ls_off rfl rfl rfl rfl ?_
              refine Ls_run (run_pick_t rfl rfl) rfl ?_
              refine Ls_run (run_move rfl) rfl ?_
              refine Ls_off rfl rfl rfl rfl ?_
              refine Ls_off rfl rfl rfl rfl ?_
              refine Ls_off rfl rfl rfl rfl ?_
              refine Ls_run (run_pick_t rfl rfl) rfl ?_
              refine Ls_nil ?_
              refine Jm_seq ?_
              refine St_ift rfl ?_
              refine St_seq ?_
              refine St_region ?_
              refine Ls_run (run_assign rfl) rfl ?_
              refine Ls_nil ?_
              refine Jm_seq ?_
              refine St_ret ?_
              refine Jm_then_ret  ?_
              refine Jm_ret1 rfl rfl ?_
              refine ⟨_, rfl, ?_, hs.forget⟩
              congr 1
              first
              | (rw [chk, if_neg (by unfold numsOk; omega)]; done)
              | rw [chk, if_pos (by unfold numsOk; omega)]
            · skip
              refine Ls_on rfl rfl ?_
              refine Ls_run (run_field Try.underlying34 rfl inf3 (by decide) rfl) rfl ?_
              refine Ls_on rfl rfl ?_
              refine Ls_run (run_load sc3 rfl (hs.blk_at 0 rfl 7 rfl)) rfl ?_
              refine Ls_on rfl rfl ?_
              refine Ls_run (run_lss rfl rfl) rfl ?_
              refine Ls_run (run_pick_f rfl rfl) rfl ?_
              refine Ls_run (run_move rfl) rfl ?_
              refine Ls_partP (t := 42) rfl (fun h27 => ?_) (fun h27 => ?_)
              · skip
                refine Ls_off rfl rfl rfl rfl ?_
                refine Ls_off rfl rfl rfl rfl ?_
                refine Ls_off rfl rfl rfl rfl ?_
                refine Ls_run (run_pick_t rfl rfl) rfl ?_
                refine Ls_nil ?_
                refine Jm_seq ?_
                refine St_ift rfl ?_
                refine St_seq ?_
                refine St_region ?_
                refine Ls_run (run_assign rfl) rfl ?_
                refine Ls_nil ?_
                refine Jm_seq ?_
                refine St_ret ?_
                refine Jm_then_ret  ?_
                refine Jm_ret1 rfl rfl ?_
                refine ⟨_, rfl, ?_, hs.forget⟩
                congr 1
                first
                | (rw [chk, if_neg (by unfold numsOk; omega)]; done)
                | rw [chk, if_pos (by unfold numsOk; omega)]
              · skip
                refine Ls_on rfl rfl ?_
                refine Ls_run (run_field Try.underlying34 rfl inf3 (by decide) rfl) rfl ?_
                refine Ls_on rfl rfl ?_
                refine Ls_run (run_load sc3 rfl (hs.blk_at 0 rfl 7 rfl)) rfl ?_
                refine Ls_on rfl rfl ?_
                refine Ls_run (run_gtr rfl rfl) rfl ?_
                refine Ls_run (run_pick_f rfl rfl) rfl ?_
                refine Ls_nil ?_
                refine Jm_seq ?_
                refine St_ifP rfl (fun h29 => ?_) (fun h29 => ?_)
                · skip
                  refine St_seq ?_
                  refine St_region ?_
                  refine Ls_run (run_assign rfl) rfl ?_
                  refine Ls_nil ?_
                  refine Jm_seq ?_
                  refine St_ret ?_
                  refine Jm_then_ret  ?_
                  refine Jm_ret1 rfl rfl ?_
                  refine ⟨_, rfl, ?_, hs.forget⟩
                  congr 1
                  first
                  | (rw [chk, if_neg (by unfold numsOk; omega)]; done)
                  | rw [chk, if_pos (by unfold numsOk; omega)]
                · skip
                  refine St_skip ?_
                  refine Jm_seq ?_
                  refine St_seq ?_
                  refine St_region ?_
                  refine Ls_run (run_field Try.underlying34 rfl inf32 (by decide) rfl) rfl ?_
                  refine Ls_run (run_load sc32 rfl (hs.blk_at 0 rfl 3 rfl)) rfl ?_
                  refine Ls_call Try.func55 nm55 rfl rfl (rOpsCheck_c w1 _ _ _ ops (hr.inB hs) hn) rfl ?_
                  rintro v30 w31 ⟨rfl, hsQ32⟩
                  replace hs := hs.trans hsQ32
                  refine Ls_run (run_assign rfl) rfl ?_
                  refine Ls_nil ?_
                  refine Jm_seq ?_
                  refine St_ret ?_
                  refine Jm_ret1 rfl rfl ?_
                  refine ⟨_, rfl, ?_, hs.forget⟩
                  congr 1
                  first
                  | (rw [chk, if_neg (by unfold numsOk; omega)]; done)
                  | rw [chk, if_pos (by unfold numsOk; omega)]
set_option maxRecDepth 100000 in
set_option maxHeartbeats 4000000 in
theorem firstStore_c (w : World) (p : PlanA) (hk : numsOk p) :
    Calls Try.prog 56 [.agg #[.int .i64 p.pa, .int .i64 p.st, .int .i64 p.wo, .slice p.oA p.on p.oc, .int .i64 p.ag, .int .i64 p.ba, .int .i64 p.wi, .int .i64 p.gu]].toArray w (Ret (fun v' w' => v' = .int .i64 (1 + p.wo) ∧ Sat w w' [])) := by
  have hs := Sat.start w
  have hk2 := hk
  unfold numsOk at hk2
  refine Calls_body Try.func56 rfl rfl rfl (envE_cons (i := 0) (v := .agg #[.int .i64 p.pa, .int .i64 p.st, .int .i64 p.wo, .slice p.oA p.on p.oc, .int .i64 p.ag, .int .i64 p.ba, .int .i64 p.wi, .int .i64 p.gu]) rfl envE_nil) ?_
  refine St_seq ?_
  refine St_region ?_
  refine Ls_box hs rfl rfl ?_
  intro b2 w1 hs
  refine Ls_run (run_assign rfl) rfl ?_
  refine Ls_nil ?_
  refine Jm_seq ?_
  refine St_seq ?_
  refine St_region ?_
  refine Ls_run (run_field Try.underlying34 rfl inf3 (by decide) rfl) rfl ?_
  refine Ls_run (run_load sc3 rfl (hs.blk_at 0 rfl 2 rfl)) rfl ?_
  refine Ls_run (run_add rfl rfl (w64 (by omega))) rfl ?_
  refine Ls_run (run_assign rfl) rfl ?_
  refine Ls_nil ?_
  refine Jm_seq ?_
  refine St_ret ?_
  refine Jm_ret1 rfl rfl ?_
  refine ⟨_, rfl, ?_, hs.forget⟩
  rfl
set_option maxRecDepth 100000 in
set_option maxHeartbeats 4000000 in
theorem Nodes_c (w : World) (p : PlanA) (ops : List (Int × Int × Nat)) (hr : Rd w p.oA p.on p.oc 3 (KOp.flat ops)) (hn : p.on ≤ 9223372036854775807) :
    Calls Try.prog 23 [.agg #[.int .i64 p.pa, .int .i64 p.st, .int .i64 p.wo, .slice p.oA p.on p.oc, .int .i64 p.ag, .int .i64 p.ba, .int .i64 p.wi, .int .i64 p.gu]].toArray w (Ret (fun v' w' => v' = .int .i64 (nodes p ops) ∧ Sat w w' [])) := by
  have hs := Sat.start w
  refine Calls_body Try.func23 rfl rfl rfl (envE_cons (i := 0) (v := .agg #[.int .i64 p.pa, .int .i64 p.st, .int .i64 p.wo, .slice p.oA p.on p.oc, .int .i64 p.ag, .int .i64 p.ba, .int .i64 p.wi, .int .i64 p.gu]) rfl envE_nil) ?_
  refine St_seq ?_
  refine St_region ?_
  refine Ls_box hs rfl rfl ?_
  intro b2 w1 hs
  refine Ls_run (run_assign rfl) rfl ?_
  refine Ls_nil ?_
  refine Jm_seq ?_
  refine St_seq ?_
  refine St_seq ?_
  refine St_region ?_
  refine Ls_run (run_load_agg agg34 inf34 rfl rfl (hs.blk_cells 0 rfl 0 8)) rfl ?_
  refine Ls_call Try.func19 nm19 rfl rfl (Check_c w1 p ops (hr.inB hs) hn) rfl ?_
  rintro v3 w4 ⟨rfl, hsQ5⟩
  replace hs := hs.trans hsQ5
  refine Ls_run (run_neq rfl rfl) rfl ?_
  refine Ls_nil ?_
  refine Jm_seq ?_
  refine St_ifP rfl (fun h6 => ?_) (fun h6 => ?_)
  · skip
    refine St_seq ?_
    refine St_region ?_
    refine Ls_run (run_assign rfl) rfl ?_
    refine Ls_nil ?_
    refine Jm_seq ?_
    refine St_ret ?_
    refine Jm_then_ret  ?_
    refine Jm_ret1 rfl rfl ?_
    refine ⟨_, rfl, ?_, hs.forget⟩
    congr 1
    rw [nodes, if_neg (by assumption)]
  · skip
    have hc : chk p ops = 0 := by omega
    have hk := chk_ok hc
    have hk2 := hk
    unfold numsOk at hk2
    refine St_skip ?_
    refine Jm_seq ?_
    refine St_seq ?_
    refine St_draw (fun x => Below w4.heap.size w4 x) mixed ?_
    intro w7 q8
    have hH := q8.below
    replace hs := hs.quiet q8
    refine An_grow hH ?_
    replace hH := Below.refl w7.heap.size w7
    refine An_take 0 rfl (by kernel_rfl) (by kernel_rfl) (by kernel_rfl) (fun _ _ _ h => h) hH (fun x hx => run_load_agg agg34 inf34 rfl rfl ((hs.grow hx).blk_cells 0 rfl 0 8)) rfl ?_
    refine An_take 2 rfl (by kernel_rfl) (by kernel_rfl) (by kernel_rfl) (fun _ _ _ h => h) hH (fun x hx => run_field Try.underlying34 rfl inf3 (by decide) rfl) rfl ?_
    refine An_take 3 rfl (by kernel_rfl) (by kernel_rfl) (by kernel_rfl) (fun _ _ _ h => h) hH (fun x hx => run_load sc3 rfl ((hs.grow hx).blk_at 0 rfl 1 rfl)) rfl ?_
    refine An_only 1 (by kernel_rfl) rfl ?_
    refine Ls_call Try.func56 nm56 rfl rfl (firstStore_c w7 p hk) rfl ?_
    rintro v9 w10 ⟨rfl, hsQ11⟩
    replace hs := hs.trans hsQ11
    replace hH := (hsQ11.below : Below w7.heap.size w7 w10)
    refine Ls_nil (Jm_An hH ?_)
    refine An_grow hH ?_
    replace hH := Below.refl w10.heap.size w10
    refine An_take 4 rfl (by kernel_rfl) (by kernel_rfl) (by kernel_rfl) (fun _ _ _ h => h) hH (fun x hx => run_add rfl rfl (w64 (by omega))) rfl ?_
    refine An_take 5 rfl (by kernel_rfl) (by kernel_rfl) (by kernel_rfl) (fun _ _ _ h => h) hH (fun x hx => run_assign rfl) rfl ?_
    refine An_done (by kernel_rfl) ?_
    refine Jm_seq ?_
    refine St_ret ?_
    refine Jm_ret1 rfl rfl ?_
    refine ⟨_, rfl, ?_, hs.forget⟩
    congr 1
    rw [nodes, if_pos hc]
set_option maxRecDepth 100000 in
set_option maxHeartbeats 4000000 in
theorem rNodes_c (w : World) (p : PlanA) (ops : List (Int × Int × Nat)) (hr : Rd w p.oA p.on p.oc 3 (KOp.flat ops)) (hn : p.on ≤ 9223372036854775807) :
    Calls Try.prog 24 [.agg #[.int .i64 p.pa, .int .i64 p.st, .int .i64 p.wo, .slice p.oA p.on p.oc, .int .i64 p.ag, .int .i64 p.ba, .int .i64 p.wi, .int .i64 p.gu]].toArray w (Ret (fun v' w' => v' = .int .i64 (nodes p ops) ∧ Sat w w' [])) := by
  have hs := Sat.start w
  refine Calls_body Try.func24 rfl rfl rfl (envE_cons (i := 0) (v := .agg #[.int .i64 p.pa, .int .i64 p.st, .int .i64 p.wo, .slice p.oA p.on p.oc, .int .i64 p.ag, .int .i64 p.ba, .int .i64 p.wi, .int .i64 p.gu]) rfl envE_nil) ?_
  refine St_seq ?_
  refine St_region ?_
  refine Ls_box hs rfl rfl ?_
  intro b2 w1 hs
  refine Ls_run (run_assign rfl) rfl ?_
  refine Ls_nil ?_
  refine Jm_seq ?_
  refine St_seq ?_
  refine St_seq ?_
  refine St_region ?_
  refine Ls_run (run_load_agg agg34 inf34 rfl rfl (hs.blk_cells 0 rfl 0 8)) rfl ?_
  refine Ls_call Try.func20 nm20 rfl rfl (rCheck_c w1 p ops (hr.inB hs) hn) rfl ?_
  rintro v3 w4 ⟨rfl, hsQ5⟩
  replace hs := hs.trans hsQ5
  refine Ls_run (run_neq rfl rfl) rfl ?_
  refine Ls_nil ?_
  refine Jm_seq ?_
  refine St_ifP rfl (fun h6 => ?_) (fun h6 => ?_)
  · skip
    refine St_seq ?_
    refine St_region ?_
    refine Ls_run (run_assign rfl) rfl ?_
    refine Ls_nil ?_
    refine Jm_seq ?_
    refine St_ret ?_
    refine Jm_then_ret  ?_
    refine Jm_ret1 rfl rfl ?_
    refine ⟨_, rfl, ?_, hs.forget⟩
    congr 1
    rw [nodes, if_neg (by assumption)]
  · skip
    have hc : chk p ops = 0 := by omega
    have hk := chk_ok hc
    have hk2 := hk
    unfold numsOk at hk2
    refine St_skip ?_
    refine Jm_seq ?_
    refine St_seq ?_
    refine St_region ?_
    refine Ls_run (run_field Try.underlying34 rfl inf3 (by decide) rfl) rfl ?_
    refine Ls_run (run_load sc3 rfl (hs.blk_at 0 rfl 2 rfl)) rfl ?_
    refine Ls_run (run_add rfl rfl (w64 (by omega))) rfl ?_
    refine Ls_run (run_field Try.underlying34 rfl inf3 (by decide) rfl) rfl ?_
    refine Ls_run (run_load sc3 rfl (hs.blk_at 0 rfl 1 rfl)) rfl ?_
    refine Ls_run (run_add rfl rfl (w64 (by omega))) rfl ?_
    refine Ls_run (run_assign rfl) rfl ?_
    refine Ls_nil ?_
    refine Jm_seq ?_
    refine St_ret ?_
    refine Jm_ret1 rfl rfl ?_
    refine ⟨_, rfl, ?_, hs.forget⟩
    congr 1
    rw [nodes, if_pos hc]
set_option maxRecDepth 100000 in
set_option maxHeartbeats 4000000 in
theorem Kind_c (w : World) (p : PlanA) (ops : List (Int × Int × Nat)) (hr : Rd w p.oA p.on p.oc 3 (KOp.flat ops)) (hn : p.on ≤ 9223372036854775807) (node : Int) :
    Calls Try.prog 21 [.agg #[.int .i64 p.pa, .int .i64 p.st, .int .i64 p.wo, .slice p.oA p.on p.oc, .int .i64 p.ag, .int .i64 p.ba, .int .i64 p.wi, .int .i64 p.gu], .int .i64 node].toArray w (Ret (fun v' w' => v' = .int .i64 (kindOf p ops node) ∧ Sat w w' [])) := by
  have hs := Sat.start w
  refine Calls_body Try.func21 rfl rfl rfl (envE_cons (i := 0) (v := .agg #[.int .i64 p.pa, .int .i64 p.st, .int .i64 p.wo, .slice p.oA p.on p.oc, .int .i64 p.ag, .int .i64 p.ba, .int .i64 p.wi, .int .i64 p.gu]) rfl (envE_cons (i := 1) (v := .int .i64 node) rfl envE_nil)) ?_
  refine St_seq ?_
  refine St_region ?_
  refine Ls_box hs rfl rfl ?_
  intro b2 w1 hs
  refine Ls_run (run_assign rfl) rfl ?_
  refine Ls_nil ?_
  refine Jm_seq ?_
  refine St_seq ?_
  refine St_block ?_
  refine St_seq ?_
  refine St_region ?_
  refine Ls_run (run_move rfl) rfl ?_
  refine Ls_run (run_lss rfl rfl) rfl ?_
  refine Ls_run (run_move rfl) rfl ?_
  refine Ls_partP (t := 8) rfl (fun h3 => ?_) (fun h3 => ?_)
  · skip
    refine Ls_off rfl rfl rfl rfl ?_
    refine Ls_off rfl rfl rfl rfl ?_
    refine Ls_off rfl rfl rfl rfl ?_
    refine Ls_off rfl rfl rfl rfl ?_
    refine Ls_run (run_pick_t rfl rfl) rfl ?_
    refine Ls_run (run_assign rfl) rfl ?_
    refine Ls_nil ?_
    refine Jm_seq ?_
    refine St_ift rfl ?_
    refine St_seq ?_
    refine St_region ?_
    refine Ls_run (run_assign rfl) rfl ?_
    refine Ls_nil ?_
    refine Jm_seq ?_
    refine St_ret ?_
    refine Jm_block_ret (Jm_then_ret  ?_)
    refine Jm_ret1 rfl rfl ?_
    refine ⟨_, rfl, ?_, hs.forget⟩
    congr 1
    unfold kindOf
    first | (rw [if_pos (by omega)]; done) | (rw [if_neg (by omega), if_pos (by omega)]; done) | (rw [if_neg (by omega), if_neg (by omega), if_pos (by omega)]; done) | (rw [if_neg (by omega), if_neg (by omega), if_neg (by omega)]; done)
  · skip
    refine Ls_on rfl rfl ?_
    refine Ls_run (run_move rfl) rfl ?_
    refine Ls_on rfl rfl ?_
    refine Ls_run (run_load_agg agg34 inf34 rfl rfl (hs.blk_cells 0 rfl 0 8)) rfl ?_
    refine Ls_on rfl rfl ?_
    refine Ls_call Try.func23 nm23 rfl rfl (Nodes_c w1 p ops (hr.inB hs) hn) rfl ?_
    rintro v5 w6 ⟨rfl, hsQ7⟩
    replace hs := hs.trans hsQ7
    refine Ls_on rfl rfl ?_
    refine Ls_run (run_geq rfl rfl) rfl ?_
    refine Ls_run (run_pick_f rfl rfl) rfl ?_
    refine Ls_run (run_assign rfl) rfl ?_
    refine Ls_nil ?_
    refine Jm_seq ?_
    refine St_ifP rfl (fun h8 => ?_) (fun h8 => ?_)
    · skip
      refine St_seq ?_
      refine St_region ?_
      refine Ls_run (run_assign rfl) rfl ?_
      refine Ls_nil ?_
      refine Jm_seq ?_
      refine St_ret ?_
      refine Jm_block_ret (Jm_then_ret  ?_)
      refine Jm_ret1 rfl rfl ?_
      refine ⟨_, rfl, ?_, hs.forget⟩
      congr 1
      unfold kindOf
      first | (rw [if_pos (by omega)]; done) | (rw [if_neg (by omega), if_pos (by omega)]; done) | (rw [if_neg (by omega), if_neg (by omega), if_pos (by omega)]; done) | (rw [if_neg (by omega), if_neg (by omega), if_neg (by omega)]; done)
    · skip
      refine St_seq ?_
      refine St_region ?_
      refine Ls_run (run_move rfl) rfl ?_
      refine Ls_run (run_eql rfl rfl) rfl ?_
      refine Ls_run (run_assign rfl) rfl ?_
      refine Ls_nil ?_
      refine Jm_seq ?_
      refine St_ifP rfl (fun h9 => ?_) (fun h9 => ?_)
      · skip
        refine St_seq ?_
        refine St_region ?_
        refine Ls_run (run_assign rfl) rfl ?_
        refine Ls_nil ?_
        refine Jm_seq ?_
        refine St_ret ?_
        refine Jm_block_ret (Jm_then_ret  ?_)
        refine Jm_ret1 rfl rfl ?_
        refine ⟨_, rfl, ?_, hs.forget⟩
        congr 1
        unfold kindOf
        first | (rw [if_pos (by omega)]; done) | (rw [if_neg (by omega), if_pos (by omega)]; done) | (rw [if_neg (by omega), if_neg (by omega), if_pos (by omega)]; done) | (rw [if_neg (by omega), if_neg (by omega), if_neg (by omega)]; done)
      · skip
        refine St_seq ?_
        refine St_region ?_
        refine Ls_run (run_move rfl) rfl ?_
        have hc : chk p ops = 0 := by
          rcases Decidable.em (chk p ops = 0) with q | q
          · exact q
          · have : nodes p ops = 0 := by rw [nodes, if_neg q]
            omega
        have hk := chk_ok hc
        refine Ls_run (run_load_agg agg34 inf34 rfl rfl (hs.blk_cells 0 rfl 0 8)) rfl ?_
        refine Ls_call Try.func56 nm56 rfl rfl (firstStore_c w6 p hk) rfl ?_
        rintro v10 w11 ⟨rfl, hsQ12⟩
        replace hs := hs.trans hsQ12
        refine Ls_run (run_lss rfl rfl) rfl ?_
        refine Ls_run (run_assign rfl) rfl ?_
        refine Ls_nil ?_
        refine Jm_seq ?_
        refine St_ifP rfl (fun h13 => ?_) (fun h13 => ?_)
        · skip
          refine St_seq ?_
          refine St_region ?_
          refine Ls_run (run_assign rfl) rfl ?_
          refine Ls_nil ?_
          refine Jm_seq ?_
          refine St_ret ?_
          refine Jm_block_ret (Jm_then_ret  ?_)
          refine Jm_ret1 rfl rfl ?_
          refine ⟨_, rfl, ?_, hs.forget⟩
          congr 1
          unfold kindOf
          first | (rw [if_pos (by omega)]; done) | (rw [if_neg (by omega), if_pos (by omega)]; done) | (rw [if_neg (by omega), if_neg (by omega), if_pos (by omega)]; done) | (rw [if_neg (by omega), if_neg (by omega), if_neg (by omega)]; done)
        · skip
          refine St_skip ?_
          refine Jm_block_normal (Jm_seq ?_)
          refine St_seq ?_
          refine St_region ?_
          refine Ls_run (run_assign rfl) rfl ?_
          refine Ls_nil ?_
          refine Jm_seq ?_
          refine St_ret ?_
          refine Jm_ret1 rfl rfl ?_
          refine ⟨_, rfl, ?_, hs.forget⟩
          congr 1
          unfold kindOf
          first | (rw [if_pos (by omega)]; done) | (rw [if_neg (by omega), if_pos (by omega)]; done) | (rw [if_neg (by omega), if_neg (by omega), if_pos (by omega)]; done) | (rw [if_neg (by omega), if_neg (by omega), if_neg (by omega)]; done)
set_option maxRecDepth 100000 in
set_option maxHeartbeats 4000000 in
theorem rKind_c (w : World) (p : PlanA) (ops : List (Int × Int × Nat)) (hr : Rd w p.oA p.on p.oc 3 (KOp.flat ops)) (hn : p.on ≤ 9223372036854775807) (node : Int) :
    Calls Try.prog 22 [.agg #[.int .i64 p.pa, .int .i64 p.st, .int .i64 p.wo, .slice p.oA p.on p.oc, .int .i64 p.ag, .int .i64 p.ba, .int .i64 p.wi, .int .i64 p.gu], .int .i64 node].toArray w (Ret (fun v' w' => v' = .int .i64 (kindOf p ops node) ∧ Sat w w' [])) := by
  have hs := Sat.start w
  refine Calls_body Try.func22 rfl rfl rfl (envE_cons (i := 0) (v := .agg #[.int .i64 p.pa, .int .i64 p.st, .int .i64 p.wo, .slice p.oA p.on p.oc, .int .i64 p.ag, .int .i64 p.ba, .int .i64 p.wi, .int .i64 p.gu]) rfl (envE_cons (i := 1) (v := .int .i64 node) rfl envE_nil)) ?_
  refine St_seq ?_
  refine St_region ?_
  refine Ls_box hs rfl rfl ?_
  intro b2 w1 hs
  refine Ls_run (run_assign rfl) rfl ?_
  refine Ls_nil ?_
  refine Jm_seq ?_
  refine St_seq ?_
  refine St_seq ?_
  refine St_region ?_
  refine Ls_run (run_move rfl) rfl ?_
  refine Ls_run (run_lss rfl rfl) rfl ?_
  refine Ls_run (run_move rfl) rfl ?_
  refine Ls_partP (t := 7) rfl (fun h3 => ?_) (fun h3 => ?_)
  · skip
    refine Ls_off rfl rfl rfl rfl ?_
    refine Ls_off rfl rfl rfl rfl ?_
    refine Ls_off rfl rfl rfl rfl ?_
    refine Ls_off rfl rfl rfl rfl ?_
    refine Ls_run (run_pick_t rfl rfl) rfl ?_
    refine Ls_nil ?_
    refine Jm_seq ?_
    refine St_ift rfl ?_
    refine St_seq ?_
    refine St_region ?_
    refine Ls_run (run_assign rfl) rfl ?_
    refine Ls_nil ?_
    refine Jm_seq ?_
    refine St_ret ?_
    refine Jm_then_ret  ?_
    refine Jm_ret1 rfl rfl ?_
    refine ⟨_, rfl, ?_, hs.forget⟩
    congr 1
    unfold kindOf
    first | (rw [if_pos (by omega)]; done) | (rw [if_neg (by omega), if_pos (by omega)]; done) | (rw [if_neg (by omega), if_neg (by omega), if_pos (by omega)]; done) | (rw [if_neg (by omega), if_neg (by omega), if_neg (by omega)]; done)
  · skip
    refine Ls_on rfl rfl ?_
    refine Ls_run (run_move rfl) rfl ?_
    refine Ls_on rfl rfl ?_
    refine Ls_run (run_load_agg agg34 inf34 rfl rfl (hs.blk_cells 0 rfl 0 8)) rfl ?_
    refine Ls_on rfl rfl ?_
    refine Ls_call Try.func24 nm24 rfl rfl (rNodes_c w1 p ops (hr.inB hs) hn) rfl ?_
    rintro v5 w6 ⟨rfl, hsQ7⟩
    replace hs := hs.trans hsQ7
    refine Ls_on rfl rfl ?_
    refine Ls_run (run_geq rfl rfl) rfl ?_
    refine Ls_run (run_pick_f rfl rfl) rfl ?_
    refine Ls_nil ?_
    refine Jm_seq ?_
    refine St_ifP rfl (fun h8 => ?_) (fun h8 => ?_)
    · skip
      refine St_seq ?_
      refine St_region ?_
      refine Ls_run (run_assign rfl) rfl ?_
      refine Ls_nil ?_
      refine Jm_seq ?_
      refine St_ret ?_
      refine Jm_then_ret  ?_
      refine Jm_ret1 rfl rfl ?_
      refine ⟨_, rfl, ?_, hs.forget⟩
      congr 1
      unfold kindOf
      first | (rw [if_pos (by omega)]; done) | (rw [if_neg (by omega), if_pos (by omega)]; done) | (rw [if_neg (by omega), if_neg (by omega), if_pos (by omega)]; done) | (rw [if_neg (by omega), if_neg (by omega), if_neg (by omega)]; done)
    · skip
      refine St_skip ?_
      refine Jm_seq ?_
      refine St_seq ?_
      refine St_seq ?_
      refine St_region ?_
      refine Ls_run (run_move rfl) rfl ?_
      refine Ls_run (run_eql rfl rfl) rfl ?_
      refine Ls_nil ?_
      refine Jm_seq ?_
      refine St_ifP rfl (fun h9 => ?_) (fun h9 => ?_)
      · skip
        refine St_seq ?_
        refine St_region ?_
        refine Ls_run (run_assign rfl) rfl ?_
        refine Ls_nil ?_
        refine Jm_seq ?_
        refine St_ret ?_
        refine Jm_then_ret  ?_
        refine Jm_ret1 rfl rfl ?_
        refine ⟨_, rfl, ?_, hs.forget⟩
        congr 1
        unfold kindOf
        first | (rw [if_pos (by omega)]; done) | (rw [if_neg (by omega), if_pos (by omega)]; done) | (rw [if_neg (by omega), if_neg (by omega), if_pos (by omega)]; done) | (rw [if_neg (by omega), if_neg (by omega), if_neg (by omega)]; done)
      · skip
        refine St_skip ?_
        refine Jm_seq ?_
        refine St_seq ?_
        refine St_seq ?_
        refine St_region ?_
        have hc : chk p ops = 0 := by
          rcases Decidable.em (chk p ops = 0) with q | q
          · exact q
          · have : nodes p ops = 0 := by rw [nodes, if_neg q]
            omega
        have hk := chk_ok hc
        refine Ls_run (run_move rfl) rfl ?_
        refine Ls_run (run_field Try.underlying34 rfl inf3 (by decide) rfl) rfl ?_
        refine Ls_run (run_load sc3 rfl (hs.blk_at 0 rfl 2 rfl)) rfl ?_
        refine Ls_run (run_leq rfl rfl) rfl ?_
        refine Ls_nil ?_
        refine Jm_seq ?_
        refine St_ifP rfl (fun h10 => ?_) (fun h10 => ?_)
        · skip
          refine St_seq ?_
          refine St_region ?_
          refine Ls_run (run_assign rfl) rfl ?_
          refine Ls_nil ?_
          refine Jm_seq ?_
          refine St_ret ?_
          refine Jm_then_ret  ?_
          refine Jm_ret1 rfl rfl ?_
          refine ⟨_, rfl, ?_, hs.forget⟩
          congr 1
          unfold kindOf
          first | (rw [if_pos (by omega)]; done) | (rw [if_neg (by omega), if_pos (by omega)]; done) | (rw [if_neg (by omega), if_neg (by omega), if_pos (by omega)]; done) | (rw [if_neg (by omega), if_neg (by omega), if_neg (by omega)]; done)
        · skip
          refine St_skip ?_
          refine Jm_seq ?_
          refine St_seq ?_
          refine St_region ?_
          refine Ls_run (run_assign rfl) rfl ?_
          refine Ls_nil ?_
          refine Jm_seq ?_
          refine St_ret ?_
          refine Jm_ret1 rfl rfl ?_
          refine ⟨_, rfl, ?_, hs.forget⟩
          congr 1
          unfold kindOf
          first | (rw [if_pos (by omega)]; done) | (rw [if_neg (by omega), if_pos (by omega)]; done) | (rw [if_neg (by omega), if_neg (by omega), if_pos (by omega)]; done) | (rw [if_neg (by omega), if_neg (by omega), if_neg (by omega)]; done)
set_option maxRecDepth 100000 in
set_option maxHeartbeats 4000000 in
theorem WorkerOf_c (w : World) (p : PlanA) (ops : List (Int × Int × Nat)) (hr : Rd w p.oA p.on p.oc 3 (KOp.flat ops)) (hn : p.on ≤ 9223372036854775807) (a : Int) (ha : a ≤ 9223372036854775807) :
    Calls Try.prog 25 [.agg #[.int .i64 p.pa, .int .i64 p.st, .int .i64 p.wo, .slice p.oA p.on p.oc, .int .i64 p.ag, .int .i64 p.ba, .int .i64 p.wi, .int .i64 p.gu], .int .i64 a].toArray w (Ret (fun v' w' => v' = .int .i64 (workerOf p ops a) ∧ Sat w w' [])) := by
  have hs := Sat.start w
  refine Calls_body Try.func25 rfl rfl rfl (envE_cons (i := 0) (v := .agg #[.int .i64 p.pa, .int .i64 p.st, .int .i64 p.wo, .slice p.oA p.on p.oc, .int .i64 p.ag, .int .i64 p.ba, .int .i64 p.wi, .int .i64 p.gu]) rfl (envE_cons (i := 1) (v := .int .i64 a) rfl envE_nil)) ?_
  refine St_seq ?_
  refine St_region ?_
  refine Ls_box hs rfl rfl ?_
  intro b2 w1 hs
  refine Ls_run (run_assign rfl) rfl ?_
  refine Ls_nil ?_
  refine Jm_seq ?_
  refine St_seq ?_
  refine St_seq ?_
  refine St_region ?_
  refine Ls_run (run_load_agg agg34 inf34 rfl rfl (hs.blk_cells 0 rfl 0 8)) rfl ?_
  refine Ls_call Try.func19 nm19 rfl rfl (Check_c w1 p ops (hr.inB hs) hn) rfl ?_
  rintro v3 w4 ⟨rfl, hsQ5⟩
  replace hs := hs.trans hsQ5
  refine Ls_run (run_neq rfl rfl) rfl ?_
  refine Ls_run (run_move rfl) rfl ?_
  refine Ls_partP (t := 8) rfl (fun h6 => ?_) (fun h6 => ?_)
  · skip
    refine Ls_off rfl rfl rfl rfl ?_
    refine Ls_off rfl rfl rfl rfl ?_
    refine Ls_run (run_pick_t rfl rfl) rfl ?_
    refine Ls_nil ?_
    refine Jm_seq ?_
    refine St_ift rfl ?_
    refine St_seq ?_
    refine St_region ?_
    refine Ls_run (run_assign rfl) rfl ?_
    refine Ls_nil ?_
    refine Jm_seq ?_
    refine St_ret ?_
    refine Jm_then_ret  ?_
    refine Jm_ret1 rfl rfl ?_
    refine ⟨_, rfl, ?_, hs.forget⟩
    congr 1
    unfold workerOf
    first | (rw [if_neg (by omega)]; done) | (rw [if_pos (by omega)]; done)
  · skip
    refine Ls_on rfl rfl ?_
    refine Ls_run (run_move rfl) rfl ?_
    refine Ls_on rfl rfl ?_
    refine Ls_run (run_lss rfl rfl) rfl ?_
    refine Ls_run (run_pick_f rfl rfl) rfl ?_
    refine Ls_nil ?_
    refine Jm_seq ?_
    refine St_ifP rfl (fun h8 => ?_) (fun h8 => ?_)
    · skip
      refine St_seq ?_
      refine St_region ?_
      refine Ls_run (run_assign rfl) rfl ?_
      refine Ls_nil ?_
      refine Jm_seq ?_
      refine St_ret ?_
      refine Jm_then_ret  ?_
      refine Jm_ret1 rfl rfl ?_
      refine ⟨_, rfl, ?_, hs.forget⟩
      congr 1
      unfold workerOf
      first | (rw [if_neg (by omega)]; done) | (rw [if_pos (by omega)]; done)
    · skip
      refine St_skip ?_
      refine Jm_seq ?_
      refine St_seq ?_
      refine St_region ?_
      have hc : chk p ops = 0 := by omega
      have hk2 := chk_ok hc
      unfold numsOk at hk2
      have htm := tmod_bd a p.wo (by omega) (by omega)
      refine Ls_run (run_move rfl) rfl ?_
      refine Ls_run (run_field Try.underlying34 rfl inf3 (by decide) rfl) rfl ?_
      refine Ls_run (run_load sc3 rfl (hs.blk_at 0 rfl 2 rfl)) rfl ?_
      refine Ls_run (run_rem rfl rfl (by omega) rfl) rfl ?_
      refine Ls_run (run_add rfl rfl (w64 (by omega))) rfl ?_
      refine Ls_run (run_assign rfl) rfl ?_
      refine Ls_nil ?_
      refine Jm_seq ?_
      refine St_ret ?_
      refine Jm_ret1 rfl rfl ?_
      refine ⟨_, rfl, ?_, hs.forget⟩
      congr 1
      unfold workerOf
      first | (rw [if_neg (by omega)]; done) | (rw [if_pos (by omega)]; done)
set_option maxRecDepth 100000 in
set_option maxHeartbeats 4000000 in
theorem rWorkerOf_c (w : World) (p : PlanA) (ops : List (Int × Int × Nat)) (hr : Rd w p.oA p.on p.oc 3 (KOp.flat ops)) (hn : p.on ≤ 9223372036854775807) (a : Int) (ha : a ≤ 9223372036854775807) :
    Calls Try.prog 26 [.agg #[.int .i64 p.pa, .int .i64 p.st, .int .i64 p.wo, .slice p.oA p.on p.oc, .int .i64 p.ag, .int .i64 p.ba, .int .i64 p.wi, .int .i64 p.gu], .int .i64 a].toArray w (Ret (fun v' w' => v' = .int .i64 (workerOf p ops a) ∧ Sat w w' [])) := by
  have hs := Sat.start w
  refine Calls_body Try.func26 rfl rfl rfl (envE_cons (i := 0) (v := .agg #[.int .i64 p.pa, .int .i64 p.st, .int .i64 p.wo, .slice p.oA p.on p.oc, .int .i64 p.ag, .int .i64 p.ba, .int .i64 p.wi, .int .i64 p.gu]) rfl (envE_cons (i := 1) (v := .int .i64 a) rfl envE_nil)) ?_
  refine St_seq ?_
  refine St_region ?_
  refine Ls_box hs rfl rfl ?_
  intro b2 w1 hs
  refine Ls_run (run_assign rfl) rfl ?_
  refine Ls_nil ?_
  refine Jm_seq ?_
  refine St_seq ?_
  refine St_seq ?_
  refine St_region ?_
  refine Ls_run (run_load_agg agg34 inf34 rfl rfl (hs.blk_cells 0 rfl 0 8)) rfl ?_
  refine Ls_call Try.func20 nm20 rfl rfl (rCheck_c w1 p ops (hr.inB hs) hn) rfl ?_
  rintro v3 w4 ⟨rfl, hsQ5⟩
  replace hs := hs.trans hsQ5
  refine Ls_run (run_neq rfl rfl) rfl ?_
  refine Ls_run (run_move rfl) rfl ?_
  refine Ls_partP (t := 8) rfl (fun h6 => ?_) (fun h6 => ?_)
  · skip
    refine Ls_off rfl rfl rfl rfl ?_
    refine Ls_off rfl rfl rfl rfl ?_
    refine Ls_run (run_pick_t rfl rfl) rfl ?_
    refine Ls_nil ?_
    refine Jm_seq ?_
    refine St_ift rfl ?_
    refine St_seq ?_
    refine St_region ?_
    refine Ls_run (run_assign rfl) rfl ?_
    refine Ls_nil ?_
    refine Jm_seq ?_
    refine St_ret ?_
    refine Jm_then_ret  ?_
    refine Jm_ret1 rfl rfl ?_
    refine ⟨_, rfl, ?_, hs.forget⟩
    congr 1
    unfold workerOf
    first | (rw [if_neg (by omega)]; done) | (rw [if_pos (by omega)]; done)
  · skip
    refine Ls_on rfl rfl ?_
    refine Ls_run (run_move rfl) rfl ?_
    refine Ls_on rfl rfl ?_
    refine Ls_run (run_lss rfl rfl) rfl ?_
    refine Ls_run (run_pick_f rfl rfl) rfl ?_
    refine Ls_nil ?_
    refine Jm_seq ?_
    refine St_ifP rfl (fun h8 => ?_) (fun h8 => ?_)
    · skip
      refine St_seq ?_
      refine St_region ?_
      refine Ls_run (run_assign rfl) rfl ?_
      refine Ls_nil ?_
      refine Jm_seq ?_
      refine St_ret ?_
      refine Jm_then_ret  ?_
      refine Jm_ret1 rfl rfl ?_
      refine ⟨_, rfl, ?_, hs.forget⟩
      congr 1
      unfold workerOf
      first | (rw [if_neg (by omega)]; done) | (rw [if_pos (by omega)]; done)
    · skip
      refine St_skip ?_
      refine Jm_seq ?_
      refine St_seq ?_
      refine St_region ?_
      have hc : chk p ops = 0 := by omega
      have hk2 := chk_ok hc
      unfold numsOk at hk2
      have htm := tmod_bd a p.wo (by omega) (by omega)
      refine Ls_run (run_move rfl) rfl ?_
      refine Ls_run (run_field Try.underlying34 rfl inf3 (by decide) rfl) rfl ?_
      refine Ls_run (run_load sc3 rfl (hs.blk_at 0 rfl 2 rfl)) rfl ?_
      refine Ls_run (run_rem rfl rfl (by omega) rfl) rfl ?_
      refine Ls_run (run_add rfl rfl (w64 (by omega))) rfl ?_
      refine Ls_run (run_assign rfl) rfl ?_
      refine Ls_nil ?_
      refine Jm_seq ?_
      refine St_ret ?_
      refine Jm_ret1 rfl rfl ?_
      refine ⟨_, rfl, ?_, hs.forget⟩
      congr 1
      unfold workerOf
      first | (rw [if_neg (by omega)]; done) | (rw [if_pos (by omega)]; done)
set_option maxRecDepth 100000 in
set_option maxHeartbeats 4000000 in
theorem storeOf_c (w : World) (p : PlanA) (hk : numsOk p) (key : Nat) (hkey : key < 18446744073709551616) :
    Calls Try.prog 57 [.agg #[.int .i64 p.pa, .int .i64 p.st, .int .i64 p.wo, .slice p.oA p.on p.oc, .int .i64 p.ag, .int .i64 p.ba, .int .i64 p.wi, .int .i64 p.gu], .int .u64 (key : Int)].toArray w (Ret (fun v' w' => v' = .int .i64 (1 + p.wo + ((key % p.st.toNat : Nat) : Int)) ∧ Sat w w' [])) := by
  have hs := Sat.start w
  have hk2 := hk
  unfold numsOk at hk2
  have hkl := key_lt key p.st (by omega)
  refine Calls_body Try.func57 rfl rfl rfl (envE_cons (i := 0) (v := .agg #[.int .i64 p.pa, .int .i64 p.st, .int .i64 p.wo, .slice p.oA p.on p.oc, .int .i64 p.ag, .int .i64 p.ba, .int .i64 p.wi, .int .i64 p.gu]) rfl (envE_cons (i := 1) (v := .int .u64 (key : Int)) rfl envE_nil)) ?_
  refine St_seq ?_
  refine St_region ?_
  refine Ls_box hs rfl rfl ?_
  intro b2 w1 hs
  refine Ls_run (run_assign rfl) rfl ?_
  refine Ls_nil ?_
  refine Jm_seq ?_
  refine St_seq ?_
  refine St_draw (fun x => Below w1.heap.size w1 x) mixed ?_
  intro w3 q4
  have hH := q4.below
  replace hs := hs.quiet q4
  refine An_grow hH ?_
  replace hH := Below.refl w3.heap.size w3
  refine An_take 0 rfl (by kernel_rfl) (by kernel_rfl) (by kernel_rfl) (fun _ _ _ h => h) hH (fun x hx => run_load_agg agg34 inf34 rfl rfl ((hs.grow hx).blk_cells 0 rfl 0 8)) rfl ?_
  refine An_take 2 rfl (by kernel_rfl) (by kernel_rfl) (by kernel_rfl) (fun _ _ _ h => h) hH (fun x hx => run_move rfl) rfl ?_
  refine An_take 3 rfl (by kernel_rfl) (by kernel_rfl) (by kernel_rfl) (fun _ _ _ h => h) hH (fun x hx => run_field Try.underlying34 rfl inf3 (by decide) rfl) rfl ?_
  refine An_take 4 rfl (by kernel_rfl) (by kernel_rfl) (by kernel_rfl) (fun _ _ _ h => h) hH (fun x hx => run_load sc3 rfl ((hs.grow hx).blk_at 0 rfl 1 rfl)) rfl ?_
  refine An_take 5 rfl (by kernel_rfl) (by kernel_rfl) (by kernel_rfl) (fun _ _ _ h => h) hH (fun x hx => run_conv_int Try.underlying23 us3 rfl (wu64 (by omega))) rfl ?_
  refine An_take 6 rfl (by kernel_rfl) (by kernel_rfl) (by kernel_rfl) (fun _ _ _ h => h) hH (fun x hx => run_rem rfl rfl (by omega) (key_mod key p.st (by omega))) rfl ?_
  refine An_take 7 rfl (by kernel_rfl) (by kernel_rfl) (by kernel_rfl) (fun _ _ _ h => h) hH (fun x hx => run_conv_int Try.underlying3 us23 rfl (w64 (by omega))) rfl ?_
  refine An_only 1 (by kernel_rfl) rfl ?_
  refine Ls_call Try.func56 nm56 rfl rfl (firstStore_c w3 p hk) rfl ?_
  rintro v5 w6 ⟨rfl, hsQ7⟩
  replace hs := hs.trans hsQ7
  replace hH := (hsQ7.below : Below w3.heap.size w3 w6)
  refine Ls_nil (Jm_An hH ?_)
  refine An_grow hH ?_
  replace hH := Below.refl w6.heap.size w6
  refine An_take 8 rfl (by kernel_rfl) (by kernel_rfl) (by kernel_rfl) (fun _ _ _ h => h) hH (fun x hx => run_add rfl rfl (w64 (by omega))) rfl ?_
  refine An_take 9 rfl (by kernel_rfl) (by kernel_rfl) (by kernel_rfl) (fun _ _ _ h => h) hH (fun x hx => run_assign rfl) rfl ?_
  refine An_done (by kernel_rfl) ?_
  refine Jm_seq ?_
  refine St_ret ?_
  refine Jm_ret1 rfl rfl ?_
  refine ⟨_, rfl, ?_, hs.forget⟩
  rfl
set_option maxRecDepth 100000 in
set_option maxHeartbeats 4000000 in
theorem StoreOf_c (w : World) (p : PlanA) (ops : List (Int × Int × Nat)) (hr : Rd w p.oA p.on p.oc 3 (KOp.flat ops)) (hn : p.on ≤ 9223372036854775807) (key : Nat) (hkey : key < 18446744073709551616) :
    Calls Try.prog 27 [.agg #[.int .i64 p.pa, .int .i64 p.st, .int .i64 p.wo, .slice p.oA p.on p.oc, .int .i64 p.ag, .int .i64 p.ba, .int .i64 p.wi, .int .i64 p.gu], .int .u64 (key : Int)].toArray w (Ret (fun v' w' => v' = .int .i64 (storeOf p ops key) ∧ Sat w w' [])) := by
  have hs := Sat.start w
  refine Calls_body Try.func27 rfl rfl rfl (envE_cons (i := 0) (v := .agg #[.int .i64 p.pa, .int .i64 p.st, .int .i64 p.wo, .slice p.oA p.on p.oc, .int .i64 p.ag, .int .i64 p.ba, .int .i64 p.wi, .int .i64 p.gu]) rfl (envE_cons (i := 1) (v := .int .u64 (key : Int)) rfl envE_nil)) ?_
  refine St_seq ?_
  refine St_region ?_
  refine Ls_box hs rfl rfl ?_
  intro b2 w1 hs
  refine Ls_run (run_assign rfl) rfl ?_
  refine Ls_nil ?_
  refine Jm_seq ?_
  refine St_seq ?_
  refine St_seq ?_
  refine St_region ?_
  refine Ls_run (run_load_agg agg34 inf34 rfl rfl (hs.blk_cells 0 rfl 0 8)) rfl ?_
  refine Ls_call Try.func19 nm19 rfl rfl (Check_c w1 p ops (hr.inB hs) hn) rfl ?_
  rintro v3 w4 ⟨rfl, hsQ5⟩
  replace hs := hs.trans hsQ5
  refine Ls_run (run_neq rfl rfl) rfl ?_
  refine Ls_nil ?_
  refine Jm_seq ?_
  refine St_ifP rfl (fun h6 => ?_) (fun h6 => ?_)
  · skip
    refine St_seq ?_
    refine St_region ?_
    refine Ls_run (run_assign rfl) rfl ?_
    refine Ls_nil ?_
    refine Jm_seq ?_
    refine St_ret ?_
    refine Jm_then_ret  ?_
    refine Jm_ret1 rfl rfl ?_
    refine ⟨_, rfl, ?_, hs.forget⟩
    congr 1
    rw [storeOf, if_neg (by assumption)]
  · skip
    have hc : chk p ops = 0 := by omega
    have hk := chk_ok hc
    have hk2 := hk
    unfold numsOk at hk2
    have hkl := key_lt key p.st (by omega)
    refine St_skip ?_
    refine Jm_seq ?_
    refine St_seq ?_
    refine St_region ?_
    refine Ls_run (run_load_agg agg34 inf34 rfl rfl (hs.blk_cells 0 rfl 0 8)) rfl ?_
    refine Ls_run (run_move rfl) rfl ?_
    refine Ls_call Try.func57 nm57 rfl rfl (storeOf_c w4 p hk key hkey) rfl ?_
    rintro v7 w8 ⟨rfl, hsQ9⟩
    replace hs := hs.trans hsQ9
    refine Ls_run (run_assign rfl) rfl ?_
    refine Ls_nil ?_
    refine Jm_seq ?_
    refine St_ret ?_
    refine Jm_ret1 rfl rfl ?_
    refine ⟨_, rfl, ?_, hs.forget⟩
    congr 1
    rw [storeOf, if_pos hc]
set_option maxRecDepth 100000 in
set_option maxHeartbeats 4000000 in
theorem rStoreOf_c (w : World) (p : PlanA) (ops : List (Int × Int × Nat)) (hr : Rd w p.oA p.on p.oc 3 (KOp.flat ops)) (hn : p.on ≤ 9223372036854775807) (key : Nat) (hkey : key < 18446744073709551616) :
    Calls Try.prog 28 [.agg #[.int .i64 p.pa, .int .i64 p.st, .int .i64 p.wo, .slice p.oA p.on p.oc, .int .i64 p.ag, .int .i64 p.ba, .int .i64 p.wi, .int .i64 p.gu], .int .u64 (key : Int)].toArray w (Ret (fun v' w' => v' = .int .i64 (storeOf p ops key) ∧ Sat w w' [])) := by
  have hs := Sat.start w
  refine Calls_body Try.func28 rfl rfl rfl (envE_cons (i := 0) (v := .agg #[.int .i64 p.pa, .int .i64 p.st, .int .i64 p.wo, .slice p.oA p.on p.oc, .int .i64 p.ag, .int .i64 p.ba, .int .i64 p.wi, .int .i64 p.gu]) rfl (envE_cons (i := 1) (v := .int .u64 (key : Int)) rfl envE_nil)) ?_
  refine St_seq ?_
  refine St_region ?_
  refine Ls_box hs rfl rfl ?_
  intro b2 w1 hs
  refine Ls_run (run_assign rfl) rfl ?_
  refine Ls_nil ?_
  refine Jm_seq ?_
  refine St_seq ?_
  refine St_seq ?_
  refine St_region ?_
  refine Ls_run (run_load_agg agg34 inf34 rfl rfl (hs.blk_cells 0 rfl 0 8)) rfl ?_
  refine Ls_call Try.func20 nm20 rfl rfl (rCheck_c w1 p ops (hr.inB hs) hn) rfl ?_
  rintro v3 w4 ⟨rfl, hsQ5⟩
  replace hs := hs.trans hsQ5
  refine Ls_run (run_neq rfl rfl) rfl ?_
  refine Ls_nil ?_
  refine Jm_seq ?_
  refine St_ifP rfl (fun h6 => ?_) (fun h6 => ?_)
  · skip
    refine St_seq ?_
    refine St_region ?_
    refine Ls_run (run_assign rfl) rfl ?_
    refine Ls_nil ?_
    refine Jm_seq ?_
    refine St_ret ?_
    refine Jm_then_ret  ?_
    refine Jm_ret1 rfl rfl ?_
    refine ⟨_, rfl, ?_, hs.forget⟩
    congr 1
    rw [storeOf, if_neg (by assumption)]
  · skip
    have hc : chk p ops = 0 := by omega
    have hk := chk_ok hc
    have hk2 := hk
    unfold numsOk at hk2
    have hkl := key_lt key p.st (by omega)
    refine St_skip ?_
    refine Jm_seq ?_
    refine St_seq ?_
    refine St_draw (fun x => Below w4.heap.size w4 x) mixed ?_
    intro w7 q8
    have hH := q8.below
    replace hs := hs.quiet q8
    refine An_grow hH ?_
    replace hH := Below.refl w7.heap.size w7
    refine An_take 0 rfl (by kernel_rfl) (by kernel_rfl) (by kernel_rfl) (fun _ _ _ h => h) hH (fun x hx => run_field Try.underlying34 rfl inf3 (by decide) rfl) rfl ?_
    refine An_take 1 rfl (by kernel_rfl) (by kernel_rfl) (by kernel_rfl) (fun _ _ _ h => h) hH (fun x hx => run_load sc3 rfl ((hs.grow hx).blk_at 0 rfl 2 rfl)) rfl ?_
    refine An_take 2 rfl (by kernel_rfl) (by kernel_rfl) (by kernel_rfl) (fun _ _ _ h => h) hH (fun x hx => run_add rfl rfl (w64 (by omega))) rfl ?_
    refine An_take 3 rfl (by kernel_rfl) (by kernel_rfl) (by kernel_rfl) (fun _ _ _ h => h) hH (fun x hx => run_move rfl) rfl ?_
    refine An_take 4 rfl (by kernel_rfl) (by kernel_rfl) (by kernel_rfl) (fun _ _ _ h => h) hH (fun x hx => run_field Try.underlying34 rfl inf3 (by decide) rfl) rfl ?_
    refine An_take 5 rfl (by kernel_rfl) (by kernel_rfl) (by kernel_rfl) (fun _ _ _ h => h) hH (fun x hx => run_load sc3 rfl ((hs.grow hx).blk_at 0 rfl 1 rfl)) rfl ?_
    refine An_take 6 rfl (by kernel_rfl) (by kernel_rfl) (by kernel_rfl) (fun _ _ _ h => h) hH (fun x hx => run_conv_int Try.underlying23 us3 rfl (wu64 (by omega))) rfl ?_
    refine An_take 7 rfl (by kernel_rfl) (by kernel_rfl) (by kernel_rfl) (fun _ _ _ h => h) hH (fun x hx => run_rem rfl rfl (by omega) (key_mod key p.st (by omega))) rfl ?_
    refine An_take 8 rfl (by kernel_rfl) (by kernel_rfl) (by kernel_rfl) (fun _ _ _ h => h) hH (fun x hx => run_conv_int Try.underlying3 us23 rfl (w64 (by omega))) rfl ?_
    refine An_take 9 rfl (by kernel_rfl) (by kernel_rfl) (by kernel_rfl) (fun _ _ _ h => h) hH (fun x hx => run_add rfl rfl (w64 (by omega))) rfl ?_
    refine An_take 10 rfl (by kernel_rfl) (by kernel_rfl) (by kernel_rfl) (fun _ _ _ h => h) hH (fun x hx => run_assign rfl) rfl ?_
    refine An_done (by kernel_rfl) ?_
    refine Jm_seq ?_
    refine St_ret ?_
    refine Jm_ret1 rfl rfl ?_
    refine ⟨_, rfl, ?_, hs.forget⟩
    congr 1
    rw [storeOf, if_pos hc]
end Go.Proofs.Ytnmeaokfcalbbaa.Lg
