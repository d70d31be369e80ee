/-
  The plan's functions and the reference's, walked. By program (gen/plan1.py).
-/
import Derived.Test.YtnmeaokfcalbbaaBl
import Derived.Test.YtnmeaokfcalbbaaPlanPure
set_option linter.unusedVariables false
set_option linter.unusedSimpArgs false
namespace Go.Proofs.Ytnmeaokfcalbbaa.Lg
open Go Go.RowKit Go.Proofs.Ytnmeaokfcalbbaa.PlanPure
set_option maxRecDepth 100000 in
set_option maxHeartbeats 4000000 in
theorem within_c (w : World) (a b : Int) :
    Calls Try.prog 53 [.int .i64 a, .int .i64 b].toArray w (Ret (fun v' w' => w = w' ∧ v' = .bool (decide (1 ≤ a ∧ a ≤ b)))) := by
  refine Calls_body Try.func53 rfl rfl rfl (envE_cons (i := 0) (v := .int .i64 a) rfl (envE_cons (i := 1) (v := .int .i64 b) rfl envE_nil)) ?_
  refine St_seq ?_
  refine St_region ?_
  refine Ls_run (run_assign rfl) rfl ?_
  refine Ls_nil ?_
  refine Jm_seq ?_
  refine St_seq ?_
  refine St_region ?_
  refine Ls_run (run_move rfl) rfl ?_
  refine Ls_run (run_geq rfl rfl) rfl ?_
  refine Ls_run (run_move rfl) rfl ?_
  refine Ls_partP (t := 7) rfl (fun h1 => ?_) (fun h1 => ?_)
  · skip
    refine Ls_on rfl rfl ?_
    refine Ls_run (run_move rfl) rfl ?_
    refine Ls_on rfl rfl ?_
    refine Ls_run (run_move rfl) rfl ?_
    refine Ls_on rfl rfl ?_
    refine Ls_run (run_leq rfl rfl) rfl ?_
    refine Ls_run (run_pick_t rfl rfl) rfl ?_
    refine Ls_run (run_assign rfl) rfl ?_
    refine Ls_nil ?_
    refine Jm_seq ?_
    refine St_ret ?_
    refine Jm_ret1 rfl rfl ?_
    first | exact ⟨_, rfl, rfl, by congr 1; exact decide_eq_decide.2 (by omega)⟩ | exact ⟨_, rfl, rfl, by congr 1; exact (decide_eq_true (by omega)).symm⟩ | exact ⟨_, rfl, rfl, by congr 1; exact (decide_eq_false (by omega)).symm⟩
  · skip
    refine Ls_off rfl rfl rfl rfl ?_
    refine Ls_off rfl rfl rfl rfl ?_
    refine Ls_off rfl rfl rfl rfl ?_
    refine Ls_run (run_pick_f rfl rfl) rfl ?_
    refine Ls_run (run_assign rfl) rfl ?_
    refine Ls_nil ?_
    refine Jm_seq ?_
    refine St_ret ?_
    refine Jm_ret1 rfl rfl ?_
    first | exact ⟨_, rfl, rfl, by congr 1; exact decide_eq_decide.2 (by omega)⟩ | exact ⟨_, rfl, rfl, by congr 1; exact (decide_eq_true (by omega)).symm⟩ | exact ⟨_, rfl, rfl, by congr 1; exact (decide_eq_false (by omega)).symm⟩
set_option maxRecDepth 100000 in
set_option maxHeartbeats 4000000 in
theorem rKnown_c (w : World) (a : Int) :
    Calls Try.prog 54 [.int .i64 a].toArray w (Ret (fun v' w' => w = w' ∧ v' = .bool (decide (1 ≤ a ∧ a ≤ 4)))) := by
  refine Calls_body Try.func54 rfl rfl rfl (envE_cons (i := 0) (v := .int .i64 a) rfl envE_nil) ?_
  refine St_seq ?_
  refine St_region ?_
  refine Ls_run (run_assign rfl) rfl ?_
  refine Ls_nil ?_
  refine Jm_seq ?_
  refine St_seq ?_
  refine St_region ?_
  refine Ls_run (run_move rfl) rfl ?_
  refine Ls_run (run_geq rfl rfl) rfl ?_
  refine Ls_run (run_move rfl) rfl ?_
  refine Ls_partP (t := 5) rfl (fun h1 => ?_) (fun h1 => ?_)
  · skip
    refine Ls_on rfl rfl ?_
    refine Ls_run (run_move rfl) rfl ?_
    refine Ls_on rfl rfl ?_
    refine Ls_run (run_leq rfl rfl) rfl ?_
    refine Ls_run (run_pick_t rfl rfl) rfl ?_
    refine Ls_run (run_assign rfl) rfl ?_
    refine Ls_nil ?_
    refine Jm_seq ?_
    refine St_ret ?_
    refine Jm_ret1 rfl rfl ?_
    first | exact ⟨_, rfl, rfl, by congr 1; exact decide_eq_decide.2 (by omega)⟩ | exact ⟨_, rfl, rfl, by congr 1; exact (decide_eq_true (by omega)).symm⟩ | exact ⟨_, rfl, rfl, by congr 1; exact (decide_eq_false (by omega)).symm⟩
  · skip
    refine Ls_off rfl rfl rfl rfl ?_
    refine Ls_off rfl rfl rfl rfl ?_
    refine Ls_run (run_pick_f rfl rfl) rfl ?_
    refine Ls_run (run_assign rfl) rfl ?_
    refine Ls_nil ?_
    refine Jm_seq ?_
    refine St_ret ?_
    refine Jm_ret1 rfl rfl ?_
    first | exact ⟨_, rfl, rfl, by congr 1; exact decide_eq_decide.2 (by omega)⟩ | exact ⟨_, rfl, rfl, by congr 1; exact (decide_eq_true (by omega)).symm⟩ | exact ⟨_, rfl, rfl, by congr 1; exact (decide_eq_false (by omega)).symm⟩
set_option maxRecDepth 100000 in
set_option maxHeartbeats 4000000 in
theorem Known_c (w : World) (a : Int) :
    Calls Try.prog 60 [.int .i64 a].toArray w (Ret (fun v' w' => w = w' ∧ v' = .bool (decide (1 ≤ a ∧ a ≤ 4)))) := by
  refine Calls_body Try.func60 rfl rfl rfl (envE_cons (i := 0) (v := .int .i64 a) rfl envE_nil) ?_
  refine St_seq ?_
  refine St_region ?_
  refine Ls_run (run_assign rfl) rfl ?_
  refine Ls_nil ?_
  refine Jm_seq ?_
  refine St_seq ?_
  refine St_region ?_
  refine Ls_run (run_move rfl) rfl ?_
  refine Ls_run (run_geq rfl rfl) rfl ?_
  refine Ls_run (run_move rfl) rfl ?_
  refine Ls_partP (t := 5) rfl (fun h1 => ?_) (fun h1 => ?_)
  · skip
    refine Ls_on rfl rfl ?_
    refine Ls_run (run_move rfl) rfl ?_
    refine Ls_on rfl rfl ?_
    refine Ls_run (run_leq rfl rfl) rfl ?_
    refine Ls_run (run_pick_t rfl rfl) rfl ?_
    refine Ls_run (run_assign rfl) rfl ?_
    refine Ls_nil ?_
    refine Jm_seq ?_
    refine St_ret ?_
    refine Jm_ret1 rfl rfl ?_
    first | exact ⟨_, rfl, rfl, by congr 1; exact decide_eq_decide.2 (by omega)⟩ | exact ⟨_, rfl, rfl, by congr 1; exact (decide_eq_true (by omega)).symm⟩ | exact ⟨_, rfl, rfl, by congr 1; exact (decide_eq_false (by omega)).symm⟩
  · skip
    refine Ls_off rfl rfl rfl rfl ?_
    refine Ls_off rfl rfl rfl rfl ?_
    refine Ls_run (run_pick_f rfl rfl) rfl ?_
    refine Ls_run (run_assign rfl) rfl ?_
    refine Ls_nil ?_
    refine Jm_seq ?_
    refine St_ret ?_
    refine Jm_ret1 rfl rfl ?_
    first | exact ⟨_, rfl, rfl, by congr 1; exact decide_eq_decide.2 (by omega)⟩ | exact ⟨_, rfl, rfl, by congr 1; exact (decide_eq_true (by omega)).symm⟩ | exact ⟨_, rfl, rfl, by congr 1; exact (decide_eq_false (by omega)).symm⟩
set_option maxRecDepth 100000 in
set_option maxHeartbeats 4000000 in
theorem isStep_c (w : World) (k m : Int) (x : Nat) :
    Calls Try.prog 61 [.agg #[.int .i64 k, .int .i64 m, .float .f64 x]].toArray w (Ret (fun v' w' => v' = .bool (decide (opOk k m)) ∧ Sat w w' [])) := by
  have hs := Sat.start w
  refine Calls_body Try.func61 rfl rfl rfl (envE_cons (i := 0) (v := .agg #[.int .i64 k, .int .i64 m, .float .f64 x]) rfl envE_nil) ?_
  refine St_seq ?_
  refine St_region ?_
  refine Ls_box hs rfl rfl ?_
  intro b2 w1 hs
  refine Ls_run (run_assign rfl) rfl ?_
  refine Ls_nil ?_
  refine Jm_seq ?_
  refine St_seq ?_
  refine St_seq ?_
  refine St_region ?_
  refine Ls_run (run_field Try.underlying80 rfl inf3 (by decide) rfl) rfl ?_
  refine Ls_run (run_load sc3 rfl (hs.blk_at 0 rfl 0 rfl)) rfl ?_
  refine Ls_nil ?_
  refine Jm_seq ?_
  refine St_block ?_
  refine St_seq ?_
  refine St_region ?_
  refine Ls_run (run_eql rfl rfl) rfl ?_
  refine Ls_run (run_assign rfl) rfl ?_
  refine Ls_nil ?_
  refine Jm_seq ?_
  refine St_ifP rfl (fun h3 => ?_) (fun h3 => ?_)
  · skip
    refine St_seq ?_
    refine St_region ?_
    refine Ls_run (run_field Try.underlying80 rfl inf2 (by decide) rfl) rfl ?_
    refine Ls_run (run_load sc2 rfl (hs.blk_at 0 rfl 1 rfl)) rfl ?_
    refine Ls_run (run_geq rfl rfl) rfl ?_
    refine Ls_run (run_move rfl) rfl ?_
    refine Ls_partP (t := 10) rfl (fun h4 => ?_) (fun h4 => ?_)
    · skip
      refine Ls_on rfl rfl ?_
      refine Ls_run (run_field Try.underlying80 rfl inf2 (by decide) rfl) rfl ?_
      refine Ls_on rfl rfl ?_
      refine Ls_run (run_load sc2 rfl (hs.blk_at 0 rfl 1 rfl)) rfl ?_
      refine Ls_on rfl rfl ?_
      refine Ls_run (run_leq rfl rfl) rfl ?_
      refine Ls_run (run_pick_t rfl rfl) rfl ?_
      refine Ls_run (run_assign rfl) rfl ?_
      refine Ls_nil ?_
      refine Jm_seq ?_
      refine St_ret ?_
      refine Jm_block_ret (Jm_then_ret  ?_)
      refine Jm_ret1 rfl rfl ?_
      first | exact ⟨_, rfl, by congr 1; exact decide_eq_decide.2 (by unfold opOk; omega), hs.forget⟩ | exact ⟨_, rfl, by congr 1; exact (decide_eq_true (by unfold opOk; omega)).symm, hs.forget⟩ | exact ⟨_, rfl, by congr 1; exact (decide_eq_false (by unfold opOk; omega)).symm, hs.forget⟩
    · skip
      refine Ls_off rfl rfl rfl rfl ?_
      refine Ls_off rfl rfl rfl rfl ?_
      refine Ls_off rfl rfl rfl rfl ?_
      refine Ls_run (run_pick_f rfl rfl) rfl ?_
      refine Ls_run (run_assign rfl) rfl ?_
      refine Ls_nil ?_
      refine Jm_seq ?_
      refine St_ret ?_
      refine Jm_block_ret (Jm_then_ret  ?_)
      refine Jm_ret1 rfl rfl ?_
      first | exact ⟨_, rfl, by congr 1; exact decide_eq_decide.2 (by unfold opOk; omega), hs.forget⟩ | exact ⟨_, rfl, by congr 1; exact (decide_eq_true (by unfold opOk; omega)).symm, hs.forget⟩ | exact ⟨_, rfl, by congr 1; exact (decide_eq_false (by unfold opOk; omega)).symm, hs.forget⟩
  · skip
    refine St_seq ?_
    refine St_region ?_
    refine Ls_run (run_eql rfl rfl) rfl ?_
    refine Ls_run (run_assign rfl) rfl ?_
    refine Ls_nil ?_
    refine Jm_seq ?_
    refine St_ifP rfl (fun h5 => ?_) (fun h5 => ?_)
    · skip
      refine St_seq ?_
      refine St_region ?_
      refine Ls_run (run_field Try.underlying80 rfl inf2 (by decide) rfl) rfl ?_
      refine Ls_run (run_load sc2 rfl (hs.blk_at 0 rfl 1 rfl)) rfl ?_
      refine Ls_run (run_geq rfl rfl) rfl ?_
      refine Ls_run (run_assign rfl) rfl ?_
      refine Ls_nil ?_
      refine Jm_seq ?_
      refine St_ret ?_
      refine Jm_block_ret (Jm_then_ret  ?_)
      refine Jm_ret1 rfl rfl ?_
      first | exact ⟨_, rfl, by congr 1; exact decide_eq_decide.2 (by unfold opOk; omega), hs.forget⟩ | exact ⟨_, rfl, by congr 1; exact (decide_eq_true (by unfold opOk; omega)).symm, hs.forget⟩ | exact ⟨_, rfl, by congr 1; exact (decide_eq_false (by unfold opOk; omega)).symm, hs.forget⟩
    · skip
      refine St_skip ?_
      refine Jm_block_normal (Jm_seq ?_)
      refine St_seq ?_
      refine St_region ?_
      refine Ls_run (run_field Try.underlying80 rfl inf3 (by decide) rfl) rfl ?_
      refine Ls_run (run_load sc3 rfl (hs.blk_at 0 rfl 0 rfl)) rfl ?_
      refine Ls_run (run_geq rfl rfl) rfl ?_
      refine Ls_run (run_move rfl) rfl ?_
      refine Ls_partP (t := 23) rfl (fun h6 => ?_) (fun h6 => ?_)
      · skip
        refine Ls_on rfl rfl ?_
        refine Ls_run (run_field Try.underlying80 rfl inf3 (by decide) rfl) rfl ?_
        refine Ls_on rfl rfl ?_
        refine Ls_run (run_load sc3 rfl (hs.blk_at 0 rfl 0 rfl)) rfl ?_
        refine Ls_on rfl rfl ?_
        refine Ls_run (run_leq rfl rfl) rfl ?_
        refine Ls_run (run_pick_t rfl rfl) rfl ?_
        refine Ls_run (run_assign rfl) rfl ?_
        refine Ls_nil ?_
        refine Jm_seq ?_
        refine St_ret ?_
        refine Jm_ret1 rfl rfl ?_
        first | exact ⟨_, rfl, by congr 1; exact decide_eq_decide.2 (by unfold opOk; omega), hs.forget⟩ | exact ⟨_, rfl, by congr 1; exact (decide_eq_true (by unfold opOk; omega)).symm, hs.forget⟩ | exact ⟨_, rfl, by congr 1; exact (decide_eq_false (by unfold opOk; omega)).symm, hs.forget⟩
      · skip
        refine Ls_off rfl rfl rfl rfl ?_
        refine Ls_off rfl rfl rfl rfl ?_
        refine Ls_off rfl rfl rfl rfl ?_
        refine Ls_run (run_pick_f rfl rfl) rfl ?_
        refine Ls_run (run_assign rfl) rfl ?_
        refine Ls_nil ?_
        refine Jm_seq ?_
        refine St_ret ?_
        refine Jm_ret1 rfl rfl ?_
        first | exact ⟨_, rfl, by congr 1; exact decide_eq_decide.2 (by unfold opOk; omega), hs.forget⟩ | exact ⟨_, rfl, by congr 1; exact (decide_eq_true (by unfold opOk; omega)).symm, hs.forget⟩ | exact ⟨_, rfl, by congr 1; exact (decide_eq_false (by unfold opOk; omega)).symm, hs.forget⟩
set_option maxRecDepth 100000 in
set_option maxHeartbeats 4000000 in
theorem step_c (w : World) (k m : Int) (x : Nat) :
    Calls Try.prog 62 [.agg #[.int .i64 k, .int .i64 m, .float .f64 x]].toArray w (Ret (fun v' w' => v' = .bool (decide (opOk k m)) ∧ Sat w w' [])) := by
  have hs := Sat.start w
  refine Calls_body Try.func62 rfl rfl rfl (envE_cons (i := 0) (v := .agg #[.int .i64 k, .int .i64 m, .float .f64 x]) rfl envE_nil) ?_
  refine St_seq ?_
  refine St_region ?_
  refine Ls_box hs rfl rfl ?_
  intro b2 w1 hs
  refine Ls_run (run_assign rfl) rfl ?_
  refine Ls_nil ?_
  refine Jm_seq ?_
  refine St_seq ?_
  refine St_seq ?_
  refine St_region ?_
  refine Ls_run (run_field Try.underlying80 rfl inf3 (by decide) rfl) rfl ?_
  refine Ls_run (run_load sc3 rfl (hs.blk_at 0 rfl 0 rfl)) rfl ?_
  refine Ls_nil ?_
  refine Jm_seq ?_
  refine St_block ?_
  refine St_seq ?_
  refine St_seq ?_
  refine St_region ?_
  refine Ls_run (run_eql rfl rfl) rfl ?_
  refine Ls_run (run_assign rfl) rfl ?_
  refine Ls_nil ?_
  refine Jm_seq ?_
  refine St_ifP rfl (fun h3 => ?_) (fun h3 => ?_)
  · skip
    refine St_skip ?_
    refine Jm_seq ?_
    refine St_ifP rfl (fun h4 => ?_) (fun h4 => ?_)
    · skip
      refine St_seq ?_
      refine St_region ?_
      refine Ls_run (run_assign rfl) rfl ?_
      refine Ls_nil ?_
      refine Jm_seq ?_
      refine St_ret ?_
      refine Jm_block_ret (Jm_then_ret  ?_)
      refine Jm_ret1 rfl rfl ?_
      first | exact ⟨_, rfl, by congr 1; exact decide_eq_decide.2 (by unfold opOk; omega), hs.forget⟩ | exact ⟨_, rfl, by congr 1; exact (decide_eq_true (by unfold opOk; omega)).symm, hs.forget⟩ | exact ⟨_, rfl, by congr 1; exact (decide_eq_false (by unfold opOk; omega)).symm, hs.forget⟩
    · skip
      refine St_seq ?_
      refine St_region ?_
      refine Ls_run (run_eql rfl rfl) rfl ?_
      refine Ls_run (run_assign rfl) rfl ?_
      refine Ls_nil ?_
      refine Jm_seq ?_
      refine St_ifP rfl (fun h5 => ?_) (fun h5 => ?_)
      · skip
        refine St_seq ?_
        refine St_region ?_
        refine Ls_run (run_field Try.underlying80 rfl inf2 (by decide) rfl) rfl ?_
        refine Ls_run (run_load sc2 rfl (hs.blk_at 0 rfl 1 rfl)) rfl ?_
        refine Ls_run (run_geq rfl rfl) rfl ?_
        refine Ls_run (run_move rfl) rfl ?_
        refine Ls_partP (t := 21) rfl (fun h6 => ?_) (fun h6 => ?_)
        · skip
          refine Ls_on rfl rfl ?_
          refine Ls_run (run_field Try.underlying80 rfl inf2 (by decide) rfl) rfl ?_
          refine Ls_on rfl rfl ?_
          refine Ls_run (run_load sc2 rfl (hs.blk_at 0 rfl 1 rfl)) rfl ?_
          refine Ls_on rfl rfl ?_
          refine Ls_run (run_leq rfl rfl) rfl ?_
          refine Ls_run (run_pick_t rfl rfl) rfl ?_
          refine Ls_run (run_assign rfl) rfl ?_
          refine Ls_nil ?_
          refine Jm_seq ?_
          refine St_ret ?_
          refine Jm_block_ret (Jm_then_ret  ?_)
          refine Jm_ret1 rfl rfl ?_
          first | exact ⟨_, rfl, by congr 1; exact decide_eq_decide.2 (by unfold opOk; omega), hs.forget⟩ | exact ⟨_, rfl, by congr 1; exact (decide_eq_true (by unfold opOk; omega)).symm, hs.forget⟩ | exact ⟨_, rfl, by congr 1; exact (decide_eq_false (by unfold opOk; omega)).symm, hs.forget⟩
        · skip
          refine Ls_off rfl rfl rfl rfl ?_
          refine Ls_off rfl rfl rfl rfl ?_
          refine Ls_off rfl rfl rfl rfl ?_
          refine Ls_run (run_pick_f rfl rfl) rfl ?_
          refine Ls_run (run_assign rfl) rfl ?_
          refine Ls_nil ?_
          refine Jm_seq ?_
          refine St_ret ?_
          refine Jm_block_ret (Jm_then_ret  ?_)
          refine Jm_ret1 rfl rfl ?_
          first | exact ⟨_, rfl, by congr 1; exact decide_eq_decide.2 (by unfold opOk; omega), hs.forget⟩ | exact ⟨_, rfl, by congr 1; exact (decide_eq_true (by unfold opOk; omega)).symm, hs.forget⟩ | exact ⟨_, rfl, by congr 1; exact (decide_eq_false (by unfold opOk; omega)).symm, hs.forget⟩
      · skip
        refine St_seq ?_
        refine St_region ?_
        refine Ls_run (run_eql rfl rfl) rfl ?_
        refine Ls_run (run_assign rfl) rfl ?_
        refine Ls_nil ?_
        refine Jm_seq ?_
        refine St_ifP rfl (fun h7 => ?_) (fun h7 => ?_)
        · skip
          refine St_seq ?_
          refine St_region ?_
          refine Ls_run (run_field Try.underlying80 rfl inf2 (by decide) rfl) rfl ?_
          refine Ls_run (run_load sc2 rfl (hs.blk_at 0 rfl 1 rfl)) rfl ?_
          refine Ls_run (run_geq rfl rfl) rfl ?_
          refine Ls_run (run_assign rfl) rfl ?_
          refine Ls_nil ?_
          refine Jm_seq ?_
          refine St_ret ?_
          refine Jm_block_ret (Jm_then_ret  ?_)
          refine Jm_ret1 rfl rfl ?_
          first | exact ⟨_, rfl, by congr 1; exact decide_eq_decide.2 (by unfold opOk; omega), hs.forget⟩ | exact ⟨_, rfl, by congr 1; exact (decide_eq_true (by unfold opOk; omega)).symm, hs.forget⟩ | exact ⟨_, rfl, by congr 1; exact (decide_eq_false (by unfold opOk; omega)).symm, hs.forget⟩
        · skip
          refine St_skip ?_
          refine Jm_block_normal (Jm_seq ?_)
          refine St_seq ?_
          refine St_region ?_
          refine Ls_run (run_assign rfl) rfl ?_
          refine Ls_nil ?_
          refine Jm_seq ?_
          refine St_ret ?_
          refine Jm_ret1 rfl rfl ?_
          first | exact ⟨_, rfl, by congr 1; exact decide_eq_decide.2 (by unfold opOk; omega), hs.forget⟩ | exact ⟨_, rfl, by congr 1; exact (decide_eq_true (by unfold opOk; omega)).symm, hs.forget⟩ | exact ⟨_, rfl, by congr 1; exact (decide_eq_false (by unfold opOk; omega)).symm, hs.forget⟩
  · skip
    refine St_seq ?_
    refine St_region ?_
    refine Ls_run (run_eql rfl rfl) rfl ?_
    refine Ls_run (run_assign rfl) rfl ?_
    refine Ls_nil ?_
    refine Jm_seq ?_
    refine St_ifP rfl (fun h8 => ?_) (fun h8 => ?_)
    · skip
      refine St_skip ?_
      refine Jm_seq ?_
      refine St_ifP rfl (fun h9 => ?_) (fun h9 => ?_)
      · skip
        refine St_seq ?_
        refine St_region ?_
        refine Ls_run (run_assign rfl) rfl ?_
        refine Ls_nil ?_
        refine Jm_seq ?_
        refine St_ret ?_
        refine Jm_block_ret (Jm_then_ret  ?_)
        refine Jm_ret1 rfl rfl ?_
        first | exact ⟨_, rfl, by congr 1; exact decide_eq_decide.2 (by unfold opOk; omega), hs.forget⟩ | exact ⟨_, rfl, by congr 1; exact (decide_eq_true (by unfold opOk; omega)).symm, hs.forget⟩ | exact ⟨_, rfl, by congr 1; exact (decide_eq_false (by unfold opOk; omega)).symm, hs.forget⟩
      · skip
        refine St_seq ?_
        refine St_region ?_
        refine Ls_run (run_eql rfl rfl) rfl ?_
        refine Ls_run (run_assign rfl) rfl ?_
        refine Ls_nil ?_
        refine Jm_seq ?_
        refine St_ifP rfl (fun h10 => ?_) (fun h10 => ?_)
        · skip
          refine St_seq ?_
          refine St_region ?_
          refine Ls_run (run_field Try.underlying80 rfl inf2 (by decide) rfl) rfl ?_
          refine Ls_run (run_load sc2 rfl (hs.blk_at 0 rfl 1 rfl)) rfl ?_
          refine Ls_run (run_geq rfl rfl) rfl ?_
          refine Ls_run (run_move rfl) rfl ?_
          refine Ls_partP (t := 21) rfl (fun h11 => ?_) (fun h11 => ?_)
          · skip
            refine Ls_on rfl rfl ?_
            refine Ls_run (run_field Try.underlying80 rfl inf2 (by decide) rfl) rfl ?_
            refine Ls_on rfl rfl ?_
            refine Ls_run (run_load sc2 rfl (hs.blk_at 0 rfl 1 rfl)) rfl ?_
            refine Ls_on rfl rfl ?_
            refine Ls_run (run_leq rfl rfl) rfl ?_
            refine Ls_run (run_pick_t rfl rfl) rfl ?_
            refine Ls_run (run_assign rfl) rfl ?_
            refine Ls_nil ?_
            refine Jm_seq ?_
            refine St_ret ?_
            refine Jm_block_ret (Jm_then_ret  ?_)
            refine Jm_ret1 rfl rfl ?_
            first | exact ⟨_, rfl, by congr 1; exact decide_eq_decide.2 (by unfold opOk; omega), hs.forget⟩ | exact ⟨_, rfl, by congr 1; exact (decide_eq_true (by unfold opOk; omega)).symm, hs.forget⟩ | exact ⟨_, rfl, by congr 1; exact (decide_eq_false (by unfold opOk; omega)).symm, hs.forget⟩
          · skip
            refine Ls_off rfl rfl rfl rfl ?_
            refine Ls_off rfl rfl rfl rfl ?_
            refine Ls_off rfl rfl rfl rfl ?_
            refine Ls_run (run_pick_f rfl rfl) rfl ?_
            refine Ls_run (run_assign rfl) rfl ?_
            refine Ls_nil ?_
            refine Jm_seq ?_
            refine St_ret ?_
            refine Jm_block_ret (Jm_then_ret  ?_)
            refine Jm_ret1 rfl rfl ?_
            first | exact ⟨_, rfl, by congr 1; exact decide_eq_decide.2 (by unfold opOk; omega), hs.forget⟩ | exact ⟨_, rfl, by congr 1; exact (decide_eq_true (by unfold opOk; omega)).symm, hs.forget⟩ | exact ⟨_, rfl, by congr 1; exact (decide_eq_false (by unfold opOk; omega)).symm, hs.forget⟩
        · skip
          refine St_seq ?_
          refine St_region ?_
          refine Ls_run (run_eql rfl rfl) rfl ?_
          refine Ls_run (run_assign rfl) rfl ?_
          refine Ls_nil ?_
          refine Jm_seq ?_
          refine St_ifP rfl (fun h12 => ?_) (fun h12 => ?_)
          · skip
            refine St_seq ?_
            refine St_region ?_
            refine Ls_run (run_field Try.underlying80 rfl inf2 (by decide) rfl) rfl ?_
            refine Ls_run (run_load sc2 rfl (hs.blk_at 0 rfl 1 rfl)) rfl ?_
            refine Ls_run (run_geq rfl rfl) rfl ?_
            refine Ls_run (run_assign rfl) rfl ?_
            refine Ls_nil ?_
            refine Jm_seq ?_
            refine St_ret ?_
            refine Jm_block_ret (Jm_then_ret  ?_)
            refine Jm_ret1 rfl rfl ?_
            first | exact ⟨_, rfl, by congr 1; exact decide_eq_decide.2 (by unfold opOk; omega), hs.forget⟩ | exact ⟨_, rfl, by congr 1; exact (decide_eq_true (by unfold opOk; omega)).symm, hs.forget⟩ | exact ⟨_, rfl, by congr 1; exact (decide_eq_false (by unfold opOk; omega)).symm, hs.forget⟩
          · skip
            refine St_skip ?_
            refine Jm_block_normal (Jm_seq ?_)
            refine St_seq ?_
            refine St_region ?_
            refine Ls_run (run_assign rfl) rfl ?_
            refine Ls_nil ?_
            refine Jm_seq ?_
            refine St_ret ?_
            refine Jm_ret1 rfl rfl ?_
            first | exact ⟨_, rfl, by congr 1; exact decide_eq_decide.2 (by unfold opOk; omega), hs.forget⟩ | exact ⟨_, rfl, by congr 1; exact (decide_eq_true (by unfold opOk; omega)).symm, hs.forget⟩ | exact ⟨_, rfl, by congr 1; exact (decide_eq_false (by unfold opOk; omega)).symm, hs.forget⟩
    · skip
      refine St_seq ?_
      refine St_region ?_
      refine Ls_run (run_eql rfl rfl) rfl ?_
      refine Ls_run (run_assign rfl) rfl ?_
      refine Ls_nil ?_
      refine Jm_seq ?_
      refine St_ifP rfl (fun h13 => ?_) (fun h13 => ?_)
      · skip
        refine St_skip ?_
        refine Jm_seq ?_
        refine St_ifP rfl (fun h14 => ?_) (fun h14 => ?_)
        · skip
          refine St_seq ?_
          refine St_region ?_
          refine Ls_run (run_assign rfl) rfl ?_
          refine Ls_nil ?_
          refine Jm_seq ?_
          refine St_ret ?_
          refine Jm_block_ret (Jm_then_ret  ?_)
          refine Jm_ret1 rfl rfl ?_
          first | exact ⟨_, rfl, by congr 1; exact decide_eq_decide.2 (by unfold opOk; omega), hs.forget⟩ | exact ⟨_, rfl, by congr 1; exact (decide_eq_true (by unfold opOk; omega)).symm, hs.forget⟩ | exact ⟨_, rfl, by congr 1; exact (decide_eq_false (by unfold opOk; omega)).symm, hs.forget⟩
        · skip
          refine St_seq ?_
          refine St_region ?_
          refine Ls_run (run_eql rfl rfl) rfl ?_
          refine Ls_run (run_assign rfl) rfl ?_
          refine Ls_nil ?_
          refine Jm_seq ?_
          refine St_ifP rfl (fun h15 => ?_) (fun h15 => ?_)
          · skip
            refine St_seq ?_
            refine St_region ?_
            refine Ls_run (run_field Try.underlying80 rfl inf2 (by decide) rfl) rfl ?_
            refine Ls_run (run_load sc2 rfl (hs.blk_at 0 rfl 1 rfl)) rfl ?_
            refine Ls_run (run_geq rfl rfl) rfl ?_
            refine Ls_run (run_move rfl) rfl ?_
            refine Ls_partP (t := 21) rfl (fun h16 => ?_) (fun h16 => ?_)
            · skip
              refine Ls_on rfl rfl ?_
              refine Ls_run (run_field Try.underlying80 rfl inf2 (by decide) rfl) rfl ?_
              refine Ls_on rfl rfl ?_
              refine Ls_run (run_load sc2 rfl (hs.blk_at 0 rfl 1 rfl)) rfl ?_
              refine Ls_on rfl rfl ?_
              refine Ls_run (run_leq rfl rfl) rfl ?_
              refine Ls_run (run_pick_t rfl rfl) rfl ?_
              refine Ls_run (run_assign rfl) rfl ?_
              refine Ls_nil ?_
              refine Jm_seq ?_
              refine St_ret ?_
              refine Jm_block_ret (Jm_then_ret  ?_)
              refine Jm_ret1 rfl rfl ?_
              first | exact ⟨_, rfl, by congr 1; exact decide_eq_decide.2 (by unfold opOk; omega), hs.forget⟩ | exact ⟨_, rfl, by congr 1; exact (decide_eq_true (by unfold opOk; omega)).symm, hs.forget⟩ | exact ⟨_, rfl, by congr 1; exact (decide_eq_false (by unfold opOk; omega)).symm, hs.forget⟩
            · skip
              refine Ls_off rfl rfl rfl rfl ?_
              refine Ls_off rfl rfl rfl rfl ?_
              refine Ls_off rfl rfl rfl rfl ?_
              refine Ls_run (run_pick_f rfl rfl) rfl ?_
              refine Ls_run (run_assign rfl) rfl ?_
              refine Ls_nil ?_
              refine Jm_seq ?_
              refine St_ret ?_
              refine Jm_block_ret (Jm_then_ret  ?_)
              refine Jm_ret1 rfl rfl ?_
              first | exact ⟨_, rfl, by congr 1; exact decide_eq_decide.2 (by unfold opOk; omega), hs.forget⟩ | exact ⟨_, rfl, by congr 1; exact (decide_eq_true (by unfold opOk; omega)).symm, hs.forget⟩ | exact ⟨_, rfl, by congr 1; exact (decide_eq_false (by unfold opOk; omega)).symm, hs.forget⟩
          · skip
            refine St_seq ?_
            refine St_region ?_
            refine Ls_run (run_eql rfl rfl) rfl ?_
            refine Ls_run (run_assign rfl) rfl ?_
            refine Ls_nil ?_
            refine Jm_seq ?_
            refine St_ifP rfl (fun h17 => ?_) (fun h17 => ?_)
            · skip
              refine St_seq ?_
              refine St_region ?_
              refine Ls_run (run_field Try.underlying80 rfl inf2 (by decide) rfl) rfl ?_
              refine Ls_run (run_load sc2 rfl (hs.blk_at 0 rfl 1 rfl)) rfl ?_
              refine Ls_run (run_geq rfl rfl) rfl ?_
              refine Ls_run (run_assign rfl) rfl ?_
              refine Ls_nil ?_
              refine Jm_seq ?_
              refine St_ret ?_
              refine Jm_block_ret (Jm_then_ret  ?_)
              refine Jm_ret1 rfl rfl ?_
              first | exact ⟨_, rfl, by congr 1; exact decide_eq_decide.2 (by unfold opOk; omega), hs.forget⟩ | exact ⟨_, rfl, by congr 1; exact (decide_eq_true (by unfold opOk; omega)).symm, hs.forget⟩ | exact ⟨_, rfl, by congr 1; exact (decide_eq_false (by unfold opOk; omega)).symm, hs.forget⟩
            · skip
              refine St_skip ?_
              refine Jm_block_normal (Jm_seq ?_)
              refine St_seq ?_
              refine St_region ?_
              refine Ls_run (run_assign rfl) rfl ?_
              refine Ls_nil ?_
              refine Jm_seq ?_
              refine St_ret ?_
              refine Jm_ret1 rfl rfl ?_
              first | exact ⟨_, rfl, by congr 1; exact decide_eq_decide.2 (by unfold opOk; omega), hs.forget⟩ | exact ⟨_, rfl, by congr 1; exact (decide_eq_true (by unfold opOk; omega)).symm, hs.forget⟩ | exact ⟨_, rfl, by congr 1; exact (decide_eq_false (by unfold opOk; omega)).symm, hs.forget⟩
      · skip
        refine St_seq ?_
        refine St_region ?_
        refine Ls_run (run_eql rfl rfl) rfl ?_
        refine Ls_run (run_assign rfl) rfl ?_
        refine Ls_nil ?_
        refine Jm_seq ?_
        refine St_ifP rfl (fun h18 => ?_) (fun h18 => ?_)
        · skip
          refine St_skip ?_
          refine Jm_seq ?_
          refine St_ifP rfl (fun h19 => ?_) (fun h19 => ?_)
          · skip
            refine St_seq ?_
            refine St_region ?_
            refine Ls_run (run_assign rfl) rfl ?_
            refine Ls_nil ?_
            refine Jm_seq ?_
            refine St_ret ?_
            refine Jm_block_ret (Jm_then_ret  ?_)
            refine Jm_ret1 rfl rfl ?_
            first | exact ⟨_, rfl, by congr 1; exact decide_eq_decide.2 (by unfold opOk; omega), hs.forget⟩ | exact ⟨_, rfl, by congr 1; exact (decide_eq_true (by unfold opOk; omega)).symm, hs.forget⟩ | exact ⟨_, rfl, by congr 1; exact (decide_eq_false (by unfold opOk; omega)).symm, hs.forget⟩
          · skip
            refine St_seq ?_
            refine St_region ?_
            refine Ls_run (run_eql rfl rfl) rfl ?_
            refine Ls_run (run_assign rfl) rfl ?_
            refine Ls_nil ?_
            refine Jm_seq ?_
            refine St_ifP rfl (fun h20 => ?_) (fun h20 => ?_)
            · skip
              refine St_seq ?_
              refine St_region ?_
              refine Ls_run (run_field Try.underlying80 rfl inf2 (by decide) rfl) rfl ?_
              refine Ls_run (run_load sc2 rfl (hs.blk_at 0 rfl 1 rfl)) rfl ?_
              refine Ls_run (run_geq rfl rfl) rfl ?_
              refine Ls_run (run_move rfl) rfl ?_
              refine Ls_partP (t := 21) rfl (fun h21 => ?_) (fun h21 => ?_)
              · skip
                refine Ls_on rfl rfl ?_
                refine Ls_run (run_field Try.underlying80 rfl inf2 (by decide) rfl) rfl ?_
                refine Ls_on rfl rfl ?_
                refine Ls_run (run_load sc2 rfl (hs.blk_at 0 rfl 1 rfl)) rfl ?_
                refine Ls_on rfl rfl ?_
                refine Ls_run (run_leq rfl rfl) rfl ?_
                refine Ls_run (run_pick_t rfl rfl) rfl ?_
                refine Ls_run (run_assign rfl) rfl ?_
                refine Ls_nil ?_
                refine Jm_seq ?_
                refine St_ret ?_
                refine Jm_block_ret (Jm_then_ret  ?_)
                refine Jm_ret1 rfl rfl ?_
                first | exact ⟨_, rfl, by congr 1; exact decide_eq_decide.2 (by unfold opOk; omega), hs.forget⟩ | exact ⟨_, rfl, by congr 1; exact (decide_eq_true (by unfold opOk; omega)).symm, hs.forget⟩ | exact ⟨_, rfl, by congr 1; exact (decide_eq_false (by unfold opOk; omega)).symm, hs.forget⟩
              · skip
                refine Ls_off rfl rfl rfl rfl ?_
                refine Ls_off rfl rfl rfl rfl ?_
                refine Ls_off rfl rfl rfl rfl ?_
                refine Ls_run (run_pick_f rfl rfl) rfl ?_
                refine Ls_run (run_assign rfl) rfl ?_
                refine Ls_nil ?_
                refine Jm_seq ?_
                refine St_ret ?_
                refine Jm_block_ret (Jm_then_ret  ?_)
                refine Jm_ret1 rfl rfl ?_
                first | exact ⟨_, rfl, by congr 1; exact decide_eq_decide.2 (by unfold opOk; omega), hs.forget⟩ | exact ⟨_, rfl, by congr 1; exact (decide_eq_true (by unfold opOk; omega)).symm, hs.forget⟩ | exact ⟨_, rfl, by congr 1; exact (decide_eq_false (by unfold opOk; omega)).symm, hs.forget⟩
            · skip
              refine St_seq ?_
              refine St_region ?_
              refine Ls_run (run_eql rfl rfl) rfl ?_
              refine Ls_run (run_assign rfl) rfl ?_
              refine Ls_nil ?_
              refine Jm_seq ?_
              refine St_ifP rfl (fun h22 => ?_) (fun h22 => ?_)
              · skip
                refine St_seq ?_
                refine St_region ?_
                refine Ls_run (run_field Try.underlying80 rfl inf2 (by decide) rfl) rfl ?_
                refine Ls_run (run_load sc2 rfl (hs.blk_at 0 rfl 1 rfl)) rfl ?_
                refine Ls_run (run_geq rfl rfl) rfl ?_
                refine Ls_run (run_assign rfl) rfl ?_
                refine Ls_nil ?_
                refine Jm_seq ?_
                refine St_ret ?_
                refine Jm_block_ret (Jm_then_ret  ?_)
                refine Jm_ret1 rfl rfl ?_
                first | exact ⟨_, rfl, by congr 1; exact decide_eq_decide.2 (by unfold opOk; omega), hs.forget⟩ | exact ⟨_, rfl, by congr 1; exact (decide_eq_true (by unfold opOk; omega)).symm, hs.forget⟩ | exact ⟨_, rfl, by congr 1; exact (decide_eq_false (by unfold opOk; omega)).symm, hs.forget⟩
              · skip
                refine St_skip ?_
                refine Jm_block_normal (Jm_seq ?_)
                refine St_seq ?_
                refine St_region ?_
                refine Ls_run (run_assign rfl) rfl ?_
                refine Ls_nil ?_
                refine Jm_seq ?_
                refine St_ret ?_
                refine Jm_ret1 rfl rfl ?_
                first | exact ⟨_, rfl, by congr 1; exact decide_eq_decide.2 (by unfold opOk; omega), hs.forget⟩ | exact ⟨_, rfl, by congr 1; exact (decide_eq_true (by unfold opOk; omega)).symm, hs.forget⟩ | exact ⟨_, rfl, by congr 1; exact (decide_eq_false (by unfold opOk; omega)).symm, hs.forget⟩
        · skip
          refine St_seq ?_
          refine St_region ?_
          refine Ls_run (run_eql rfl rfl) rfl ?_
          refine Ls_run (run_assign rfl) rfl ?_
          refine Ls_nil ?_
          refine Jm_seq ?_
          refine St_ifP rfl (fun h23 => ?_) (fun h23 => ?_)
          · skip
            refine St_skip ?_
            refine Jm_seq ?_
            refine St_ifP rfl (fun h24 => ?_) (fun h24 => ?_)
            · skip
              refine St_seq ?_
              refine St_region ?_
              refine Ls_run (run_assign rfl) rfl ?_
              refine Ls_nil ?_
              refine Jm_seq ?_
              refine St_ret ?_
              refine Jm_block_ret (Jm_then_ret  ?_)
              refine Jm_ret1 rfl rfl ?_
              first | exact ⟨_, rfl, by congr 1; exact decide_eq_decide.2 (by unfold opOk; omega), hs.forget⟩ | exact ⟨_, rfl, by congr 1; exact (decide_eq_true (by unfold opOk; omega)).symm, hs.forget⟩ | exact ⟨_, rfl, by congr 1; exact (decide_eq_false (by unfold opOk; omega)).symm, hs.forget⟩
            · skip
              refine St_seq ?_
              refine St_region ?_
              refine Ls_run (run_eql rfl rfl) rfl ?_
              refine Ls_run (run_assign rfl) rfl ?_
              refine Ls_nil ?_
              refine Jm_seq ?_
              refine St_ifP rfl (fun h25 => ?_) (fun h25 => ?_)
              · skip
                refine St_seq ?_
                refine St_region ?_
                refine Ls_run (run_field Try.underlying80 rfl inf2 (by decide) rfl) rfl ?_
                refine Ls_run (run_load sc2 rfl (hs.blk_at 0 rfl 1 rfl)) rfl ?_
                refine Ls_run (run_geq rfl rfl) rfl ?_
                refine Ls_run (run_move rfl) rfl ?_
                refine Ls_partP (t := 21) rfl (fun h26 => ?_) (fun h26 => ?_)
                · skip
                  refine Ls_on rfl rfl ?_
                  refine Ls_run (run_field Try.underlying80 rfl inf2 (by decide) rfl) rfl ?_
                  refine Ls_on rfl rfl ?_
                  refine Ls_run (run_load sc2 rfl (hs.blk_at 0 rfl 1 rfl)) rfl ?_
                  refine Ls_on rfl rfl ?_
                  refine Ls_run (run_leq rfl rfl) rfl ?_
                  refine Ls_run (run_pick_t rfl rfl) rfl ?_
                  refine Ls_run (run_assign rfl) rfl ?_
                  refine Ls_nil ?_
                  refine Jm_seq ?_
                  refine St_ret ?_
                  refine Jm_block_ret (Jm_then_ret  ?_)
                  refine Jm_ret1 rfl rfl ?_
                  first | exact ⟨_, rfl, by congr 1; exact decide_eq_decide.2 (by unfold opOk; omega), hs.forget⟩ | exact ⟨_, rfl, by congr 1; exact (decide_eq_true (by unfold opOk; omega)).symm, hs.forget⟩ | exact ⟨_, rfl, by congr 1; exact (decide_eq_false (by unfold opOk; omega)).symm, hs.forget⟩
                · skip
                  refine Ls_off rfl rfl rfl rfl ?_
                  refine Ls_off rfl rfl rfl rfl ?_
                  refine Ls_off rfl rfl rfl rfl ?_
                  refine Ls_run (run_pick_f rfl rfl) rfl ?_
                  refine Ls_run (run_assign rfl) rfl ?_
                  refine Ls_nil ?_
                  refine Jm_seq ?_
                  refine St_ret ?_
                  refine Jm_block_ret (Jm_then_ret  ?_)
                  refine Jm_ret1 rfl rfl ?_
                  first | exact ⟨_, rfl, by congr 1; exact decide_eq_decide.2 (by unfold opOk; omega), hs.forget⟩ | exact ⟨_, rfl, by congr 1; exact (decide_eq_true (by unfold opOk; omega)).symm, hs.forget⟩ | exact ⟨_, rfl, by congr 1; exact (decide_eq_false (by unfold opOk; omega)).symm, hs.forget⟩
              · skip
                refine St_seq ?_
                refine St_region ?_
                refine Ls_run (run_eql rfl rfl) rfl ?_
                refine Ls_run (run_assign rfl) rfl ?_
                refine Ls_nil ?_
                refine Jm_seq ?_
                refine St_ifP rfl (fun h27 => ?_) (fun h27 => ?_)
                · skip
                  refine St_seq ?_
                  refine St_region ?_
                  refine Ls_run (run_field Try.underlying80 rfl inf2 (by decide) rfl) rfl ?_
                  refine Ls_run (run_load sc2 rfl (hs.blk_at 0 rfl 1 rfl)) rfl ?_
                  refine Ls_run (run_geq rfl rfl) rfl ?_
                  refine Ls_run (run_assign rfl) rfl ?_
                  refine Ls_nil ?_
                  refine Jm_seq ?_
                  refine St_ret ?_
                  refine Jm_block_ret (Jm_then_ret  ?_)
                  refine Jm_ret1 rfl rfl ?_
                  first | exact ⟨_, rfl, by congr 1; exact decide_eq_decide.2 (by unfold opOk; omega), hs.forget⟩ | exact ⟨_, rfl, by congr 1; exact (decide_eq_true (by unfold opOk; omega)).symm, hs.forget⟩ | exact ⟨_, rfl, by congr 1; exact (decide_eq_false (by unfold opOk; omega)).symm, hs.forget⟩
                · skip
                  refine St_skip ?_
                  refine Jm_block_normal (Jm_seq ?_)
                  refine St_seq ?_
                  refine St_region ?_
                  refine Ls_run (run_assign rfl) rfl ?_
                  refine Ls_nil ?_
                  refine Jm_seq ?_
                  refine St_ret ?_
                  refine Jm_ret1 rfl rfl ?_
                  first | exact ⟨_, rfl, by congr 1; exact decide_eq_decide.2 (by unfold opOk; omega), hs.forget⟩ | exact ⟨_, rfl, by congr 1; exact (decide_eq_true (by unfold opOk; omega)).symm, hs.forget⟩ | exact ⟨_, rfl, by congr 1; exact (decide_eq_false (by unfold opOk; omega)).symm, hs.forget⟩
          · skip
            refine St_seq ?_
            refine St_region ?_
            refine Ls_run (run_eql rfl rfl) rfl ?_
            refine Ls_run (run_assign rfl) rfl ?_
            refine Ls_nil ?_
            refine Jm_seq ?_
            refine St_ifP rfl (fun h28 => ?_) (fun h28 => ?_)
            · skip
              refine St_skip ?_
              refine Jm_seq ?_
              refine St_ifP rfl (fun h29 => ?_) (fun h29 => ?_)
              · skip
                refine St_seq ?_
                refine St_region ?_
                refine Ls_run (run_assign rfl) rfl ?_
                refine Ls_nil ?_
                refine Jm_seq ?_
                refine St_ret ?_
                refine Jm_block_ret (Jm_then_ret  ?_)
                refine Jm_ret1 rfl rfl ?_
                first | exact ⟨_, rfl, by congr 1; exact decide_eq_decide.2 (by unfold opOk; omega), hs.forget⟩ | exact ⟨_, rfl, by congr 1; exact (decide_eq_true (by unfold opOk; omega)).symm, hs.forget⟩ | exact ⟨_, rfl, by congr 1; exact (decide_eq_false (by unfold opOk; omega)).symm, hs.forget⟩
              · skip
                refine St_seq ?_
                refine St_region ?_
                refine Ls_run (run_eql rfl rfl) rfl ?_
                refine Ls_run (run_assign rfl) rfl ?_
                refine Ls_nil ?_
                refine Jm_seq ?_
                refine St_ifP rfl (fun h30 => ?_) (fun h30 => ?_)
                · skip
                  refine St_seq ?_
                  refine St_region ?_
                  refine Ls_run (run_field Try.underlying80 rfl inf2 (by decide) rfl) rfl ?_
                  refine Ls_run (run_load sc2 rfl (hs.blk_at 0 rfl 1 rfl)) rfl ?_
                  refine Ls_run (run_geq rfl rfl) rfl ?_
                  refine Ls_run (run_move rfl) rfl ?_
                  refine Ls_partP (t := 21) rfl (fun h31 => ?_) (fun h31 => ?_)
                  · skip
                    refine Ls_on rfl rfl ?_
                    refine Ls_run (run_field Try.underlying80 rfl inf2 (by decide) rfl) rfl ?_
                    refine Ls_on rfl rfl ?_
                    refine Ls_run (run_load sc2 rfl (hs.blk_at 0 rfl 1 rfl)) rfl ?_
                    refine Ls_on rfl rfl ?_
                    refine Ls_run (run_leq rfl rfl) rfl ?_
                    refine Ls_run (run_pick_t rfl rfl) rfl ?_
                    refine Ls_run (run_assign rfl) rfl ?_
                    refine Ls_nil ?_
                    refine Jm_seq ?_
                    refine St_ret ?_
                    refine Jm_block_ret (Jm_then_ret  ?_)
                    refine Jm_ret1 rfl rfl ?_
                    first | exact ⟨_, rfl, by congr 1; exact decide_eq_decide.2 (by unfold opOk; omega), hs.forget⟩ | exact ⟨_, rfl, by congr 1; exact (decide_eq_true (by unfold opOk; omega)).symm, hs.forget⟩ | exact ⟨_, rfl, by congr 1; exact (decide_eq_false (by unfold opOk; omega)).symm, hs.forget⟩
                  · skip
                    refine Ls_off rfl rfl rfl rfl ?_
                    refine Ls_off rfl rfl rfl rfl ?_
                    refine Ls_off rfl rfl rfl rfl ?_
                    refine Ls_run (run_pick_f rfl rfl) rfl ?_
                    refine Ls_run (run_assign rfl) rfl ?_
                    refine Ls_nil ?_
                    refine Jm_seq ?_
                    refine St_ret ?_
                    refine Jm_block_ret (Jm_then_ret  ?_)
                    refine Jm_ret1 rfl rfl ?_
                    first | exact ⟨_, rfl, by congr 1; exact decide_eq_decide.2 (by unfold opOk; omega), hs.forget⟩ | exact ⟨_, rfl, by congr 1; exact (decide_eq_true (by unfold opOk; omega)).symm, hs.forget⟩ | exact ⟨_, rfl, by congr 1; exact (decide_eq_false (by unfold opOk; omega)).symm, hs.forget⟩
                · skip
                  refine St_seq ?_
                  refine St_region ?_
                  refine Ls_run (run_eql rfl rfl) rfl ?_
                  refine Ls_run (run_assign rfl) rfl ?_
                  refine Ls_nil ?_
                  refine Jm_seq ?_
                  refine St_ifP rfl (fun h32 => ?_) (fun h32 => ?_)
                  · skip
                    refine St_seq ?_
                    refine St_region ?_
                    refine Ls_run (run_field Try.underlying80 rfl inf2 (by decide) rfl) rfl ?_
                    refine Ls_run (run_load sc2 rfl (hs.blk_at 0 rfl 1 rfl)) rfl ?_
                    refine Ls_run (run_geq rfl rfl) rfl ?_
                    refine Ls_run (run_assign rfl) rfl ?_
                    refine Ls_nil ?_
                    refine Jm_seq ?_
                    refine St_ret ?_
                    refine Jm_block_ret (Jm_then_ret  ?_)
                    refine Jm_ret1 rfl rfl ?_
                    first | exact ⟨_, rfl, by congr 1; exact decide_eq_decide.2 (by unfold opOk; omega), hs.forget⟩ | exact ⟨_, rfl, by congr 1; exact (decide_eq_true (by unfold opOk; omega)).symm, hs.forget⟩ | exact ⟨_, rfl, by congr 1; exact (decide_eq_false (by unfold opOk; omega)).symm, hs.forget⟩
                  · skip
                    refine St_skip ?_
                    refine Jm_block_normal (Jm_seq ?_)
                    refine St_seq ?_
                    refine St_region ?_
                    refine Ls_run (run_assign rfl) rfl ?_
                    refine Ls_nil ?_
                    refine Jm_seq ?_
                    refine St_ret ?_
                    refine Jm_ret1 rfl rfl ?_
                    first | exact ⟨_, rfl, by congr 1; exact decide_eq_decide.2 (by unfold opOk; omega), hs.forget⟩ | exact ⟨_, rfl, by congr 1; exact (decide_eq_true (by unfold opOk; omega)).symm, hs.forget⟩ | exact ⟨_, rfl, by congr 1; exact (decide_eq_false (by unfold opOk; omega)).symm, hs.forget⟩
            · skip
              refine St_seq ?_
              refine St_region ?_
              refine Ls_run (run_eql rfl rfl) rfl ?_
              refine Ls_run (run_assign rfl) rfl ?_
              refine Ls_nil ?_
              refine Jm_seq ?_
              refine St_ifP rfl (fun h33 => ?_) (fun h33 => ?_)
              · skip
                refine St_skip ?_
                refine Jm_seq ?_
                refine St_ifP rfl (fun h34 => ?_) (fun h34 => ?_)
                · skip
                  refine St_seq ?_
                  refine St_region ?_
                  refine Ls_run (run_assign rfl) rfl ?_
                  refine Ls_nil ?_
                  refine Jm_seq ?_
                  refine St_ret ?_
                  refine Jm_block_ret (Jm_then_ret  ?_)
                  refine Jm_ret1 rfl rfl ?_
                  first | exact ⟨_, rfl, by congr 1; exact decide_eq_decide.2 (by unfold opOk; omega), hs.forget⟩ | exact ⟨_, rfl, by congr 1; exact (decide_eq_true (by unfold opOk; omega)).symm, hs.forget⟩ | exact ⟨_, rfl, by congr 1; exact (decide_eq_false (by unfold opOk; omega)).symm, hs.forget⟩
                · skip
                  refine St_seq ?_
                  refine St_region ?_
                  refine Ls_run (run_eql rfl rfl) rfl ?_
                  refine Ls_run (run_assign rfl) rfl ?_
                  refine Ls_nil ?_
                  refine Jm_seq ?_
                  refine St_ifP rfl (fun h35 => ?_) (fun h35 => ?_)
                  · skip
                    refine St_seq ?_
                    refine St_region ?_
                    refine Ls_run (run_field Try.underlying80 rfl inf2 (by decide) rfl) rfl ?_
                    refine Ls_run (run_load sc2 rfl (hs.blk_at 0 rfl 1 rfl)) rfl ?_
                    refine Ls_run (run_geq rfl rfl) rfl ?_
                    refine Ls_run (run_move rfl) rfl ?_
                    refine Ls_partP (t := 21) rfl (fun h36 => ?_) (fun h36 => ?_)
                    · skip
                      refine Ls_on rfl rfl ?_
                      refine Ls_run (run_field Try.underlying80 rfl inf2 (by decide) rfl) rfl ?_
                      refine Ls_on rfl rfl ?_
                      refine Ls_run (run_load sc2 rfl (hs.blk_at 0 rfl 1 rfl)) rfl ?_
                      refine Ls_on rfl rfl ?_
                      refine Ls_run (run_leq rfl rfl) rfl ?_
                      refine Ls_run (run_pick_t rfl rfl) rfl ?_
                      refine Ls_run (run_assign rfl) rfl ?_
                      refine Ls_nil ?_
                      refine Jm_seq ?_
                      refine St_ret ?_
                      refine Jm_block_ret (Jm_then_ret  ?_)
                      refine Jm_ret1 rfl rfl ?_
                      first | exact ⟨_, rfl, by congr 1; exact decide_eq_decide.2 (by unfold opOk; omega), hs.forget⟩ | exact ⟨_, rfl, by congr 1; exact (decide_eq_true (by unfold opOk; omega)).symm, hs.forget⟩ | exact ⟨_, rfl, by congr 1; exact (decide_eq_false (by unfold opOk; omega)).symm, hs.forget⟩
                    · skip
                      refine Ls_off rfl rfl rfl rfl ?_
                      refine Ls_off rfl rfl rfl rfl ?_
                      refine Ls_off rfl rfl rfl rfl ?_
                      refine Ls_run (run_pick_f rfl rfl) rfl ?_
                      refine Ls_run (run_assign rfl) rfl ?_
                      refine Ls_nil ?_
                      refine Jm_seq ?_
                      refine St_ret ?_
                      refine Jm_block_ret (Jm_then_ret  ?_)
                      refine Jm_ret1 rfl rfl ?_
                      first | exact ⟨_, rfl, by congr 1; exact decide_eq_decide.2 (by unfold opOk; omega), hs.forget⟩ | exact ⟨_, rfl, by congr 1; exact (decide_eq_true (by unfold opOk; omega)).symm, hs.forget⟩ | exact ⟨_, rfl, by congr 1; exact (decide_eq_false (by unfold opOk; omega)).symm, hs.forget⟩
                  · skip
                    refine St_seq ?_
                    refine St_region ?_
                    refine Ls_run (run_eql rfl rfl) rfl ?_
                    refine Ls_run (run_assign rfl) rfl ?_
                    refine Ls_nil ?_
                    refine Jm_seq ?_
                    refine St_ifP rfl (fun h37 => ?_) (fun h37 => ?_)
                    · skip
                      refine St_seq ?_
                      refine St_region ?_
                      refine Ls_run (run_field Try.underlying80 rfl inf2 (by decide) rfl) rfl ?_
                      refine Ls_run (run_load sc2 rfl (hs.blk_at 0 rfl 1 rfl)) rfl ?_
                      refine Ls_run (run_geq rfl rfl) rfl ?_
                      refine Ls_run (run_assign rfl) rfl ?_
                      refine Ls_nil ?_
                      refine Jm_seq ?_
                      refine St_ret ?_
                      refine Jm_block_ret (Jm_then_ret  ?_)
                      refine Jm_ret1 rfl rfl ?_
                      first | exact ⟨_, rfl, by congr 1; exact decide_eq_decide.2 (by unfold opOk; omega), hs.forget⟩ | exact ⟨_, rfl, by congr 1; exact (decide_eq_true (by unfold opOk; omega)).symm, hs.forget⟩ | exact ⟨_, rfl, by congr 1; exact (decide_eq_false (by unfold opOk; omega)).symm, hs.forget⟩
                    · skip
                      refine St_skip ?_
                      refine Jm_block_normal (Jm_seq ?_)
                      refine St_seq ?_
                      refine St_region ?_
                      refine Ls_run (run_assign rfl) rfl ?_
                      refine Ls_nil ?_
                      refine Jm_seq ?_
                      refine St_ret ?_
                      refine Jm_ret1 rfl rfl ?_
                      first | exact ⟨_, rfl, by congr 1; exact decide_eq_decide.2 (by unfold opOk; omega), hs.forget⟩ | exact ⟨_, rfl, by congr 1; exact (decide_eq_true (by unfold opOk; omega)).symm, hs.forget⟩ | exact ⟨_, rfl, by congr 1; exact (decide_eq_false (by unfold opOk; omega)).symm, hs.forget⟩
              · skip
                refine St_seq ?_
                refine St_region ?_
                refine Ls_run (run_eql rfl rfl) rfl ?_
                refine Ls_run (run_assign rfl) rfl ?_
                refine Ls_nil ?_
                refine Jm_seq ?_
                refine St_ifP rfl (fun h38 => ?_) (fun h38 => ?_)
                · skip
                  refine St_skip ?_
                  refine Jm_seq ?_
                  refine St_ifP rfl (fun h39 => ?_) (fun h39 => ?_)
                  · skip
                    refine St_seq ?_
                    refine St_region ?_
                    refine Ls_run (run_assign rfl) rfl ?_
                    refine Ls_nil ?_
                    refine Jm_seq ?_
                    refine St_ret ?_
                    refine Jm_block_ret (Jm_then_ret  ?_)
                    refine Jm_ret1 rfl rfl ?_
                    first | exact ⟨_, rfl, by congr 1; exact decide_eq_decide.2 (by unfold opOk; omega), hs.forget⟩ | exact ⟨_, rfl, by congr 1; exact (decide_eq_true (by unfold opOk; omega)).symm, hs.forget⟩ | exact ⟨_, rfl, by congr 1; exact (decide_eq_false (by unfold opOk; omega)).symm, hs.forget⟩
                  · skip
                    refine St_seq ?_
                    refine St_region ?_
                    refine Ls_run (run_eql rfl rfl) rfl ?_
                    refine Ls_run (run_assign rfl) rfl ?_
                    refine Ls_nil ?_
                    refine Jm_seq ?_
                    refine St_ifP rfl (fun h40 => ?_) (fun h40 => ?_)
                    · skip
                      refine St_seq ?_
                      refine St_region ?_
                      refine Ls_run (run_field Try.underlying80 rfl inf2 (by decide) rfl) rfl ?_
                      refine Ls_run (run_load sc2 rfl (hs.blk_at 0 rfl 1 rfl)) rfl ?_
                      refine Ls_run (run_geq rfl rfl) rfl ?_
                      refine Ls_run (run_move rfl) rfl ?_
                      refine Ls_partP (t := 21) rfl (fun h41 => ?_) (fun h41 => ?_)
                      · skip
                        refine Ls_on rfl rfl ?_
                        refine Ls_run (run_field Try.underlying80 rfl inf2 (by decide) rfl) rfl ?_
                        refine Ls_on rfl rfl ?_
                        refine Ls_run (run_load sc2 rfl (hs.blk_at 0 rfl 1 rfl)) rfl ?_
                        refine Ls_on rfl rfl ?_
                        refine Ls_run (run_leq rfl rfl) rfl ?_
                        refine Ls_run (run_pick_t rfl rfl) rfl ?_
                        refine Ls_run (run_assign rfl) rfl ?_
                        refine Ls_nil ?_
                        refine Jm_seq ?_
                        refine St_ret ?_
                        refine Jm_block_ret (Jm_then_ret  ?_)
                        refine Jm_ret1 rfl rfl ?_
                        first | exact ⟨_, rfl, by congr 1; exact decide_eq_decide.2 (by unfold opOk; omega), hs.forget⟩ | exact ⟨_, rfl, by congr 1; exact (decide_eq_true (by unfold opOk; omega)).symm, hs.forget⟩ | exact ⟨_, rfl, by congr 1; exact (decide_eq_false (by unfold opOk; omega)).symm, hs.forget⟩
                      · skip
                        refine Ls_off rfl rfl rfl rfl ?_
                        refine Ls_off rfl rfl rfl rfl ?_
                        refine Ls_off rfl rfl rfl rfl ?_
                        refine Ls_run (run_pick_f rfl rfl) rfl ?_
                        refine Ls_run (run_assign rfl) rfl ?_
                        refine Ls_nil ?_
                        refine Jm_seq ?_
                        refine St_ret ?_
                        refine Jm_block_ret (Jm_then_ret  ?_)
                        refine Jm_ret1 rfl rfl ?_
                        first | exact ⟨_, rfl, by congr 1; exact decide_eq_decide.2 (by unfold opOk; omega), hs.forget⟩ | exact ⟨_, rfl, by congr 1; exact (decide_eq_true (by unfold opOk; omega)).symm, hs.forget⟩ | exact ⟨_, rfl, by congr 1; exact (decide_eq_false (by unfold opOk; omega)).symm, hs.forget⟩
                    · skip
                      refine St_seq ?_
                      refine St_region ?_
                      refine Ls_run (run_eql rfl rfl) rfl ?_
                      refine Ls_run (run_assign rfl) rfl ?_
                      refine Ls_nil ?_
                      refine Jm_seq ?_
                      refine St_ifP rfl (fun h42 => ?_) (fun h42 => ?_)
                      · skip
                        refine St_seq ?_
                        refine St_region ?_
                        refine Ls_run (run_field Try.underlying80 rfl inf2 (by decide) rfl) rfl ?_
                        refine Ls_run (run_load sc2 rfl (hs.blk_at 0 rfl 1 rfl)) rfl ?_
                        refine Ls_run (run_geq rfl rfl) rfl ?_
                        refine Ls_run (run_assign rfl) rfl ?_
                        refine Ls_nil ?_
                        refine Jm_seq ?_
                        refine St_ret ?_
                        refine Jm_block_ret (Jm_then_ret  ?_)
                        refine Jm_ret1 rfl rfl ?_
                        first | exact ⟨_, rfl, by congr 1; exact decide_eq_decide.2 (by unfold opOk; omega), hs.forget⟩ | exact ⟨_, rfl, by congr 1; exact (decide_eq_true (by unfold opOk; omega)).symm, hs.forget⟩ | exact ⟨_, rfl, by congr 1; exact (decide_eq_false (by unfold opOk; omega)).symm, hs.forget⟩
                      · skip
                        refine St_skip ?_
                        refine Jm_block_normal (Jm_seq ?_)
                        refine St_seq ?_
                        refine St_region ?_
                        refine Ls_run (run_assign rfl) rfl ?_
                        refine Ls_nil ?_
                        refine Jm_seq ?_
                        refine St_ret ?_
                        refine Jm_ret1 rfl rfl ?_
                        first | exact ⟨_, rfl, by congr 1; exact decide_eq_decide.2 (by unfold opOk; omega), hs.forget⟩ | exact ⟨_, rfl, by congr 1; exact (decide_eq_true (by unfold opOk; omega)).symm, hs.forget⟩ | exact ⟨_, rfl, by congr 1; exact (decide_eq_false (by unfold opOk; omega)).symm, hs.forget⟩
                · skip
                  refine St_seq ?_
                  refine St_region ?_
                  refine Ls_run (run_eql rfl rfl) rfl ?_
                  refine Ls_run (run_assign rfl) rfl ?_
                  refine Ls_nil ?_
                  refine Jm_seq ?_
                  refine St_ifP rfl (fun h43 => ?_) (fun h43 => ?_)
                  · skip
                    refine St_skip ?_
                    refine Jm_seq ?_
                    refine St_ifP rfl (fun h44 => ?_) (fun h44 => ?_)
                    · skip
                      refine St_seq ?_
                      refine St_region ?_
                      refine Ls_run (run_assign rfl) rfl ?_
                      refine Ls_nil ?_
                      refine Jm_seq ?_
                      refine St_ret ?_
                      refine Jm_block_ret (Jm_then_ret  ?_)
                      refine Jm_ret1 rfl rfl ?_
                      first | exact ⟨_, rfl, by congr 1; exact decide_eq_decide.2 (by unfold opOk; omega), hs.forget⟩ | exact ⟨_, rfl, by congr 1; exact (decide_eq_true (by unfold opOk; omega)).symm, hs.forget⟩ | exact ⟨_, rfl, by congr 1; exact (decide_eq_false (by unfold opOk; omega)).symm, hs.forget⟩
                    · skip
                      refine St_seq ?_
                      refine St_region ?_
                      refine Ls_run (run_eql rfl rfl) rfl ?_
                      refine Ls_run (run_assign rfl) rfl ?_
                      refine Ls_nil ?_
                      refine Jm_seq ?_
                      refine St_ifP rfl (fun h45 => ?_) (fun h45 => ?_)
                      · skip
                        refine St_seq ?_
                        refine St_region ?_
                        refine Ls_run (run_field Try.underlying80 rfl inf2 (by decide) rfl) rfl ?_
                        refine Ls_run (run_load sc2 rfl (hs.blk_at 0 rfl 1 rfl)) rfl ?_
                        refine Ls_run (run_geq rfl rfl) rfl ?_
                        refine Ls_run (run_move rfl) rfl ?_
                        refine Ls_partP (t := 21) rfl (fun h46 => ?_) (fun h46 => ?_)
                        · skip
                          refine Ls_on rfl rfl ?_
                          refine Ls_run (run_field Try.underlying80 rfl inf2 (by decide) rfl) rfl ?_
                          refine Ls_on rfl rfl ?_
                          refine Ls_run (run_load sc2 rfl (hs.blk_at 0 rfl 1 rfl)) rfl ?_
                          refine Ls_on rfl rfl ?_
                          refine Ls_run (run_leq rfl rfl) rfl ?_
                          refine Ls_run (run_pick_t rfl rfl) rfl ?_
                          refine Ls_run (run_assign rfl) rfl ?_
                          refine Ls_nil ?_
                          refine Jm_seq ?_
                          refine St_ret ?_
                          refine Jm_block_ret (Jm_then_ret  ?_)
                          refine Jm_ret1 rfl rfl ?_
                          first | exact ⟨_, rfl, by congr 1; exact decide_eq_decide.2 (by unfold opOk; omega), hs.forget⟩ | exact ⟨_, rfl, by congr 1; exact (decide_eq_true (by unfold opOk; omega)).symm, hs.forget⟩ | exact ⟨_, rfl, by congr 1; exact (decide_eq_false (by unfold opOk; omega)).symm, hs.forget⟩
                        · skip
                          refine Ls_off rfl rfl rfl rfl ?_
                          refine Ls_off rfl rfl rfl rfl ?_
                          refine Ls_off rfl rfl rfl rfl ?_
                          refine Ls_run (run_pick_f rfl rfl) rfl ?_
                          refine Ls_run (run_assign rfl) rfl ?_
                          refine Ls_nil ?_
                          refine Jm_seq ?_
                          refine St_ret ?_
                          refine Jm_block_ret (Jm_then_ret  ?_)
                          refine Jm_ret1 rfl rfl ?_
                          first | exact ⟨_, rfl, by congr 1; exact decide_eq_decide.2 (by unfold opOk; omega), hs.forget⟩ | exact ⟨_, rfl, by congr 1; exact (decide_eq_true (by unfold opOk; omega)).symm, hs.forget⟩ | exact ⟨_, rfl, by congr 1; exact (decide_eq_false (by unfold opOk; omega)).symm, hs.forget⟩
                      · skip
                        refine St_seq ?_
                        refine St_region ?_
                        refine Ls_run (run_eql rfl rfl) rfl ?_
                        refine Ls_run (run_assign rfl) rfl ?_
                        refine Ls_nil ?_
                        refine Jm_seq ?_
                        refine St_ifP rfl (fun h47 => ?_) (fun h47 => ?_)
                        · skip
                          refine St_seq ?_
                          refine St_region ?_
                          refine Ls_run (run_field Try.underlying80 rfl inf2 (by decide) rfl) rfl ?_
                          refine Ls_run (run_load sc2 rfl (hs.blk_at 0 rfl 1 rfl)) rfl ?_
                          refine Ls_run (run_geq rfl rfl) rfl ?_
                          refine Ls_run (run_assign rfl) rfl ?_
                          refine Ls_nil ?_
                          refine Jm_seq ?_
                          refine St_ret ?_
                          refine Jm_block_ret (Jm_then_ret  ?_)
                          refine Jm_ret1 rfl rfl ?_
                          first | exact ⟨_, rfl, by congr 1; exact decide_eq_decide.2 (by unfold opOk; omega), hs.forget⟩ | exact ⟨_, rfl, by congr 1; exact (decide_eq_true (by unfold opOk; omega)).symm, hs.forget⟩ | exact ⟨_, rfl, by congr 1; exact (decide_eq_false (by unfold opOk; omega)).symm, hs.forget⟩
                        · skip
                          refine St_skip ?_
                          refine Jm_block_normal (Jm_seq ?_)
                          refine St_seq ?_
                          refine St_region ?_
                          refine Ls_run (run_assign rfl) rfl ?_
                          refine Ls_nil ?_
                          refine Jm_seq ?_
                          refine St_ret ?_
                          refine Jm_ret1 rfl rfl ?_
                          first | exact ⟨_, rfl, by congr 1; exact decide_eq_decide.2 (by unfold opOk; omega), hs.forget⟩ | exact ⟨_, rfl, by congr 1; exact (decide_eq_true (by unfold opOk; omega)).symm, hs.forget⟩ | exact ⟨_, rfl, by congr 1; exact (decide_eq_false (by unfold opOk; omega)).symm, hs.forget⟩
                  · skip
                    refine St_region ?_
                    refine Ls_run (run_eql rfl rfl) rfl ?_
                    refine Ls_run (run_assign rfl) rfl ?_
                    refine Ls_nil ?_
                    refine Jm_seq ?_
                    refine St_ifP rfl (fun h48 => ?_) (fun h48 => ?_)
                    · skip
                      refine St_seq ?_
                      refine St_region ?_
                      refine Ls_run (run_assign rfl) rfl ?_
                      refine Ls_nil ?_
                      refine Jm_seq ?_
                      refine St_ret ?_
                      refine Jm_block_ret (Jm_then_ret  ?_)
                      refine Jm_ret1 rfl rfl ?_
                      first | exact ⟨_, rfl, by congr 1; exact decide_eq_decide.2 (by unfold opOk; omega), hs.forget⟩ | exact ⟨_, rfl, by congr 1; exact (decide_eq_true (by unfold opOk; omega)).symm, hs.forget⟩ | exact ⟨_, rfl, by congr 1; exact (decide_eq_false (by unfold opOk; omega)).symm, hs.forget⟩
                    · skip
                      refine St_seq ?_
                      refine St_region ?_
                      refine Ls_run (run_eql rfl rfl) rfl ?_
                      refine Ls_run (run_assign rfl) rfl ?_
                      refine Ls_nil ?_
                      refine Jm_seq ?_
                      refine St_ifP rfl (fun h49 => ?_) (fun h49 => ?_)
                      · skip
                        refine St_seq ?_
                        refine St_region ?_
                        refine Ls_run (run_field Try.underlying80 rfl inf2 (by decide) rfl) rfl ?_
                        refine Ls_run (run_load sc2 rfl (hs.blk_at 0 rfl 1 rfl)) rfl ?_
                        refine Ls_run (run_geq rfl rfl) rfl ?_
                        refine Ls_run (run_move rfl) rfl ?_
                        refine Ls_partP (t := 21) rfl (fun h50 => ?_) (fun h50 => ?_)
                        · skip
                          refine Ls_on rfl rfl ?_
                          refine Ls_run (run_field Try.underlying80 rfl inf2 (by decide) rfl) rfl ?_
                          refine Ls_on rfl rfl ?_
                          refine Ls_run (run_load sc2 rfl (hs.blk_at 0 rfl 1 rfl)) rfl ?_
                          refine Ls_on rfl rfl ?_
                          refine Ls_run (run_leq rfl rfl) rfl ?_
                          refine Ls_run (run_pick_t rfl rfl) rfl ?_
                          refine Ls_run (run_assign rfl) rfl ?_
                          refine Ls_nil ?_
                          refine Jm_seq ?_
                          refine St_ret ?_
                          refine Jm_block_ret (Jm_then_ret  ?_)
                          refine Jm_ret1 rfl rfl ?_
                          first | exact ⟨_, rfl, by congr 1; exact decide_eq_decide.2 (by unfold opOk; omega), hs.forget⟩ | exact ⟨_, rfl, by congr 1; exact (decide_eq_true (by unfold opOk; omega)).symm, hs.forget⟩ | exact ⟨_, rfl, by congr 1; exact (decide_eq_false (by unfold opOk; omega)).symm, hs.forget⟩
                        · skip
                          refine Ls_off rfl rfl rfl rfl ?_
                          refine Ls_off rfl rfl rfl rfl ?_
                          refine Ls_off rfl rfl rfl rfl ?_
                          refine Ls_run (run_pick_f rfl rfl) rfl ?_
                          refine Ls_run (run_assign rfl) rfl ?_
                          refine Ls_nil ?_
                          refine Jm_seq ?_
                          refine St_ret ?_
                          refine Jm_block_ret (Jm_then_ret  ?_)
                          refine Jm_ret1 rfl rfl ?_
                          first | exact ⟨_, rfl, by congr 1; exact decide_eq_decide.2 (by unfold opOk; omega), hs.forget⟩ | exact ⟨_, rfl, by congr 1; exact (decide_eq_true (by unfold opOk; omega)).symm, hs.forget⟩ | exact ⟨_, rfl, by congr 1; exact (decide_eq_false (by unfold opOk; omega)).symm, hs.forget⟩
                      · skip
                        refine St_seq ?_
                        refine St_region ?_
                        refine Ls_run (run_eql rfl rfl) rfl ?_
                        refine Ls_run (run_assign rfl) rfl ?_
                        refine Ls_nil ?_
                        refine Jm_seq ?_
                        refine St_ifP rfl (fun h51 => ?_) (fun h51 => ?_)
                        · skip
                          refine St_seq ?_
                          refine St_region ?_
                          refine Ls_run (run_field Try.underlying80 rfl inf2 (by decide) rfl) rfl ?_
                          refine Ls_run (run_load sc2 rfl (hs.blk_at 0 rfl 1 rfl)) rfl ?_
                          refine Ls_run (run_geq rfl rfl) rfl ?_
                          refine Ls_run (run_assign rfl) rfl ?_
                          refine Ls_nil ?_
                          refine Jm_seq ?_
                          refine St_ret ?_
                          refine Jm_block_ret (Jm_then_ret  ?_)
                          refine Jm_ret1 rfl rfl ?_
                          first | exact ⟨_, rfl, by congr 1; exact decide_eq_decide.2 (by unfold opOk; omega), hs.forget⟩ | exact ⟨_, rfl, by congr 1; exact (decide_eq_true (by unfold opOk; omega)).symm, hs.forget⟩ | exact ⟨_, rfl, by congr 1; exact (decide_eq_false (by unfold opOk; omega)).symm, hs.forget⟩
                        · skip
                          refine St_skip ?_
                          refine Jm_block_normal (Jm_seq ?_)
                          refine St_seq ?_
                          refine St_region ?_
                          refine Ls_run (run_assign rfl) rfl ?_
                          refine Ls_nil ?_
                          refine Jm_seq ?_
                          refine St_ret ?_
                          refine Jm_ret1 rfl rfl ?_
                          first | exact ⟨_, rfl, by congr 1; exact decide_eq_decide.2 (by unfold opOk; omega), hs.forget⟩ | exact ⟨_, rfl, by congr 1; exact (decide_eq_true (by unfold opOk; omega)).symm, hs.forget⟩ | exact ⟨_, rfl, by congr 1; exact (decide_eq_false (by unfold opOk; omega)).symm, hs.forget⟩
set_option maxRecDepth 100000 in
set_option maxHeartbeats 4000000 in
theorem opsCheck_c (w : World) (A : Option Addr) (n c : Nat) (l : List (Int × Int × Nat)) (hr : Rd w A n c 3 (KOp.flat l)) (hn : n ≤ 9223372036854775807) :
    Calls Try.prog 52 [.slice A n c].toArray w (Ret (fun v' w' => v' = .int .i64 (opsChk l) ∧ Sat w w' [])) := by
  have hs := Sat.start w
  have hl : l.length = n := by have := hr.len; rw [El.flat_length] at this; exact Nat.eq_of_mul_eq_mul_right (by decide) this
  refine Calls_body Try.func52 rfl rfl rfl (envE_cons (i := 0) (v := .slice A n c) rfl envE_nil) ?_
  refine St_seq ?_
  refine St_region ?_
  refine Ls_run (run_assign rfl) rfl ?_
  refine Ls_nil ?_
  refine Jm_seq ?_
  refine St_seq ?_
  refine St_seq ?_
  refine St_region ?_
  refine Ls_run (run_move rfl) rfl ?_
  refine Ls_run (run_len Try.underlying32 rfl) rfl ?_
  refine Ls_run (run_gtr rfl rfl) rfl ?_
  refine Ls_nil ?_
  refine Jm_seq ?_
  refine St_ifP rfl (fun h1 => ?_) (fun h1 => ?_)
  · skip
    refine St_seq ?_
    refine St_region ?_
    refine Ls_run (run_assign rfl) rfl ?_
    refine Ls_nil ?_
    refine Jm_seq ?_
    refine St_ret ?_
    refine Jm_then_ret  ?_
    refine Jm_ret1 rfl rfl ?_
    refine ⟨_, rfl, ?_, hs.forget⟩
    unfold opsChk
    rw [if_pos (show opsBad l from .inl (by omega))]
  · skip
    refine St_skip ?_
    refine Jm_seq ?_
    refine St_seq ?_
    refine St_seq ?_
    refine St_region ?_
    refine Ls_run (run_move rfl) rfl ?_
    refine Ls_run (run_len Try.underlying32 rfl) rfl ?_
    refine Ls_run (run_move rfl) rfl ?_
    refine Ls_nil ?_
    refine Jm_seq ?_
    refine St_block ?_
    obtain ⟨En2, hEn2⟩ : ∃ F : Nat → Env, ∀ (i : Nat), F i = [(8, .slice A n c), (9, .int .i64 (n : Int)), (10, .int .i64 (i : Int))] := ⟨(fun (i : Nat) => [(8, .slice A n c), (9, .int .i64 (n : Int)), (10, .int .i64 (i : Int))]), fun _ => rfl⟩
    obtain ⟨Iv3, hIv3⟩ : ∃ F : Nat → World → Prop, ∀ (i : Nat) (wr : World), F i wr = (Sat w wr [] ∧ i ≤ n ∧ (∀ o ∈ l.take i, opOk o.1 o.2.1)) := ⟨(fun (i : Nat) => fun (wr : World) => Sat w wr [] ∧ i ≤ n ∧ (∀ o ∈ l.take i, opOk o.1 o.2.1)), fun _ _ => rfl⟩
    obtain ⟨ms4, hms4⟩ : ∃ F : Nat → Nat, ∀ (i : Nat), F i = (n - i) := ⟨(fun (i : Nat) => n - i), fun _ => rfl⟩
    refine St_loop En2 Iv3 ms4 (0) ?_ ?_ ?_
    · skip
      rw [hIv3]
      exact ⟨hs.forget, by omega, by simp⟩
    · rw [hEn2]; exact (subE_cons rfl (subE_cons rfl (subE_cons rfl subE_nil)))
    rintro i wr hI5
    rw [hIv3] at hI5
    obtain ⟨hs, hi, hok⟩ := hI5
    refine St_eqE (hEn2 _) ?_
    refine St_seq ?_
    refine St_region ?_
    refine Ls_run (run_lss rfl rfl) rfl ?_
    refine Ls_nil ?_
    refine Jm_seq ?_
    refine St_seq ?_
    refine St_ifP rfl (fun h6 => ?_) (fun h6 => ?_)
    · skip
      refine St_skip ?_
      refine Jm_seq ?_
      refine St_seq ?_
      refine St_block ?_
      refine St_seq ?_
      refine St_region ?_
      obtain ⟨⟨ok, om, ox⟩, ho⟩ : ∃ o, l.getD i (0, 0, 0) = o := ⟨_, rfl⟩
      have hmem : (ok, om, ox) ∈ l := by rw [← ho]; exact getD_mem3 (by omega)
      refine Ls_index (KOp) (hr.inB hs) Try.underlying32 inf80 rfl rfl (by omega) (by omega) ho rfl ?_
      intro b7 o8 hc9
      refine Ls_run (run_load_agg agg80 inf80 rfl rfl hc9) rfl ?_
      refine Ls_alloc hs inf80 rfl ?_
      intro b11 w10 hs
      refine Ls_storeAgg hs inf80 rfl rfl rfl rfl (by simp [KOp, Value.oneCell']) ?_
      intro w12 hs
      refine Ls_nil ?_
      refine Jm_seq ?_
      refine St_seq ?_
      refine St_region ?_
      refine Ls_run (run_load_agg agg80 inf80 rfl rfl (hs.blk_cells 0 rfl 0 3)) rfl ?_
      refine Ls_call Try.func61 nm61 rfl rfl (isStep_c w12 ok om ox) rfl ?_
      rintro v13 w14 ⟨rfl, hsQ15⟩
      replace hs := hs.trans hsQ15
      refine Ls_run (run_not rfl) rfl ?_
      refine Ls_nil ?_
      refine Jm_seq ?_
      refine St_ifN rfl (fun h16 => ?_) (fun h16 => ?_)
      · skip
        refine St_seq ?_
        refine St_region ?_
        refine Ls_run (run_assign rfl) rfl ?_
        refine Ls_nil ?_
        refine Jm_seq ?_
        refine St_ret ?_
        refine Jm_block_ret (Jm_then_ret (Jm_then_ret (Jm_block_ret (Jm_then_ret  ?_))))
        refine Jm_ret1 rfl rfl ?_
        refine ⟨_, rfl, ?_, hs.forget⟩
        unfold opsChk
        rw [if_pos (show opsBad l from .inr ⟨_, hmem, by assumption⟩)]
      · skip
        refine St_skip ?_
        refine Jm_block_normal (Jm_seq ?_)
        refine St_region ?_
        refine Ls_run (run_add rfl rfl (w64 (by omega))) rfl ?_
        refine Ls_run (run_move rfl) rfl ?_
        refine Ls_nil ?_
        refine Jm_round (i + 1) ?_ ?_ ?_
        · rw [hEn2]; exact (subE_cons rfl (subE_cons rfl (subE_cons rfl subE_nil)))
        · skip
          rw [hIv3]
          refine ⟨hs.forget, by omega, fun o ho2 => ?_⟩
          rw [take_snoc3 (d := (0, 0, 0)) (by omega), ho] at ho2
          rcases List.mem_append.1 ho2 with q | q
          · exact hok o q
          · simp only [List.mem_singleton] at q; subst q; first | assumption | (exact Decidable.not_not.1 (by assumption))
        · skip
          rw [hms4, hms4]
          omega
    · skip
      refine St_exit ?_
      refine Jm_then_exit (Jm_then_exit (Jm_block_same (Jm_seq ?_)))
      refine St_seq ?_
      refine St_region ?_
      refine Ls_run (run_assign rfl) rfl ?_
      refine Ls_nil ?_
      refine Jm_seq ?_
      refine St_ret ?_
      refine Jm_ret1 rfl rfl ?_
      refine ⟨_, rfl, ?_, hs.forget⟩
      unfold opsChk
      have hi9 : i = n := by omega
      rw [hi9, List.take_of_length_le (by omega)] at hok
      rw [if_neg (fun q => by rcases q with q | ⟨o, ho, hq⟩ <;> first | omega | exact hq (hok o ho))]
set_option maxRecDepth 100000 in
set_option maxHeartbeats 4000000 in
theorem rOpsCheck_c (w : World) (A : Option Addr) (n c : Nat) (l : List (Int × Int × Nat)) (hr : Rd w A n c 3 (KOp.flat l)) (hn : n ≤ 9223372036854775807) :
    Calls Try.prog 55 [.slice A n c].toArray w (Ret (fun v' w' => v' = .int .i64 (opsChk l) ∧ Sat w w' [])) := by
  have hs := Sat.start w
  have hl : l.length = n := by have := hr.len; rw [El.flat_length] at this; exact Nat.eq_of_mul_eq_mul_right (by decide) this
  refine Calls_body Try.func55 rfl rfl rfl (envE_cons (i := 0) (v := .slice A n c) rfl envE_nil) ?_
  refine St_seq ?_
  refine St_region ?_
  refine Ls_run (run_assign rfl) rfl ?_
  refine Ls_nil ?_
  refine Jm_seq ?_
  refine St_seq ?_
  refine St_seq ?_
  refine St_region ?_
  refine Ls_run (run_move rfl) rfl ?_
  refine Ls_run (run_len Try.underlying32 rfl) rfl ?_
  refine Ls_run (run_gtr rfl rfl) rfl ?_
  refine Ls_nil ?_
  refine Jm_seq ?_
  refine St_ifP rfl (fun h1 => ?_) (fun h1 => ?_)
  · skip
    refine St_seq ?_
    refine St_region ?_
    refine Ls_run (run_assign rfl) rfl ?_
    refine Ls_nil ?_
    refine Jm_seq ?_
    refine St_ret ?_
    refine Jm_then_ret  ?_
    refine Jm_ret1 rfl rfl ?_
    refine ⟨_, rfl, ?_, hs.forget⟩
    unfold opsChk
    rw [if_pos (show opsBad l from .inl (by omega))]
  · skip
    refine St_skip ?_
    refine Jm_seq ?_
    refine St_seq ?_
    refine St_seq ?_
    refine St_region ?_
    refine Ls_run (run_assign rfl) rfl ?_
    refine Ls_nil ?_
    refine Jm_seq ?_
    refine St_block ?_
    obtain ⟨En2, hEn2⟩ : ∃ F : Nat → Env, ∀ (i : Nat), F i = [(0, .slice A n c), (3, .int .i64 (i : Int))] := ⟨(fun (i : Nat) => [(0, .slice A n c), (3, .int .i64 (i : Int))]), fun _ => rfl⟩
    obtain ⟨Iv3, hIv3⟩ : ∃ F : Nat → World → Prop, ∀ (i : Nat) (wr : World), F i wr = (Sat w wr [] ∧ i ≤ n ∧ (∀ o ∈ l.take i, opOk o.1 o.2.1)) := ⟨(fun (i : Nat) => fun (wr : World) => Sat w wr [] ∧ i ≤ n ∧ (∀ o ∈ l.take i, opOk o.1 o.2.1)), fun _ _ => rfl⟩
    obtain ⟨ms4, hms4⟩ : ∃ F : Nat → Nat, ∀ (i : Nat), F i = (n - i) := ⟨(fun (i : Nat) => n - i), fun _ => rfl⟩
    refine St_loop En2 Iv3 ms4 (0) ?_ ?_ ?_
    · skip
      rw [hIv3]
      exact ⟨hs.forget, by omega, by simp⟩
    · rw [hEn2]; exact (subE_cons rfl (subE_cons rfl subE_nil))
    rintro i wr hI5
    rw [hIv3] at hI5
    obtain ⟨hs, hi, hok⟩ := hI5
    refine St_eqE (hEn2 _) ?_
    refine St_seq ?_
    refine St_seq ?_
    refine St_region ?_
    refine Ls_run (run_move rfl) rfl ?_
    refine Ls_run (run_move rfl) rfl ?_
    refine Ls_run (run_len Try.underlying32 rfl) rfl ?_
    refine Ls_run (run_lss rfl rfl) rfl ?_
    refine Ls_nil ?_
    refine Jm_seq ?_
    refine St_ifP rfl (fun h6 => ?_) (fun h6 => ?_)
    · skip
      refine St_skip ?_
      refine Jm_seq ?_
      refine St_seq ?_
      refine St_block ?_
      refine St_seq ?_
      refine St_region ?_
      refine Ls_run (run_move rfl) rfl ?_
      refine Ls_run (run_move rfl) rfl ?_
      obtain ⟨⟨ok, om, ox⟩, ho⟩ : ∃ o, l.getD i (0, 0, 0) = o := ⟨_, rfl⟩
      have hmem : (ok, om, ox) ∈ l := by rw [← ho]; exact getD_mem3 (by omega)
      refine Ls_index (KOp) (hr.inB hs) Try.underlying32 inf80 rfl rfl (by omega) (by omega) ho rfl ?_
      intro b7 o8 hc9
      refine Ls_run (run_load_agg agg80 inf80 rfl rfl hc9) rfl ?_
      refine Ls_call Try.func62 nm62 rfl rfl (step_c wr ok om ox) rfl ?_
      rintro v10 w11 ⟨rfl, hsQ12⟩
      replace hs := hs.trans hsQ12
      refine Ls_run (run_not rfl) rfl ?_
      refine Ls_nil ?_
      refine Jm_seq ?_
      refine St_ifN rfl (fun h13 => ?_) (fun h13 => ?_)
      · skip
        refine St_seq ?_
        refine St_region ?_
        refine Ls_run (run_assign rfl) rfl ?_
        refine Ls_nil ?_
        refine Jm_seq ?_
        refine St_ret ?_
        refine Jm_block_ret (Jm_then_ret (Jm_then_ret (Jm_block_ret (Jm_then_ret  ?_))))
        refine Jm_ret1 rfl rfl ?_
        refine ⟨_, rfl, ?_, hs.forget⟩
        unfold opsChk
        rw [if_pos (show opsBad l from .inr ⟨_, hmem, by assumption⟩)]
      · skip
        refine St_skip ?_
        refine Jm_block_normal (Jm_seq ?_)
        refine St_region ?_
        refine Ls_run (run_move rfl) rfl ?_
        refine Ls_run (run_add rfl rfl (w64 (by omega))) rfl ?_
        refine Ls_run (run_assign rfl) rfl ?_
        refine Ls_nil ?_
        refine Jm_round (i + 1) ?_ ?_ ?_
        · rw [hEn2]; exact (subE_cons rfl (subE_cons rfl subE_nil))
        · skip
          rw [hIv3]
          refine ⟨hs.forget, by omega, fun o ho2 => ?_⟩
          rw [take_snoc3 (d := (0, 0, 0)) (by omega), ho] at ho2
          rcases List.mem_append.1 ho2 with q | q
          · exact hok o q
          · simp only [List.mem_singleton] at q; subst q; first | assumption | (exact Decidable.not_not.1 (by assumption))
        · skip
          rw [hms4, hms4]
          omega
    · skip
      refine St_exit ?_
      refine Jm_then_exit (Jm_then_exit (Jm_block_same (Jm_seq ?_)))
      refine St_seq ?_
      refine St_region ?_
      refine Ls_run (run_assign rfl) rfl ?_
      refine Ls_nil ?_
      refine Jm_seq ?_
      refine St_ret ?_
      refine Jm_ret1 rfl rfl ?_
      refine ⟨_, rfl, ?_, hs.forget⟩
      unfold opsChk
      have hi9 : i = n := by omega
      rw [hi9, List.take_of_length_le (by omega)] at hok
      rw [if_neg (fun q => by rcases q with q | ⟨o, ho, hq⟩ <;> first | omega | exact hq (hok o ho))]
set_option maxRecDepth 100000 in
set_option maxHeartbeats 4000000 in
theorem numbers_c (w : World) (p : PlanA) :
    Calls Try.prog 51 [.agg #[.int .i64 p.pa, .int .i64 p.st, .int .i64 p.wo, .slice p.oA p.on p.oc, .int .i64 p.ag, .int .i64 p.ba, .int .i64 p.wi, .int .i64 p.gu]].toArray w (Ret (fun v' w' => v' = .bool (decide (numsOk p)) ∧ Sat w w' [])) := by
  have hs := Sat.start w
  obtain ⟨l6, hl6⟩ : ∃ l, l = ([(1, p.pa, 4), (1, p.st, 4), (1, p.wo, 4), (1, p.ba, 16), (1, p.wi, 4), (8, p.gu, 64)] : List (Int × Int × Int)) := ⟨_, rfl⟩
  have hl6n : l6.length = 6 := by rw [hl6]; rfl
  refine Calls_body Try.func51 rfl rfl rfl (envE_cons (i := 0) (v := .agg #[.int .i64 p.pa, .int .i64 p.st, .int .i64 p.wo, .slice p.oA p.on p.oc, .int .i64 p.ag, .int .i64 p.ba, .int .i64 p.wi, .int .i64 p.gu]) rfl envE_nil) ?_
  refine St_seq ?_
  refine St_region ?_
  refine Ls_box hs rfl rfl ?_
  intro b2 w1 hs
  refine Ls_run (run_assign rfl) rfl ?_
  refine Ls_nil ?_
  refine Jm_seq ?_
  refine St_seq ?_
  refine St_seq ?_
  refine St_region ?_
  refine Ls_run (run_field Try.underlying34 rfl inf3 (by decide) rfl) rfl ?_
  refine Ls_run (run_load sc3 rfl (hs.blk_at 0 rfl 0 rfl)) rfl ?_
  refine Ls_run (run_buildO (pv := [(0, _), (1, _), (2, _)]) rfl (bld76_0_1_2 _ _ _)) rfl ?_
  refine Ls_run (run_field Try.underlying34 rfl inf3 (by decide) rfl) rfl ?_
  refine Ls_run (run_load sc3 rfl (hs.blk_at 0 rfl 1 rfl)) rfl ?_
  refine Ls_run (run_buildO (pv := [(0, _), (1, _), (2, _)]) rfl (bld76_0_1_2 _ _ _)) rfl ?_
  refine Ls_run (run_field Try.underlying34 rfl inf3 (by decide) rfl) rfl ?_
  refine Ls_run (run_load sc3 rfl (hs.blk_at 0 rfl 2 rfl)) rfl ?_
  refine Ls_run (run_buildO (pv := [(0, _), (1, _), (2, _)]) rfl (bld76_0_1_2 _ _ _)) rfl ?_
  refine Ls_run (run_field Try.underlying34 rfl inf3 (by decide) rfl) rfl ?_
  refine Ls_run (run_load sc3 rfl (hs.blk_at 0 rfl 5 rfl)) rfl ?_
  refine Ls_run (run_buildO (pv := [(0, _), (1, _), (2, _)]) rfl (bld76_0_1_2 _ _ _)) rfl ?_
  refine Ls_run (run_field Try.underlying34 rfl inf3 (by decide) rfl) rfl ?_
  refine Ls_run (run_load sc3 rfl (hs.blk_at 0 rfl 6 rfl)) rfl ?_
  refine Ls_run (run_buildO (pv := [(0, _), (1, _), (2, _)]) rfl (bld76_0_1_2 _ _ _)) rfl ?_
  refine Ls_run (run_field Try.underlying34 rfl inf3 (by decide) rfl) rfl ?_
  refine Ls_run (run_load sc3 rfl (hs.blk_at 0 rfl 7 rfl)) rfl ?_
  refine Ls_run (run_buildO (pv := [(0, _), (1, _), (2, _)]) rfl (bld76_0_1_2 _ _ _)) rfl ?_
  refine Ls_literal [_, _, _, _, _, _] hs Try.underlying77 inf76 rfl rfl rfl rfl rfl rfl ?_
  intro b3 w4 hs
  simp only [List.flatMap_cons, List.flatMap_nil, Value.cells, List.cons_append, List.nil_append] at hs
  refine Ls_run (run_len Try.underlying77 rfl) rfl ?_
  refine Ls_run (run_move rfl) rfl ?_
  refine Ls_nil ?_
  refine Jm_seq ?_
  refine St_block ?_
  obtain ⟨En5, hEn5⟩ : ∃ F : Nat → Env, ∀ (i : Nat), F i = [(1, .pointer (some ⟨b2, 0, none⟩)), (23, .slice (some ⟨b3, 0, none⟩) 6 6), (24, .int .i64 6), (25, .int .i64 (i : Int))] := ⟨(fun (i : Nat) => [(1, .pointer (some ⟨b2, 0, none⟩)), (23, .slice (some ⟨b3, 0, none⟩) 6 6), (24, .int .i64 6), (25, .int .i64 (i : Int))]), fun _ => rfl⟩
  obtain ⟨Iv6, hIv6⟩ : ∃ F : Nat → World → Prop, ∀ (i : Nat) (wr : World), F i wr = (Sat w wr [Blk b3 [.int .i64 1, .int .i64 p.pa, .int .i64 4, .int .i64 1, .int .i64 p.st, .int .i64 4, .int .i64 1, .int .i64 p.wo, .int .i64 4, .int .i64 1, .int .i64 p.ba, .int .i64 16, .int .i64 1, .int .i64 p.wi, .int .i64 4, .int .i64 8, .int .i64 p.gu, .int .i64 64] 76, Blk b2 [.int .i64 p.pa, .int .i64 p.st, .int .i64 p.wo, .slice p.oA p.on p.oc, .int .i64 p.ag, .int .i64 p.ba, .int .i64 p.wi, .int .i64 p.gu] 34] ∧ i ≤ 6 ∧ (∀ o ∈ l6.take i, o.1 ≤ o.2.1 ∧ o.2.1 ≤ o.2.2)) := ⟨(fun (i : Nat) => fun (wr : World) => Sat w wr [Blk b3 [.int .i64 1, .int .i64 p.pa, .int .i64 4, .int .i64 1, .int .i64 p.st, .int .i64 4, .int .i64 1, .int .i64 p.wo, .int .i64 4, .int .i64 1, .int .i64 p.ba, .int .i64 16, .int .i64 1, .int .i64 p.wi, .int .i64 4, .int .i64 8, .int .i64 p.gu, .int .i64 64] 76, Blk b2 [.int .i64 p.pa, .int .i64 p.st, .int .i64 p.wo, .slice p.oA p.on p.oc, .int .i64 p.ag, .int .i64 p.ba, .int .i64 p.wi, .int .i64 p.gu] 34] ∧ i ≤ 6 ∧ (∀ o ∈ l6.take i, o.1 ≤ o.2.1 ∧ o.2.1 ≤ o.2.2)), fun _ _ => rfl⟩
  obtain ⟨ms7, hms7⟩ : ∃ F : Nat → Nat, ∀ (i : Nat), F i = (6 - i) := ⟨(fun (i : Nat) => 6 - i), fun _ => rfl⟩
  refine St_loop En5 Iv6 ms7 (0) ?_ ?_ ?_
  · skip
    rw [hIv6]
    exact ⟨hs, by omega, by simp⟩
  · rw [hEn5]; exact (subE_cons rfl (subE_cons rfl (subE_cons rfl (subE_cons rfl subE_nil))))
  rintro i wr hI8
  rw [hIv6] at hI8
  obtain ⟨hs, hi, hok⟩ := hI8
  refine St_eqE (hEn5 _) ?_
  refine St_seq ?_
  refine St_region ?_
  refine Ls_run (run_lss rfl rfl) rfl ?_
  refine Ls_nil ?_
  refine Jm_seq ?_
  refine St_seq ?_
  refine St_ifP rfl (fun h9 => ?_) (fun h9 => ?_)
  · skip
    refine St_skip ?_
    refine Jm_seq ?_
    refine St_seq ?_
    refine St_block ?_
    refine St_seq ?_
    refine St_region ?_
    obtain ⟨⟨lo, xx, hh⟩, ho⟩ : ∃ o, l6.getD i (0, 0, 0) = o := ⟨_, rfl⟩
    have hmem : (lo, xx, hh) ∈ l6 := by rw [← ho]; exact getD_mem3 (by omega)
    refine Ls_index (K3) (by rw [hl6]; exact rd_block (hs.is_at 0 rfl).2 3 6 rfl) Try.underlying77 inf76 rfl rfl (by omega) (by omega) ho rfl ?_
    intro b10 o11 hc12
    refine Ls_run (run_as (run_load_agg agg76 inf76 rfl rfl hc12) (show _ = Value.agg #[.int .i64 lo, .int .i64 xx, .int .i64 hh] from rfl)) rfl ?_
    refine Ls_alloc hs inf76 rfl ?_
    intro b14 w13 hs
    refine Ls_storeAgg hs inf76 rfl rfl rfl rfl (by simp [K3, Value.oneCell']) ?_
    intro w15 hs
    refine Ls_nil ?_
    refine Jm_seq ?_
    refine St_seq ?_
    refine St_region ?_
    refine Ls_run (run_index_arr Try.underlying76 inf3 rfl rfl (by decide) (by decide)) rfl ?_
    refine Ls_run (run_load sc3 rfl (hs.blk_at 0 rfl 1 rfl)) rfl ?_
    refine Ls_run (run_index_arr Try.underlying76 inf3 rfl rfl (by decide) (by decide)) rfl ?_
    refine Ls_run (run_load sc3 rfl (hs.blk_at 0 rfl 0 rfl)) rfl ?_
    refine Ls_run (run_lss rfl rfl) rfl ?_
    refine Ls_run (run_move rfl) rfl ?_
    refine Ls_partP (t := 34) rfl (fun h16 => ?_) (fun h16 => ?_)
    · skip
      refine Ls_off rfl rfl rfl rfl ?_
      refine Ls_off rfl rfl rfl rfl ?_
      refine Ls_off rfl rfl rfl rfl ?_
      refine Ls_off rfl rfl rfl rfl ?_
      refine Ls_off rfl rfl rfl rfl ?_
      refine Ls_run (run_pick_t rfl rfl) rfl ?_
      refine Ls_nil ?_
      refine Jm_seq ?_
      refine St_ift rfl ?_
      refine St_seq ?_
      refine St_region ?_
      refine Ls_run (run_assign rfl) rfl ?_
      refine Ls_nil ?_
      refine Jm_seq ?_
      refine St_ret ?_
      refine Jm_block_ret (Jm_then_ret (Jm_then_ret (Jm_block_ret (Jm_then_ret  ?_))))
      refine Jm_ret1 rfl rfl ?_
      rw [hl6] at hmem
      simp only [List.mem_cons, Prod.mk.injEq, List.not_mem_nil, or_false] at hmem
      refine ⟨_, rfl, ?_, hs.forget⟩
      congr 1
      exact (decide_eq_false (by unfold numsOk; omega)).symm
    · skip
      refine Ls_on rfl rfl ?_
      refine Ls_run (run_index_arr Try.underlying76 inf3 rfl rfl (by decide) (by decide)) rfl ?_
      refine Ls_on rfl rfl ?_
      refine Ls_run (run_load sc3 rfl (hs.blk_at 0 rfl 1 rfl)) rfl ?_
      refine Ls_on rfl rfl ?_
      refine Ls_run (run_index_arr Try.underlying76 inf3 rfl rfl (by decide) (by decide)) rfl ?_
      refine Ls_on rfl rfl ?_
      refine Ls_run (run_load sc3 rfl (hs.blk_at 0 rfl 2 rfl)) rfl ?_
      refine Ls_on rfl rfl ?_
      refine Ls_run (run_gtr rfl rfl) rfl ?_
      refine Ls_run (run_pick_f rfl rfl) rfl ?_
      refine Ls_nil ?_
      refine Jm_seq ?_
      refine St_ifP rfl (fun h18 => ?_) (fun h18 => ?_)
      · skip
        refine St_seq ?_
        refine St_region ?_
        refine Ls_run (run_assign rfl) rfl ?_
        refine Ls_nil ?_
        refine Jm_seq ?_
        refine St_ret ?_
        refine Jm_block_ret (Jm_then_ret (Jm_then_ret (Jm_block_ret (Jm_then_ret  ?_))))
        refine Jm_ret1 rfl rfl ?_
        rw [hl6] at hmem
        simp only [List.mem_cons, Prod.mk.injEq, List.not_mem_nil, or_false] at hmem
        refine ⟨_, rfl, ?_, hs.forget⟩
        congr 1
        exact (decide_eq_false (by unfold numsOk; omega)).symm
      · skip
        refine St_skip ?_
        refine Jm_block_normal (Jm_seq ?_)
        refine St_region ?_
        refine Ls_run (run_add rfl rfl (w64 (by omega))) rfl ?_
        refine Ls_run (run_move rfl) rfl ?_
        refine Ls_nil ?_
        replace hs := hs.erase 0
        simp only [List.cons_append, List.nil_append, List.eraseIdx_cons_zero, List.eraseIdx_cons_succ] at hs
        refine Jm_round (i + 1) ?_ ?_ ?_
        · rw [hEn5]; exact (subE_cons rfl (subE_cons rfl (subE_cons rfl (subE_cons rfl subE_nil))))
        · skip
          rw [hIv6]
          refine ⟨hs, by omega, fun o ho2 => ?_⟩
          rw [take_snoc3 (d := (0, 0, 0)) (by omega), ho] at ho2
          rcases List.mem_append.1 ho2 with q | q
          · exact hok o q
          · simp only [List.mem_singleton] at q; subst q; simp only; omega
        · skip
          rw [hms7, hms7]
          omega
  · skip
    refine St_exit ?_
    refine Jm_then_exit (Jm_then_exit (Jm_block_same (Jm_seq ?_)))
    refine St_seq ?_
    refine St_region ?_
    refine Ls_run (run_field Try.underlying34 rfl inf3 (by decide) rfl) rfl ?_
    refine Ls_run (run_load sc3 rfl (hs.blk_at 1 rfl 4 rfl)) rfl ?_
    refine Ls_call Try.func60 nm60 rfl rfl (Known_c wr p.ag) rfl ?_
    rintro v19 w20 ⟨rfl, rfl⟩
    refine Ls_run (run_assign rfl) rfl ?_
    refine Ls_nil ?_
    refine Jm_seq ?_
    refine St_ret ?_
    refine Jm_ret1 rfl rfl ?_
    have hi9 : i = 6 := by omega
    rw [hi9, List.take_of_length_le (by omega), hl6] at hok
    simp only [List.forall_mem_cons, List.not_mem_nil, false_implies, implies_true, and_true] at hok
    refine ⟨_, rfl, ?_, hs.forget⟩
    congr 1
    exact decide_eq_decide.2 (by unfold numsOk; omega)
end Go.Proofs.Ytnmeaokfcalbbaa.Lg
