/-
  The reference's New, walked. By program (gen/disk8.py).
-/
import Derived.Test.YtipkfdeiallifaaDisk7
set_option linter.unusedVariables false
set_option linter.unusedSimpArgs false
namespace Go.Proofs.Ytipkfdeiallifaa.Lg
open Go Go.RowKit
set_option maxRecDepth 100000 in
set_option maxHeartbeats 1000000 in
theorem rNew_c (w : World) (m : Nat) (h1 : 1 ≤ m) (h2 : m ≤ 64) :
    Calls Try.prog 39 [.int .i64 (m : Int)].toArray w (Ret (fun v' w' => ∃ b, v' = .tuple #[.pointer (some ⟨b, 0, none⟩), .int .i64 0] ∧ Sat w w' [RefA 135 28 5 b (rnew m)])) := by
  have hs := Sat.start w
  refine Calls_body Try.func39 rfl rfl rfl (envE_cons (i := 0) (v := .int .i64 (m : Int)) rfl envE_nil) ?_
  refine St_seq ?_
  refine St_region ?_
  refine Ls_run (run_assign rfl) rfl ?_
  refine Ls_run (run_assign rfl) rfl ?_
  refine Ls_nil ?_
  refine Jm_seq ?_
  refine St_seq ?_
  refine St_seq ?_
  refine St_region ?_
  refine Ls_run (run_move rfl) rfl ?_
  refine Ls_run (run_lss rfl rfl) rfl ?_
  refine Ls_run (run_move rfl) rfl ?_
  refine Ls_partP (t := 6) rfl (fun h1 => ?_) (fun h1 => ?_)
  · skip
    exfalso; omega
  · skip
    refine Ls_on rfl rfl ?_
    refine Ls_run (run_move rfl) rfl ?_
    refine Ls_on rfl rfl ?_
    refine Ls_run (run_gtr rfl rfl) rfl ?_
    refine Ls_run (run_pick_f rfl rfl) rfl ?_
    refine Ls_nil ?_
    refine Jm_seq ?_
    refine St_ifP rfl (fun h2 => ?_) (fun h2 => ?_)
    · skip
      exfalso; omega
    · skip
      refine St_skip ?_
      refine Jm_seq ?_
      refine St_seq ?_
      refine St_region ?_
      refine Ls_run (run_move rfl) rfl ?_
      refine Ls_make (m := m) hs Try.underlying55 infq28 rfl rfl rfl (by omega) (by omega) rfl ?_
      intro b3 w4 hs
      refine Ls_run (run_buildO (pv := [(0, _), (2, _)]) rfl (bld135_0_2 _ _ _ _)) rfl ?_
      refine Ls_box hs rfl rfl ?_
      intro b6 w5 hs
      refine Ls_run (run_assign rfl) rfl ?_
      refine Ls_run (run_assign rfl) rfl ?_
      refine Ls_nil ?_
      refine Jm_seq ?_
      refine St_ret ?_
      refine Jm_ret2 rfl rfl rfl ?_
      replace hs := Sat.rows_nil 5 (El.int .u8) m hs
      refine ⟨_, rfl, _, rfl, Sat.rshut (s := rnew m) (L := []) (vs := List.replicate m nilV) (A := some ⟨b3, 0, none⟩) (c := m) (by simp [rnew]) ?_⟩
      have e : (rnew m).bl.length = m := by simp [rnew]
      unfold rcells
      rw [e, El.val_flat]
      exact hs
set_option maxRecDepth 100000 in
set_option maxHeartbeats 1000000 in
theorem rNew_bad (w : World) (m : Int) (h : m < 1 ∨ 64 < m) :
    Calls Try.prog 39 [.int .i64 m].toArray w (Ret (fun v' w' => w = w' ∧ v' = .tuple #[.pointer none, .int .i64 1])) := by
  refine Calls_body Try.func39 rfl rfl rfl (envE_cons (i := 0) (v := .int .i64 m) rfl envE_nil) ?_
  refine St_seq ?_
  refine St_region ?_
  refine Ls_run (run_assign rfl) rfl ?_
  refine Ls_run (run_assign rfl) rfl ?_
  refine Ls_nil ?_
  refine Jm_seq ?_
  refine St_seq ?_
  refine St_seq ?_
  refine St_region ?_
  refine Ls_run (run_move rfl) rfl ?_
  refine Ls_run (run_lss rfl rfl) rfl ?_
  refine Ls_run (run_move rfl) rfl ?_
  refine Ls_partP (t := 6) rfl (fun h1 => ?_) (fun h1 => ?_)
  · skip
    refine Ls_off rfl rfl rfl rfl ?_
    refine Ls_off rfl rfl rfl rfl ?_
    refine Ls_run (run_pick_t rfl rfl) rfl ?_
    refine Ls_nil ?_
    refine Jm_seq ?_
    refine St_ift rfl ?_
    refine St_seq ?_
    refine St_region ?_
    refine Ls_run (run_assign rfl) rfl ?_
    refine Ls_run (run_assign rfl) rfl ?_
    refine Ls_nil ?_
    refine Jm_seq ?_
    refine St_ret ?_
    refine Jm_then_ret  ?_
    refine Jm_ret2 rfl rfl rfl ?_
    exact ⟨_, rfl, rfl, rfl⟩
  · skip
    refine Ls_on rfl rfl ?_
    refine Ls_run (run_move rfl) rfl ?_
    refine Ls_on rfl rfl ?_
    refine Ls_run (run_gtr rfl rfl) rfl ?_
    refine Ls_run (run_pick_f rfl rfl) rfl ?_
    refine Ls_nil ?_
    refine Jm_seq ?_
    refine St_ifP rfl (fun h3 => ?_) (fun h3 => ?_)
    · skip
      refine St_seq ?_
      refine St_region ?_
      refine Ls_run (run_assign rfl) rfl ?_
      refine Ls_run (run_assign rfl) rfl ?_
      refine Ls_nil ?_
      refine Jm_seq ?_
      refine St_ret ?_
      refine Jm_then_ret  ?_
      refine Jm_ret2 rfl rfl rfl ?_
      exact ⟨_, rfl, rfl, rfl⟩
    · skip
      exfalso; omega
end Go.Proofs.Ytipkfdeiallifaa.Lg
