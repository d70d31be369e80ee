/-
  Whether two messages are the same, walked. By program (gen/msg2.py).
-/
import Derived.Test.YtipkfdeiallifaaMsg2r
set_option linter.unusedVariables false
set_option linter.unusedSimpArgs false
namespace Go.Proofs.Ytipkfdeiallifaa.Lg
open Go Go.RowKit Go.Proofs.Ytipkfdeiallifaa.WirePure
set_option maxRecDepth 100000 in
set_option maxHeartbeats 1000000 in
theorem same_c (w : World) (x : MC) (p : MP) (hm : MRd w x p) (hze : p.en ≤ 9223372036854775807) (hzk : p.kn ≤ 9223372036854775807) (hzp : p.pn ≤ 9223372036854775807) (y : MC) (q : MP) (hm2 : MRd w y q) :
    Calls Try.prog 22 [.agg #[.int .i64 x.k, .int .i64 x.f, .int .i64 x.t, .int .i64 x.b, .int .i64 x.a, .int .i64 x.c, .slice p.eA p.en p.ec, .slice p.kA p.kn p.kc, .slice p.pA p.pn p.pc], .agg #[.int .i64 y.k, .int .i64 y.f, .int .i64 y.t, .int .i64 y.b, .int .i64 y.a, .int .i64 y.c, .slice q.eA q.en q.ec, .slice q.kA q.kn q.kc, .slice q.pA q.pn q.pc]].toArray w (Ret (fun v' w' => v' = .bool (decide (x = y)) ∧ Sat w w' [])) := by
  have hs := Sat.start w
  have hen := hm.en
  have hkn := hm.kn
  have hpn := hm.pn
  have hmr := mof_range x.k
  have hen2 := hm2.en
  have hkn2 := hm2.kn
  have hpn2 := hm2.pn
  refine Calls_body Try.func22 rfl rfl rfl (envE_cons (i := 0) (v := .agg #[.int .i64 x.k, .int .i64 x.f, .int .i64 x.t, .int .i64 x.b, .int .i64 x.a, .int .i64 x.c, .slice p.eA p.en p.ec, .slice p.kA p.kn p.kc, .slice p.pA p.pn p.pc]) rfl (envE_cons (i := 1) (v := .agg #[.int .i64 y.k, .int .i64 y.f, .int .i64 y.t, .int .i64 y.b, .int .i64 y.a, .int .i64 y.c, .slice q.eA q.en q.ec, .slice q.kA q.kn q.kc, .slice q.pA q.pn q.pc]) rfl envE_nil)) ?_
  refine St_seq ?_
  refine St_region ?_
  refine Ls_box hs rfl rfl ?_
  intro b2 w1 hs
  refine Ls_box hs rfl rfl ?_
  intro b4 w3 hs
  refine Ls_run (run_assign rfl) rfl ?_
  refine Ls_nil ?_
  refine Jm_seq ?_
  refine St_seq ?_
  refine St_seq ?_
  refine St_region ?_
  refine Ls_run (run_as (run_field Try.underlying26 rfl inf3 (by decide) rfl) (show _ = Value.pointer (some ⟨b2, 0, none⟩) from rfl)) rfl ?_
  refine Ls_run (run_load sc3 rfl (hs.blk_at 1 rfl 0 rfl)) rfl ?_
  refine Ls_run (run_as (run_field Try.underlying26 rfl inf3 (by decide) rfl) (show _ = Value.pointer (some ⟨b4, 0, none⟩) from rfl)) rfl ?_
  refine Ls_run (run_load sc3 rfl (hs.blk_at 0 rfl 0 rfl)) rfl ?_
  refine Ls_run (run_neq rfl rfl) rfl ?_
  refine Ls_run (run_move rfl) rfl ?_
  refine Ls_partP (t := 13) rfl (fun h5 => ?_) (fun h5 => ?_)
  · skip
    refine Ls_off rfl rfl rfl rfl ?_
    refine Ls_off rfl rfl rfl rfl ?_
    refine Ls_off rfl rfl rfl rfl ?_
    refine Ls_off rfl rfl rfl rfl ?_
    refine Ls_off rfl rfl rfl rfl ?_
    refine Ls_run (run_pick_t rfl rfl) rfl ?_
    refine Ls_run (run_move rfl) rfl ?_
    refine Ls_off rfl rfl rfl rfl ?_
    refine Ls_off rfl rfl rfl rfl ?_
    refine Ls_off rfl rfl rfl rfl ?_
    refine Ls_off rfl rfl rfl rfl ?_
    refine Ls_off rfl rfl rfl rfl ?_
    refine Ls_run (run_pick_t rfl rfl) rfl ?_
    refine Ls_run (run_move rfl) rfl ?_
    refine Ls_off rfl rfl rfl rfl ?_
    refine Ls_off rfl rfl rfl rfl ?_
    refine Ls_off rfl rfl rfl rfl ?_
    refine Ls_off rfl rfl rfl rfl ?_
    refine Ls_off rfl rfl rfl rfl ?_
    refine Ls_run (run_pick_t rfl rfl) rfl ?_
    refine Ls_run (run_move rfl) rfl ?_
    refine Ls_off rfl rfl rfl rfl ?_
    refine Ls_off rfl rfl rfl rfl ?_
    refine Ls_off rfl rfl rfl rfl ?_
    refine Ls_off rfl rfl rfl rfl ?_
    refine Ls_off rfl rfl rfl rfl ?_
    refine Ls_run (run_pick_t rfl rfl) rfl ?_
    refine Ls_run (run_move rfl) rfl ?_
    refine Ls_off rfl rfl rfl rfl ?_
    refine Ls_off rfl rfl rfl rfl ?_
    refine Ls_off rfl rfl rfl rfl ?_
    refine Ls_off rfl rfl rfl rfl ?_
    refine Ls_off rfl rfl rfl rfl ?_
    refine Ls_run (run_pick_t rfl rfl) rfl ?_
    refine Ls_run (run_move rfl) rfl ?_
    refine Ls_off rfl rfl rfl rfl ?_
    refine Ls_off rfl rfl rfl rfl ?_
    refine Ls_off rfl rfl rfl rfl ?_
    refine Ls_off rfl rfl rfl rfl ?_
    refine Ls_off rfl rfl rfl rfl ?_
    refine Ls_off rfl rfl rfl rfl ?_
    refine Ls_off rfl rfl rfl rfl ?_
    refine Ls_run (run_pick_t rfl rfl) rfl ?_
    refine Ls_run (run_move rfl) rfl ?_
    refine Ls_off rfl rfl rfl rfl ?_
    refine Ls_off rfl rfl rfl rfl ?_
    refine Ls_off rfl rfl rfl rfl ?_
    refine Ls_off rfl rfl rfl rfl ?_
    refine Ls_off rfl rfl rfl rfl ?_
    refine Ls_off rfl rfl rfl rfl ?_
    refine Ls_off rfl rfl rfl rfl ?_
    refine Ls_run (run_pick_t rfl rfl) rfl ?_
    refine Ls_run (run_move rfl) rfl ?_
    refine Ls_off rfl rfl rfl rfl ?_
    refine Ls_off rfl rfl rfl rfl ?_
    refine Ls_off rfl rfl rfl rfl ?_
    refine Ls_off rfl rfl rfl rfl ?_
    refine Ls_off rfl rfl rfl rfl ?_
    refine Ls_off rfl rfl rfl rfl ?_
    refine Ls_off rfl rfl rfl rfl ?_
    refine Ls_run (run_pick_t rfl rfl) rfl ?_
    refine Ls_nil ?_
    refine Jm_seq ?_
    refine St_ift rfl ?_
    refine St_seq ?_
    refine St_region ?_
    refine Ls_run (run_assign rfl) rfl ?_
    refine Ls_nil ?_
    refine Jm_seq ?_
    refine St_ret ?_
    refine Jm_then_ret  ?_
    refine Jm_ret1 rfl rfl ?_
    first | exact ⟨_, rfl, congrArg Value.bool (decide_eq_false (fun z => by subst z; omega)).symm, hs.forget⟩ | exact ⟨_, rfl, congrArg Value.bool (decide_eq_false (fun z => by subst z; exact absurd rfl (by assumption))).symm, hs.forget⟩
  · skip
    refine Ls_on rfl rfl ?_
    refine Ls_run (run_as (run_field Try.underlying26 rfl inf3 (by decide) rfl) (show _ = Value.pointer (some ⟨b2, 1, none⟩) from rfl)) rfl ?_
    refine Ls_on rfl rfl ?_
    refine Ls_run (run_load sc3 rfl (hs.blk_at 1 rfl 1 rfl)) rfl ?_
    refine Ls_on rfl rfl ?_
    refine Ls_run (run_as (run_field Try.underlying26 rfl inf3 (by decide) rfl) (show _ = Value.pointer (some ⟨b4, 1, none⟩) from rfl)) rfl ?_
    refine Ls_on rfl rfl ?_
    refine Ls_run (run_load sc3 rfl (hs.blk_at 0 rfl 1 rfl)) rfl ?_
    refine Ls_on rfl rfl ?_
    refine Ls_run (run_neq rfl rfl) rfl ?_
    refine Ls_run (run_pick_f rfl rfl) rfl ?_
    refine Ls_run (run_move rfl) rfl ?_
    refine Ls_partP (t := 20) rfl (fun h7 => ?_) (fun h7 => ?_)
    · skip
      refine Ls_off rfl rfl rfl rfl ?_
      refine Ls_off rfl rfl rfl rfl ?_
      refine Ls_off rfl rfl rfl rfl ?_
      refine Ls_off rfl rfl rfl rfl ?_
      refine Ls_off rfl rfl rfl rfl ?_
      refine Ls_run (run_pick_t rfl rfl) rfl ?_
      refine Ls_run (run_move rfl) rfl ?_
      refine Ls_off rfl rfl rfl rfl ?_
      refine Ls_off rfl rfl rfl rfl ?_
      refine Ls_off rfl rfl rfl rfl ?_
      refine Ls_off rfl rfl rfl rfl ?_
      refine Ls_off rfl rfl rfl rfl ?_
      refine Ls_run (run_pick_t rfl rfl) rfl ?_
      refine Ls_run (run_move rfl) rfl ?_
      refine Ls_off rfl rfl rfl rfl ?_
      refine Ls_off rfl rfl rfl rfl ?_
      refine Ls_off rfl rfl rfl rfl ?_
      refine Ls_off rfl rfl rfl rfl ?_
      refine Ls_off rfl rfl rfl rfl ?_
      refine Ls_run (run_pick_t rfl rfl) rfl ?_
      refine Ls_run (run_move rfl) rfl ?_
      refine Ls_off rfl rfl rfl rfl ?_
      refine Ls_off rfl rfl rfl rfl ?_
      refine Ls_off rfl rfl rfl rfl ?_
      refine Ls_off rfl rfl rfl rfl ?_
      refine Ls_off rfl rfl rfl rfl ?_
      refine Ls_run (run_pick_t rfl rfl) rfl ?_
      refine Ls_run (run_move rfl) rfl ?_
      refine Ls_off rfl rfl rfl rfl ?_
      refine Ls_off rfl rfl rfl rfl ?_
      refine Ls_off rfl rfl rfl rfl ?_
      refine Ls_off rfl rfl rfl rfl ?_
      refine Ls_off rfl rfl rfl rfl ?_
      refine Ls_off rfl rfl rfl rfl ?_
      refine Ls_off rfl rfl rfl rfl ?_
      refine Ls_run (run_pick_t rfl rfl) rfl ?_
      refine Ls_run (run_move rfl) rfl ?_
      refine Ls_off rfl rfl rfl rfl ?_
      refine Ls_off rfl rfl rfl rfl ?_
      refine Ls_off rfl rfl rfl rfl ?_
      refine Ls_off rfl rfl rfl rfl ?_
      refine Ls_off rfl rfl rfl rfl ?_
      refine Ls_off rfl rfl rfl rfl ?_
      refine Ls_off rfl rfl rfl rfl ?_
      refine Ls_run (run_pick_t rfl rfl) rfl ?_
      refine Ls_run (run_move rfl) rfl ?_
      refine Ls_off rfl rfl rfl rfl ?_
      refine Ls_off rfl rfl rfl rfl ?_
      refine Ls_off rfl rfl rfl rfl ?_
      refine Ls_off rfl rfl rfl rfl ?_
      refine Ls_off rfl rfl rfl rfl ?_
      refine Ls_off rfl rfl rfl rfl ?_
      refine Ls_off rfl rfl rfl rfl ?_
      refine Ls_run (run_pick_t rfl rfl) rfl ?_
      refine Ls_nil ?_
      refine Jm_seq ?_
      refine St_ift rfl ?_
      refine St_seq ?_
      refine St_region ?_
      refine Ls_run (run_assign rfl) rfl ?_
      refine Ls_nil ?_
      refine Jm_seq ?_
      refine St_ret ?_
      refine Jm_then_ret  ?_
      refine Jm_ret1 rfl rfl ?_
      first | exact ⟨_, rfl, congrArg Value.bool (decide_eq_false (fun z => by subst z; omega)).symm, hs.forget⟩ | exact ⟨_, rfl, congrArg Value.bool (decide_eq_false (fun z => by subst z; exact absurd rfl (by assumption))).symm, hs.forget⟩
    · skip
      refine Ls_on rfl rfl ?_
      refine Ls_run (run_as (run_field Try.underlying26 rfl inf3 (by decide) rfl) (show _ = Value.pointer (some ⟨b2, 2, none⟩) from rfl)) rfl ?_
      refine Ls_on rfl rfl ?_
      refine Ls_run (run_load sc3 rfl (hs.blk_at 1 rfl 2 rfl)) rfl ?_
      refine Ls_on rfl rfl ?_
      refine Ls_run (run_as (run_field Try.underlying26 rfl inf3 (by decide) rfl) (show _ = Value.pointer (some ⟨b4, 2, none⟩) from rfl)) rfl ?_
      refine Ls_on rfl rfl ?_
      refine Ls_run (run_load sc3 rfl (hs.blk_at 0 rfl 2 rfl)) rfl ?_
      refine Ls_on rfl rfl ?_
      refine Ls_run (run_neq rfl rfl) rfl ?_
      refine Ls_run (run_pick_f rfl rfl) rfl ?_
      refine Ls_run (run_move rfl) rfl ?_
      refine Ls_partP (t := 27) rfl (fun h9 => ?_) (fun h9 => ?_)
      · skip
        refine Ls_off rfl rfl rfl rfl ?_
        refine Ls_off rfl rfl rfl rfl ?_
        refine Ls_off rfl rfl rfl rfl ?_
        refine Ls_off rfl rfl rfl rfl ?_
        refine Ls_off rfl rfl rfl rfl ?_
        refine Ls_run (run_pick_t rfl rfl) rfl ?_
        refine Ls_run (run_move rfl) rfl ?_
        refine Ls_off rfl rfl rfl rfl ?_
        refine Ls_off rfl rfl rfl rfl ?_
        refine Ls_off rfl rfl rfl rfl ?_
        refine Ls_off rfl rfl rfl rfl ?_
        refine Ls_off rfl rfl rfl rfl ?_
        refine Ls_run (run_pick_t rfl rfl) rfl ?_
        refine Ls_run (run_move rfl) rfl ?_
        refine Ls_off rfl rfl rfl rfl ?_
        refine Ls_off rfl rfl rfl rfl ?_
        refine Ls_off rfl rfl rfl rfl ?_
        refine Ls_off rfl rfl rfl rfl ?_
        refine Ls_off rfl rfl rfl rfl ?_
        refine Ls_run (run_pick_t rfl rfl) rfl ?_
        refine Ls_run (run_move rfl) rfl ?_
        refine Ls_off rfl rfl rfl rfl ?_
        refine Ls_off rfl rfl rfl rfl ?_
        refine Ls_off rfl rfl rfl rfl ?_
        refine Ls_off rfl rfl rfl rfl ?_
        refine Ls_off rfl rfl rfl rfl ?_
        refine Ls_off rfl rfl rfl rfl ?_
        refine Ls_off rfl rfl rfl rfl ?_
        refine Ls_run (run_pick_t rfl rfl) rfl ?_
        refine Ls_run (run_move rfl) rfl ?_
        refine Ls_off rfl rfl rfl rfl ?_
        refine Ls_off rfl rfl rfl rfl ?_
        refine Ls_off rfl rfl rfl rfl ?_
        refine Ls_off rfl rfl rfl rfl ?_
        refine Ls_off rfl rfl rfl rfl ?_
        refine Ls_off rfl rfl rfl rfl ?_
        refine Ls_off rfl rfl rfl rfl ?_
        refine Ls_run (run_pick_t rfl rfl) rfl ?_
        refine Ls_run (run_move rfl) rfl ?_
        refine Ls_off rfl rfl rfl rfl ?_
        refine Ls_off rfl rfl rfl rfl ?_
        refine Ls_off rfl rfl rfl rfl ?_
        refine Ls_off rfl rfl rfl rfl ?_
        refine Ls_off rfl rfl rfl rfl ?_
        refine Ls_off rfl rfl rfl rfl ?_
        refine Ls_off rfl rfl rfl rfl ?_
        refine Ls_run (run_pick_t rfl rfl) rfl ?_
        refine Ls_nil ?_
        refine Jm_seq ?_
        refine St_ift rfl ?_
        refine St_seq ?_
        refine St_region ?_
        refine Ls_run (run_assign rfl) rfl ?_
        refine Ls_nil ?_
        refine Jm_seq ?_
        refine St_ret ?_
        refine Jm_then_ret  ?_
        refine Jm_ret1 rfl rfl ?_
        first | exact ⟨_, rfl, congrArg Value.bool (decide_eq_false (fun z => by subst z; omega)).symm, hs.forget⟩ | exact ⟨_, rfl, congrArg Value.bool (decide_eq_false (fun z => by subst z; exact absurd rfl (by assumption))).symm, hs.forget⟩
      · skip
        refine Ls_on rfl rfl ?_
        refine Ls_run (run_as (run_field Try.underlying26 rfl inf3 (by decide) rfl) (show _ = Value.pointer (some ⟨b2, 3, none⟩) from rfl)) rfl ?_
        refine Ls_on rfl rfl ?_
        refine Ls_run (run_load sc3 rfl (hs.blk_at 1 rfl 3 rfl)) rfl ?_
        refine Ls_on rfl rfl ?_
        refine Ls_run (run_as (run_field Try.underlying26 rfl inf3 (by decide) rfl) (show _ = Value.pointer (some ⟨b4, 3, none⟩) from rfl)) rfl ?_
        refine Ls_on rfl rfl ?_
        refine Ls_run (run_load sc3 rfl (hs.blk_at 0 rfl 3 rfl)) rfl ?_
        refine Ls_on rfl rfl ?_
        refine Ls_run (run_neq rfl rfl) rfl ?_
        refine Ls_run (run_pick_f rfl rfl) rfl ?_
        refine Ls_run (run_move rfl) rfl ?_
        refine Ls_partP (t := 34) rfl (fun h11 => ?_) (fun h11 => ?_)
        · skip
          refine Ls_off rfl rfl rfl rfl ?_
          refine Ls_off rfl rfl rfl rfl ?_
          refine Ls_off rfl rfl rfl rfl ?_
          refine Ls_off rfl rfl rfl rfl ?_
          refine Ls_off rfl rfl rfl rfl ?_
          refine Ls_run (run_pick_t rfl rfl) rfl ?_
          refine Ls_run (run_move rfl) rfl ?_
          refine Ls_off rfl rfl rfl rfl ?_
          refine Ls_off rfl rfl rfl rfl ?_
          refine Ls_off rfl rfl rfl rfl ?_
          refine Ls_off rfl rfl rfl rfl ?_
          refine Ls_off rfl rfl rfl rfl ?_
          refine Ls_run (run_pick_t rfl rfl) rfl ?_
          refine Ls_run (run_move rfl) rfl ?_
          refine Ls_off rfl rfl rfl rfl ?_
          refine Ls_off rfl rfl rfl rfl ?_
          refine Ls_off rfl rfl rfl rfl ?_
          refine Ls_off rfl rfl rfl rfl ?_
          refine Ls_off rfl rfl rfl rfl ?_
          refine Ls_off rfl rfl rfl rfl ?_
          refine Ls_off rfl rfl rfl rfl ?_
          refine Ls_run (run_pick_t rfl rfl) rfl ?_
          refine Ls_run (run_move rfl) rfl ?_
          refine Ls_off rfl rfl rfl rfl ?_
          refine Ls_off rfl rfl rfl rfl ?_
          refine Ls_off rfl rfl rfl rfl ?_
          refine Ls_off rfl rfl rfl rfl ?_
          refine Ls_off rfl rfl rfl rfl ?_
          refine Ls_off rfl rfl rfl rfl ?_
          refine Ls_off rfl rfl rfl rfl ?_
          refine Ls_run (run_pick_t rfl rfl) rfl ?_
          refine Ls_run (run_move rfl) rfl ?_
          refine Ls_off rfl rfl rfl rfl ?_
          refine Ls_off rfl rfl rfl rfl ?_
          refine Ls_off rfl rfl rfl rfl ?_
          refine Ls_off rfl rfl rfl rfl ?_
          refine Ls_off rfl rfl rfl rfl ?_
          refine Ls_off rfl rfl rfl rfl ?_
          refine Ls_off rfl rfl rfl rfl ?_
          refine Ls_run (run_pick_t rfl rfl) rfl ?_
          refine Ls_nil ?_
          refine Jm_seq ?_
          refine St_ift rfl ?_
          refine St_seq ?_
          refine St_region ?_
          refine Ls_run (run_assign rfl) rfl ?_
          refine Ls_nil ?_
          refine Jm_seq ?_
          refine St_ret ?_
          refine Jm_then_ret  ?_
          refine Jm_ret1 rfl rfl ?_
          first | exact ⟨_, rfl, congrArg Value.bool (decide_eq_false (fun z => by subst z; omega)).symm, hs.forget⟩ | exact ⟨_, rfl, congrArg Value.bool (decide_eq_false (fun z => by subst z; exact absurd rfl (by assumption))).symm, hs.forget⟩
        · skip
          refine Ls_on rfl rfl ?_
          refine Ls_run (run_as (run_field Try.underlying26 rfl inf3 (by decide) rfl) (show _ = Value.pointer (some ⟨b2, 4, none⟩) from rfl)) rfl ?_
          refine Ls_on rfl rfl ?_
          refine Ls_run (run_load sc3 rfl (hs.blk_at 1 rfl 4 rfl)) rfl ?_
          refine Ls_on rfl rfl ?_
          refine Ls_run (run_as (run_field Try.underlying26 rfl inf3 (by decide) rfl) (show _ = Value.pointer (some ⟨b4, 4, none⟩) from rfl)) rfl ?_
          refine Ls_on rfl rfl ?_
          refine Ls_run (run_load sc3 rfl (hs.blk_at 0 rfl 4 rfl)) rfl ?_
          refine Ls_on rfl rfl ?_
          refine Ls_run (run_neq rfl rfl) rfl ?_
          refine Ls_run (run_pick_f rfl rfl) rfl ?_
          refine Ls_run (run_move rfl) rfl ?_
          refine Ls_partP (t := 41) rfl (fun h13 => ?_) (fun h13 => ?_)
          · skip
            refine Ls_off rfl rfl rfl rfl ?_
            refine Ls_off rfl rfl rfl rfl ?_
            refine Ls_off rfl rfl rfl rfl ?_
            refine Ls_off rfl rfl rfl rfl ?_
            refine Ls_off rfl rfl rfl rfl ?_
            refine Ls_run (run_pick_t rfl rfl) rfl ?_
            refine Ls_run (run_move rfl) rfl ?_
            refine Ls_off rfl rfl rfl rfl ?_
            refine Ls_off rfl rfl rfl rfl ?_
            refine Ls_off rfl rfl rfl rfl ?_
            refine Ls_off rfl rfl rfl rfl ?_
            refine Ls_off rfl rfl rfl rfl ?_
            refine Ls_off rfl rfl rfl rfl ?_
            refine Ls_off rfl rfl rfl rfl ?_
            refine Ls_run (run_pick_t rfl rfl) rfl ?_
            refine Ls_run (run_move rfl) rfl ?_
            refine Ls_off rfl rfl rfl rfl ?_
            refine Ls_off rfl rfl rfl rfl ?_
            refine Ls_off rfl rfl rfl rfl ?_
            refine Ls_off rfl rfl rfl rfl ?_
            refine Ls_off rfl rfl rfl rfl ?_
            refine Ls_off rfl rfl rfl rfl ?_
            refine Ls_off rfl rfl rfl rfl ?_
            refine Ls_run (run_pick_t rfl rfl) rfl ?_
            refine Ls_run (run_move rfl) rfl ?_
            refine Ls_off rfl rfl rfl rfl ?_
            refine Ls_off rfl rfl rfl rfl ?_
            refine Ls_off rfl rfl rfl rfl ?_
            refine Ls_off rfl rfl rfl rfl ?_
            refine Ls_off rfl rfl rfl rfl ?_
            refine Ls_off rfl rfl rfl rfl ?_
            refine Ls_off rfl rfl rfl rfl ?_
            refine Ls_run (run_pick_t rfl rfl) rfl ?_
            refine Ls_nil ?_
            refine Jm_seq ?_
            refine St_ift rfl ?_
            refine St_seq ?_
            refine St_region ?_
            refine Ls_run (run_assign rfl) rfl ?_
            refine Ls_nil ?_
            refine Jm_seq ?_
            refine St_ret ?_
            refine Jm_then_ret  ?_
            refine Jm_ret1 rfl rfl ?_
            first | exact ⟨_, rfl, congrArg Value.bool (decide_eq_false (fun z => by subst z; omega)).symm, hs.forget⟩ | exact ⟨_, rfl, congrArg Value.bool (decide_eq_false (fun z => by subst z; exact absurd rfl (by assumption))).symm, hs.forget⟩
          · skip
            refine Ls_on rfl rfl ?_
            refine Ls_run (run_as (run_field Try.underlying26 rfl inf3 (by decide) rfl) (show _ = Value.pointer (some ⟨b2, 5, none⟩) from rfl)) rfl ?_
            refine Ls_on rfl rfl ?_
            refine Ls_run (run_load sc3 rfl (hs.blk_at 1 rfl 5 rfl)) rfl ?_
            refine Ls_on rfl rfl ?_
            refine Ls_run (run_as (run_field Try.underlying26 rfl inf3 (by decide) rfl) (show _ = Value.pointer (some ⟨b4, 5, none⟩) from rfl)) rfl ?_
            refine Ls_on rfl rfl ?_
            refine Ls_run (run_load sc3 rfl (hs.blk_at 0 rfl 5 rfl)) rfl ?_
            refine Ls_on rfl rfl ?_
            refine Ls_run (run_neq rfl rfl) rfl ?_
            refine Ls_run (run_pick_f rfl rfl) rfl ?_
            refine Ls_run (run_move rfl) rfl ?_
            refine Ls_partP (t := 48) rfl (fun h15 => ?_) (fun h15 => ?_)
            · skip
              refine Ls_off rfl rfl rfl rfl ?_
              refine Ls_off rfl rfl rfl rfl ?_
              refine Ls_off rfl rfl rfl rfl ?_
              refine Ls_off rfl rfl rfl rfl ?_
              refine Ls_off rfl rfl rfl rfl ?_
              refine Ls_off rfl rfl rfl rfl ?_
              refine Ls_off rfl rfl rfl rfl ?_
              refine Ls_run (run_pick_t rfl rfl) rfl ?_
              refine Ls_run (run_move rfl) rfl ?_
              refine Ls_off rfl rfl rfl rfl ?_
              refine Ls_off rfl rfl rfl rfl ?_
              refine Ls_off rfl rfl rfl rfl ?_
              refine Ls_off rfl rfl rfl rfl ?_
              refine Ls_off rfl rfl rfl rfl ?_
              refine Ls_off rfl rfl rfl rfl ?_
              refine Ls_off rfl rfl rfl rfl ?_
              refine Ls_run (run_pick_t rfl rfl) rfl ?_
              refine Ls_run (run_move rfl) rfl ?_
              refine Ls_off rfl rfl rfl rfl ?_
              refine Ls_off rfl rfl rfl rfl ?_
              refine Ls_off rfl rfl rfl rfl ?_
              refine Ls_off rfl rfl rfl rfl ?_
              refine Ls_off rfl rfl rfl rfl ?_
              refine Ls_off rfl rfl rfl rfl ?_
              refine Ls_off rfl rfl rfl rfl ?_
              refine Ls_run (run_pick_t rfl rfl) rfl ?_
              refine Ls_nil ?_
              refine Jm_seq ?_
              refine St_ift rfl ?_
              refine St_seq ?_
              refine St_region ?_
              refine Ls_run (run_assign rfl) rfl ?_
              refine Ls_nil ?_
              refine Jm_seq ?_
              refine St_ret ?_
              refine Jm_then_ret  ?_
              refine Jm_ret1 rfl rfl ?_
              first | exact ⟨_, rfl, congrArg Value.bool (decide_eq_false (fun z => by subst z; omega)).symm, hs.forget⟩ | exact ⟨_, rfl, congrArg Value.bool (decide_eq_false (fun z => by subst z; exact absurd rfl (by assumption))).symm, hs.forget⟩
            · skip
              refine Ls_on rfl rfl ?_
              refine Ls_run (run_as (run_field Try.underlying26 rfl inf22 (by decide) rfl) (show _ = Value.pointer (some ⟨b2, 6, none⟩) from rfl)) rfl ?_
              refine Ls_on rfl rfl ?_
              refine Ls_run (run_load sc22 rfl (hs.blk_at 1 rfl 6 rfl)) rfl ?_
              refine Ls_on rfl rfl ?_
              refine Ls_run (run_len Try.underlying22 rfl) rfl ?_
              refine Ls_on rfl rfl ?_
              refine Ls_run (run_as (run_field Try.underlying26 rfl inf22 (by decide) rfl) (show _ = Value.pointer (some ⟨b4, 6, none⟩) from rfl)) rfl ?_
              refine Ls_on rfl rfl ?_
              refine Ls_run (run_load sc22 rfl (hs.blk_at 0 rfl 6 rfl)) rfl ?_
              refine Ls_on rfl rfl ?_
              refine Ls_run (run_len Try.underlying22 rfl) rfl ?_
              refine Ls_on rfl rfl ?_
              refine Ls_run (run_neq rfl rfl) rfl ?_
              refine Ls_run (run_pick_f rfl rfl) rfl ?_
              refine Ls_run (run_move rfl) rfl ?_
              refine Ls_partP (t := 57) rfl (fun h17 => ?_) (fun h17 => ?_)
              · skip
                refine Ls_off rfl rfl rfl rfl ?_
                refine Ls_off rfl rfl rfl rfl ?_
                refine Ls_off rfl rfl rfl rfl ?_
                refine Ls_off rfl rfl rfl rfl ?_
                refine Ls_off rfl rfl rfl rfl ?_
                refine Ls_off rfl rfl rfl rfl ?_
                refine Ls_off rfl rfl rfl rfl ?_
                refine Ls_run (run_pick_t rfl rfl) rfl ?_
                refine Ls_run (run_move rfl) rfl ?_
                refine Ls_off rfl rfl rfl rfl ?_
                refine Ls_off rfl rfl rfl rfl ?_
                refine Ls_off rfl rfl rfl rfl ?_
                refine Ls_off rfl rfl rfl rfl ?_
                refine Ls_off rfl rfl rfl rfl ?_
                refine Ls_off rfl rfl rfl rfl ?_
                refine Ls_off rfl rfl rfl rfl ?_
                refine Ls_run (run_pick_t rfl rfl) rfl ?_
                refine Ls_nil ?_
                refine Jm_seq ?_
                refine St_ift rfl ?_
                refine St_seq ?_
                refine St_region ?_
                refine Ls_run (run_assign rfl) rfl ?_
                refine Ls_nil ?_
                refine Jm_seq ?_
                refine St_ret ?_
                refine Jm_then_ret  ?_
                refine Jm_ret1 rfl rfl ?_
                first | exact ⟨_, rfl, congrArg Value.bool (decide_eq_false (fun z => by subst z; omega)).symm, hs.forget⟩ | exact ⟨_, rfl, congrArg Value.bool (decide_eq_false (fun z => by subst z; exact absurd rfl (by assumption))).symm, hs.forget⟩
              · skip
                refine Ls_on rfl rfl ?_
                refine Ls_run (run_as (run_field Try.underlying26 rfl inf23 (by decide) rfl) (show _ = Value.pointer (some ⟨b2, 7, none⟩) from rfl)) rfl ?_
                refine Ls_on rfl rfl ?_
                refine Ls_run (run_load sc23 rfl (hs.blk_at 1 rfl 7 rfl)) rfl ?_
                refine Ls_on rfl rfl ?_
                refine Ls_run (run_len Try.underlying23 rfl) rfl ?_
                refine Ls_on rfl rfl ?_
                refine Ls_run (run_as (run_field Try.underlying26 rfl inf23 (by decide) rfl) (show _ = Value.pointer (some ⟨b4, 7, none⟩) from rfl)) rfl ?_
                refine Ls_on rfl rfl ?_
                refine Ls_run (run_load sc23 rfl (hs.blk_at 0 rfl 7 rfl)) rfl ?_
                refine Ls_on rfl rfl ?_
                refine Ls_run (run_len Try.underlying23 rfl) rfl ?_
                refine Ls_on rfl rfl ?_
                refine Ls_run (run_neq rfl rfl) rfl ?_
                refine Ls_run (run_pick_f rfl rfl) rfl ?_
                refine Ls_run (run_move rfl) rfl ?_
                refine Ls_partP (t := 66) rfl (fun h19 => ?_) (fun h19 => ?_)
                · skip
                  refine Ls_off rfl rfl rfl rfl ?_
                  refine Ls_off rfl rfl rfl rfl ?_
                  refine Ls_off rfl rfl rfl rfl ?_
                  refine Ls_off rfl rfl rfl rfl ?_
                  refine Ls_off rfl rfl rfl rfl ?_
                  refine Ls_off rfl rfl rfl rfl ?_
                  refine Ls_off rfl rfl rfl rfl ?_
                  refine Ls_run (run_pick_t rfl rfl) rfl ?_
                  refine Ls_nil ?_
                  refine Jm_seq ?_
                  refine St_ift rfl ?_
                  refine St_seq ?_
                  refine St_region ?_
                  refine Ls_run (run_assign rfl) rfl ?_
                  refine Ls_nil ?_
                  refine Jm_seq ?_
                  refine St_ret ?_
                  refine Jm_then_ret  ?_
                  refine Jm_ret1 rfl rfl ?_
                  first | exact ⟨_, rfl, congrArg Value.bool (decide_eq_false (fun z => by subst z; omega)).symm, hs.forget⟩ | exact ⟨_, rfl, congrArg Value.bool (decide_eq_false (fun z => by subst z; exact absurd rfl (by assumption))).symm, hs.forget⟩
                · skip
                  refine Ls_on rfl rfl ?_
                  refine Ls_run (run_as (run_field Try.underlying26 rfl inf24 (by decide) rfl) (show _ = Value.pointer (some ⟨b2, 8, none⟩) from rfl)) rfl ?_
                  refine Ls_on rfl rfl ?_
                  refine Ls_run (run_load sc24 rfl (hs.blk_at 1 rfl 8 rfl)) rfl ?_
                  refine Ls_on rfl rfl ?_
                  refine Ls_run (run_len Try.underlying24 rfl) rfl ?_
                  refine Ls_on rfl rfl ?_
                  refine Ls_run (run_as (run_field Try.underlying26 rfl inf24 (by decide) rfl) (show _ = Value.pointer (some ⟨b4, 8, none⟩) from rfl)) rfl ?_
                  refine Ls_on rfl rfl ?_
                  refine Ls_run (run_load sc24 rfl (hs.blk_at 0 rfl 8 rfl)) rfl ?_
                  refine Ls_on rfl rfl ?_
                  refine Ls_run (run_len Try.underlying24 rfl) rfl ?_
                  refine Ls_on rfl rfl ?_
                  refine Ls_run (run_neq rfl rfl) rfl ?_
                  refine Ls_run (run_pick_f rfl rfl) rfl ?_
                  refine Ls_nil ?_
                  refine Jm_seq ?_
                  refine St_ifP rfl (fun h21 => ?_) (fun h21 => ?_)
                  · skip
                    refine St_seq ?_
                    refine St_region ?_
                    refine Ls_run (run_assign rfl) rfl ?_
                    refine Ls_nil ?_
                    refine Jm_seq ?_
                    refine St_ret ?_
                    refine Jm_then_ret  ?_
                    refine Jm_ret1 rfl rfl ?_
                    first | exact ⟨_, rfl, congrArg Value.bool (decide_eq_false (fun z => by subst z; omega)).symm, hs.forget⟩ | exact ⟨_, rfl, congrArg Value.bool (decide_eq_false (fun z => by subst z; exact absurd rfl (by assumption))).symm, hs.forget⟩
                  · skip
                    refine St_skip ?_
                    refine Jm_seq ?_
                    refine St_seq ?_
                    refine St_seq ?_
                    refine St_region ?_
                    refine Ls_run (run_assign rfl) rfl ?_
                    refine Ls_nil ?_
                    refine Jm_seq ?_
                    refine St_block ?_
                    obtain ⟨En22, hEn22⟩ : ∃ F : Nat → Env, ∀ (i : Nat), F i = [(2, .pointer (some ⟨b2, 0, none⟩)), (3, .pointer (some ⟨b4, 0, none⟩)), (5, .int .i64 (i : Int))] := ⟨(fun (i : Nat) => [(2, .pointer (some ⟨b2, 0, none⟩)), (3, .pointer (some ⟨b4, 0, none⟩)), (5, .int .i64 (i : Int))]), fun _ => rfl⟩
                    obtain ⟨Iv23, hIv23⟩ : ∃ F : Nat → World → Prop, ∀ (i : Nat) (wr : World), F i wr = (Sat w wr [Blk b4 [.int .i64 y.k, .int .i64 y.f, .int .i64 y.t, .int .i64 y.b, .int .i64 y.a, .int .i64 y.c, .slice q.eA q.en q.ec, .slice q.kA q.kn q.kc, .slice q.pA q.pn q.pc] 26, Blk b2 [.int .i64 x.k, .int .i64 x.f, .int .i64 x.t, .int .i64 x.b, .int .i64 x.a, .int .i64 x.c, .slice p.eA p.en p.ec, .slice p.kA p.kn p.kc, .slice p.pA p.pn p.pc] 26] ∧ i ≤ p.en ∧ x.es.take i = y.es.take i) := ⟨(fun (i : Nat) => fun (wr : World) => Sat w wr [Blk b4 [.int .i64 y.k, .int .i64 y.f, .int .i64 y.t, .int .i64 y.b, .int .i64 y.a, .int .i64 y.c, .slice q.eA q.en q.ec, .slice q.kA q.kn q.kc, .slice q.pA q.pn q.pc] 26, Blk b2 [.int .i64 x.k, .int .i64 x.f, .int .i64 x.t, .int .i64 x.b, .int .i64 x.a, .int .i64 x.c, .slice p.eA p.en p.ec, .slice p.kA p.kn p.kc, .slice p.pA p.pn p.pc] 26] ∧ i ≤ p.en ∧ x.es.take i = y.es.take i), fun _ _ => rfl⟩
                    obtain ⟨ms24, hms24⟩ : ∃ F : Nat → Nat, ∀ (i : Nat), F i = (p.en - i) := ⟨(fun (i : Nat) => p.en - i), fun _ => rfl⟩
                    refine St_loop En22 Iv23 ms24 (0) ?_ ?_ ?_
                    · skip
                      rw [hIv23]
                      exact ⟨hs, by omega, by simp⟩
                    · rw [hEn22]; exact (subE_cons rfl (subE_cons rfl (subE_cons rfl subE_nil)))
                    rintro i wr hI25
                    rw [hIv23] at hI25
                    obtain ⟨hs, hi, heqt⟩ := hI25
                    refine St_eqE (hEn22 _) ?_
                    refine St_seq ?_
                    refine St_seq ?_
                    refine St_region ?_
                    refine Ls_run (run_move rfl) rfl ?_
                    refine Ls_run (run_as (run_field Try.underlying26 rfl inf22 (by decide) rfl) (show _ = Value.pointer (some ⟨b2, 6, none⟩) from rfl)) rfl ?_
                    refine Ls_run (run_load sc22 rfl (hs.blk_at 1 rfl 6 rfl)) rfl ?_
                    refine Ls_run (run_len Try.underlying22 rfl) rfl ?_
                    refine Ls_run (run_lss rfl rfl) rfl ?_
                    refine Ls_nil ?_
                    refine Jm_seq ?_
                    refine St_ifP rfl (fun h26 => ?_) (fun h26 => ?_)
                    · skip
                      refine St_skip ?_
                      refine Jm_seq ?_
                      refine St_seq ?_
                      refine St_block ?_
                      refine St_seq ?_
                      refine St_draw (fun x => Below wr.heap.size wr x) mixed ?_
                      intro w27 q28
                      have hH := q28.below
                      replace hs := hs.quiet q28
                      refine An_grow hH ?_
                      replace hH := Below.refl w27.heap.size w27
                      refine An_take 0 rfl (by kernel_rfl) (by kernel_rfl) (by kernel_rfl) (fun _ _ _ h => h) hH (fun x hx => run_as (run_field Try.underlying26 rfl inf22 (by decide) rfl) (show _ = Value.pointer (some ⟨b2, 6, none⟩) from rfl)) rfl ?_
                      refine An_take 1 rfl (by kernel_rfl) (by kernel_rfl) (by kernel_rfl) (fun _ _ _ h => h) hH (fun x hx => run_load sc22 rfl ((hs.grow hx).blk_at 1 rfl 6 rfl)) rfl ?_
                      refine An_take 2 rfl (by kernel_rfl) (by kernel_rfl) (by kernel_rfl) (fun _ _ _ h => h) hH (fun x hx => run_move rfl) rfl ?_
                      refine An_index 3  (El.int .i64) rfl (by kernel_rfl) (by kernel_rfl) (by kernel_rfl) (fun _ _ _ _ h => h) hH (fun x hx => ((hm.e.inB hs).grow hx)) Try.underlying22 inf3 rfl rfl (by omega) (by omega) (show _ = x.es.getD i 0 from rfl) rfl ?_
                      intro b29 o30 hc31
                      refine An_take 4 rfl (by kernel_rfl) (by kernel_rfl) (by kernel_rfl) (fun _ _ _ h => h) hH (fun x hx => run_load sc3 rfl ((hc31 x hx) 0 _ rfl)) rfl ?_
                      refine An_take 5 rfl (by kernel_rfl) (by kernel_rfl) (by kernel_rfl) (fun _ _ _ h => h) hH (fun x hx => run_as (run_field Try.underlying26 rfl inf22 (by decide) rfl) (show _ = Value.pointer (some ⟨b4, 6, none⟩) from rfl)) rfl ?_
                      refine An_take 6 rfl (by kernel_rfl) (by kernel_rfl) (by kernel_rfl) (fun _ _ _ h => h) hH (fun x hx => run_load sc22 rfl ((hs.grow hx).blk_at 0 rfl 6 rfl)) rfl ?_
                      refine An_take 7 rfl (by kernel_rfl) (by kernel_rfl) (by kernel_rfl) (fun _ _ _ h => h) hH (fun x hx => run_move rfl) rfl ?_
                      refine An_index 8  (El.int .i64) rfl (by kernel_rfl) (by kernel_rfl) (by kernel_rfl) (fun _ _ _ _ h => h) hH (fun x hx => ((hm2.e.inB hs).grow hx)) Try.underlying22 inf3 rfl rfl (by omega) (by omega) (show _ = y.es.getD i 0 from rfl) rfl ?_
                      intro b32 o33 hc34
                      refine An_take 9 rfl (by kernel_rfl) (by kernel_rfl) (by kernel_rfl) (fun _ _ _ h => h) hH (fun x hx => run_load sc3 rfl ((hc34 x hx) 0 _ rfl)) rfl ?_
                      refine An_take 10 rfl (by kernel_rfl) (by kernel_rfl) (by kernel_rfl) (fun _ _ _ h => h) hH (fun x hx => run_neq rfl rfl) rfl ?_
                      refine An_done (by kernel_rfl) ?_
                      refine Jm_seq ?_
                      refine St_ifP rfl (fun h35 => ?_) (fun h35 => ?_)
                      · skip
                        refine St_seq ?_
                        refine St_region ?_
                        refine Ls_run (run_assign rfl) rfl ?_
                        refine Ls_nil ?_
                        refine Jm_seq ?_
                        refine St_ret ?_
                        refine Jm_block_ret (Jm_then_ret (Jm_then_ret (Jm_block_ret (Jm_then_ret  ?_))))
                        refine Jm_ret1 rfl rfl ?_
                        first | exact ⟨_, rfl, congrArg Value.bool (decide_eq_false (fun z => by subst z; omega)).symm, hs.forget⟩ | exact ⟨_, rfl, congrArg Value.bool (decide_eq_false (fun z => by subst z; exact absurd rfl (by assumption))).symm, hs.forget⟩
                      · skip
                        refine St_skip ?_
                        refine Jm_block_normal (Jm_seq ?_)
                        refine St_region ?_
                        refine Ls_run (run_move rfl) rfl ?_
                        refine Ls_run (run_add rfl rfl (w64 (by omega))) rfl ?_
                        refine Ls_run (run_assign rfl) rfl ?_
                        refine Ls_nil ?_
                        refine Jm_round (i + 1) ?_ ?_ ?_
                        · rw [hEn22]; exact (subE_cons rfl (subE_cons rfl (subE_cons rfl subE_nil)))
                        · skip
                          rw [hIv23]
                          refine ⟨hs, by omega, ?_⟩
                          rw [take_snoc3 (d := 0) (by omega), take_snoc3 (d := 0) (by omega), heqt, show x.es.getD i 0 = y.es.getD i 0 from Decidable.not_not.1 (by assumption)]
                        · skip
                          rw [hms24, hms24]
                          omega
                    · skip
                      have hies : i = p.en := by omega
                      have hes : x.es = y.es := take_all heqt (by omega) (by omega)
                      refine St_exit ?_
                      refine Jm_then_exit (Jm_then_exit (Jm_block_same (Jm_seq ?_)))
                      refine St_seq ?_
                      refine St_seq ?_
                      refine St_region ?_
                      refine Ls_run (run_assign rfl) rfl ?_
                      refine Ls_nil ?_
                      refine Jm_seq ?_
                      refine St_block ?_
                      obtain ⟨En36, hEn36⟩ : ∃ F : Nat → Env, ∀ (i : Nat), F i = [(2, .pointer (some ⟨b2, 0, none⟩)), (3, .pointer (some ⟨b4, 0, none⟩)), (6, .int .i64 (i : Int))] := ⟨(fun (i : Nat) => [(2, .pointer (some ⟨b2, 0, none⟩)), (3, .pointer (some ⟨b4, 0, none⟩)), (6, .int .i64 (i : Int))]), fun _ => rfl⟩
                      obtain ⟨Iv37, hIv37⟩ : ∃ F : Nat → World → Prop, ∀ (i : Nat) (wr : World), F i wr = (Sat w wr [Blk b4 [.int .i64 y.k, .int .i64 y.f, .int .i64 y.t, .int .i64 y.b, .int .i64 y.a, .int .i64 y.c, .slice q.eA q.en q.ec, .slice q.kA q.kn q.kc, .slice q.pA q.pn q.pc] 26, Blk b2 [.int .i64 x.k, .int .i64 x.f, .int .i64 x.t, .int .i64 x.b, .int .i64 x.a, .int .i64 x.c, .slice p.eA p.en p.ec, .slice p.kA p.kn p.kc, .slice p.pA p.pn p.pc] 26] ∧ i ≤ p.kn ∧ x.ks.take i = y.ks.take i) := ⟨(fun (i : Nat) => fun (wr : World) => Sat w wr [Blk b4 [.int .i64 y.k, .int .i64 y.f, .int .i64 y.t, .int .i64 y.b, .int .i64 y.a, .int .i64 y.c, .slice q.eA q.en q.ec, .slice q.kA q.kn q.kc, .slice q.pA q.pn q.pc] 26, Blk b2 [.int .i64 x.k, .int .i64 x.f, .int .i64 x.t, .int .i64 x.b, .int .i64 x.a, .int .i64 x.c, .slice p.eA p.en p.ec, .slice p.kA p.kn p.kc, .slice p.pA p.pn p.pc] 26] ∧ i ≤ p.kn ∧ x.ks.take i = y.ks.take i), fun _ _ => rfl⟩
                      obtain ⟨ms38, hms38⟩ : ∃ F : Nat → Nat, ∀ (i : Nat), F i = (p.kn - i) := ⟨(fun (i : Nat) => p.kn - i), fun _ => rfl⟩
                      refine St_loop En36 Iv37 ms38 (0) ?_ ?_ ?_
                      · skip
                        rw [hIv37]
                        exact ⟨hs, by omega, by simp⟩
                      · rw [hEn36]; exact (subE_cons rfl (subE_cons rfl (subE_cons rfl subE_nil)))
                      rintro i wr hI39
                      rw [hIv37] at hI39
                      obtain ⟨hs, hi, heqt⟩ := hI39
                      refine St_eqE (hEn36 _) ?_
                      refine St_seq ?_
                      refine St_seq ?_
                      refine St_region ?_
                      refine Ls_run (run_move rfl) rfl ?_
                      refine Ls_run (run_as (run_field Try.underlying26 rfl inf23 (by decide) rfl) (show _ = Value.pointer (some ⟨b2, 7, none⟩) from rfl)) rfl ?_
                      refine Ls_run (run_load sc23 rfl (hs.blk_at 1 rfl 7 rfl)) rfl ?_
                      refine Ls_run (run_len Try.underlying23 rfl) rfl ?_
                      refine Ls_run (run_lss rfl rfl) rfl ?_
                      refine Ls_nil ?_
                      refine Jm_seq ?_
                      refine St_ifP rfl (fun h40 => ?_) (fun h40 => ?_)
                      · skip
                        refine St_skip ?_
                        refine Jm_seq ?_
                        refine St_seq ?_
                        refine St_block ?_
                        refine St_seq ?_
                        refine St_draw (fun x => Below wr.heap.size wr x) mixed ?_
                        intro w41 q42
                        have hH := q42.below
                        replace hs := hs.quiet q42
                        refine An_grow hH ?_
                        replace hH := Below.refl w41.heap.size w41
                        refine An_take 0 rfl (by kernel_rfl) (by kernel_rfl) (by kernel_rfl) (fun _ _ _ h => h) hH (fun x hx => run_as (run_field Try.underlying26 rfl inf23 (by decide) rfl) (show _ = Value.pointer (some ⟨b2, 7, none⟩) from rfl)) rfl ?_
                        refine An_take 1 rfl (by kernel_rfl) (by kernel_rfl) (by kernel_rfl) (fun _ _ _ h => h) hH (fun x hx => run_load sc23 rfl ((hs.grow hx).blk_at 1 rfl 7 rfl)) rfl ?_
                        refine An_take 2 rfl (by kernel_rfl) (by kernel_rfl) (by kernel_rfl) (fun _ _ _ h => h) hH (fun x hx => run_move rfl) rfl ?_
                        refine An_index 3  (El.int .u64) rfl (by kernel_rfl) (by kernel_rfl) (by kernel_rfl) (fun _ _ _ _ h => h) hH (fun x hx => ((hm.k.inB hs).grow hx)) Try.underlying23 inf38 rfl rfl (by omega) (by omega) (show _ = x.ks.getD i 0 from rfl) rfl ?_
                        intro b43 o44 hc45
                        refine An_take 4 rfl (by kernel_rfl) (by kernel_rfl) (by kernel_rfl) (fun _ _ _ h => h) hH (fun x hx => run_load sc38 rfl ((hc45 x hx) 0 _ rfl)) rfl ?_
                        refine An_take 5 rfl (by kernel_rfl) (by kernel_rfl) (by kernel_rfl) (fun _ _ _ h => h) hH (fun x hx => run_as (run_field Try.underlying26 rfl inf23 (by decide) rfl) (show _ = Value.pointer (some ⟨b4, 7, none⟩) from rfl)) rfl ?_
                        refine An_take 6 rfl (by kernel_rfl) (by kernel_rfl) (by kernel_rfl) (fun _ _ _ h => h) hH (fun x hx => run_load sc23 rfl ((hs.grow hx).blk_at 0 rfl 7 rfl)) rfl ?_
                        refine An_take 7 rfl (by kernel_rfl) (by kernel_rfl) (by kernel_rfl) (fun _ _ _ h => h) hH (fun x hx => run_move rfl) rfl ?_
                        refine An_index 8  (El.int .u64) rfl (by kernel_rfl) (by kernel_rfl) (by kernel_rfl) (fun _ _ _ _ h => h) hH (fun x hx => ((hm2.k.inB hs).grow hx)) Try.underlying23 inf38 rfl rfl (by omega) (by omega) (show _ = y.ks.getD i 0 from rfl) rfl ?_
                        intro b46 o47 hc48
                        refine An_take 9 rfl (by kernel_rfl) (by kernel_rfl) (by kernel_rfl) (fun _ _ _ h => h) hH (fun x hx => run_load sc38 rfl ((hc48 x hx) 0 _ rfl)) rfl ?_
                        refine An_take 10 rfl (by kernel_rfl) (by kernel_rfl) (by kernel_rfl) (fun _ _ _ h => h) hH (fun x hx => run_neq rfl rfl) rfl ?_
                        refine An_done (by kernel_rfl) ?_
                        refine Jm_seq ?_
                        refine St_ifP rfl (fun h49 => ?_) (fun h49 => ?_)
                        · skip
                          refine St_seq ?_
                          refine St_region ?_
                          refine Ls_run (run_assign rfl) rfl ?_
                          refine Ls_nil ?_
                          refine Jm_seq ?_
                          refine St_ret ?_
                          refine Jm_block_ret (Jm_then_ret (Jm_then_ret (Jm_block_ret (Jm_then_ret  ?_))))
                          refine Jm_ret1 rfl rfl ?_
                          first | exact ⟨_, rfl, congrArg Value.bool (decide_eq_false (fun z => by subst z; omega)).symm, hs.forget⟩ | exact ⟨_, rfl, congrArg Value.bool (decide_eq_false (fun z => by subst z; exact absurd rfl (by assumption))).symm, hs.forget⟩
                        · skip
                          refine St_skip ?_
                          refine Jm_block_normal (Jm_seq ?_)
                          refine St_region ?_
                          refine Ls_run (run_move rfl) rfl ?_
                          refine Ls_run (run_add rfl rfl (w64 (by omega))) rfl ?_
                          refine Ls_run (run_assign rfl) rfl ?_
                          refine Ls_nil ?_
                          refine Jm_round (i + 1) ?_ ?_ ?_
                          · rw [hEn36]; exact (subE_cons rfl (subE_cons rfl (subE_cons rfl subE_nil)))
                          · skip
                            rw [hIv37]
                            refine ⟨hs, by omega, ?_⟩
                            rw [take_snoc3 (d := 0) (by omega), take_snoc3 (d := 0) (by omega), heqt, show x.ks.getD i 0 = y.ks.getD i 0 from Decidable.not_not.1 (by assumption)]
                          · skip
                            rw [hms38, hms38]
                            omega
                      · skip
                        have hiks : i = p.kn := by omega
                        have hks : x.ks = y.ks := take_all heqt (by omega) (by omega)
                        refine St_exit ?_
                        refine Jm_then_exit (Jm_then_exit (Jm_block_same (Jm_seq ?_)))
                        refine St_seq ?_
                        refine St_seq ?_
                        refine St_region ?_
                        refine Ls_run (run_assign rfl) rfl ?_
                        refine Ls_nil ?_
                        refine Jm_seq ?_
                        refine St_block ?_
                        obtain ⟨En50, hEn50⟩ : ∃ F : Nat → Env, ∀ (i : Nat), F i = [(2, .pointer (some ⟨b2, 0, none⟩)), (3, .pointer (some ⟨b4, 0, none⟩)), (7, .int .i64 (i : Int))] := ⟨(fun (i : Nat) => [(2, .pointer (some ⟨b2, 0, none⟩)), (3, .pointer (some ⟨b4, 0, none⟩)), (7, .int .i64 (i : Int))]), fun _ => rfl⟩
                        obtain ⟨Iv51, hIv51⟩ : ∃ F : Nat → World → Prop, ∀ (i : Nat) (wr : World), F i wr = (Sat w wr [Blk b4 [.int .i64 y.k, .int .i64 y.f, .int .i64 y.t, .int .i64 y.b, .int .i64 y.a, .int .i64 y.c, .slice q.eA q.en q.ec, .slice q.kA q.kn q.kc, .slice q.pA q.pn q.pc] 26, Blk b2 [.int .i64 x.k, .int .i64 x.f, .int .i64 x.t, .int .i64 x.b, .int .i64 x.a, .int .i64 x.c, .slice p.eA p.en p.ec, .slice p.kA p.kn p.kc, .slice p.pA p.pn p.pc] 26] ∧ i ≤ p.pn ∧ x.ps.take i = y.ps.take i) := ⟨(fun (i : Nat) => fun (wr : World) => Sat w wr [Blk b4 [.int .i64 y.k, .int .i64 y.f, .int .i64 y.t, .int .i64 y.b, .int .i64 y.a, .int .i64 y.c, .slice q.eA q.en q.ec, .slice q.kA q.kn q.kc, .slice q.pA q.pn q.pc] 26, Blk b2 [.int .i64 x.k, .int .i64 x.f, .int .i64 x.t, .int .i64 x.b, .int .i64 x.a, .int .i64 x.c, .slice p.eA p.en p.ec, .slice p.kA p.kn p.kc, .slice p.pA p.pn p.pc] 26] ∧ i ≤ p.pn ∧ x.ps.take i = y.ps.take i), fun _ _ => rfl⟩
                        obtain ⟨ms52, hms52⟩ : ∃ F : Nat → Nat, ∀ (i : Nat), F i = (p.pn - i) := ⟨(fun (i : Nat) => p.pn - i), fun _ => rfl⟩
                        refine St_loop En50 Iv51 ms52 (0) ?_ ?_ ?_
                        · skip
                          rw [hIv51]
                          exact ⟨hs, by omega, by simp⟩
                        · rw [hEn50]; exact (subE_cons rfl (subE_cons rfl (subE_cons rfl subE_nil)))
                        rintro i wr hI53
                        rw [hIv51] at hI53
                        obtain ⟨hs, hi, heqt⟩ := hI53
                        refine St_eqE (hEn50 _) ?_
                        refine St_seq ?_
                        refine St_seq ?_
                        refine St_region ?_
                        refine Ls_run (run_move rfl) rfl ?_
                        refine Ls_run (run_as (run_field Try.underlying26 rfl inf24 (by decide) rfl) (show _ = Value.pointer (some ⟨b2, 8, none⟩) from rfl)) rfl ?_
                        refine Ls_run (run_load sc24 rfl (hs.blk_at 1 rfl 8 rfl)) rfl ?_
                        refine Ls_run (run_len Try.underlying24 rfl) rfl ?_
                        refine Ls_run (run_lss rfl rfl) rfl ?_
                        refine Ls_nil ?_
                        refine Jm_seq ?_
                        refine St_ifP rfl (fun h54 => ?_) (fun h54 => ?_)
                        · skip
                          refine St_skip ?_
                          refine Jm_seq ?_
                          refine St_seq ?_
                          refine St_block ?_
                          refine St_seq ?_
                          refine St_draw (fun x => Below wr.heap.size wr x) mixed ?_
                          intro w55 q56
                          have hH := q56.below
                          replace hs := hs.quiet q56
                          refine An_grow hH ?_
                          replace hH := Below.refl w55.heap.size w55
                          refine An_take 0 rfl (by kernel_rfl) (by kernel_rfl) (by kernel_rfl) (fun _ _ _ h => h) hH (fun x hx => run_as (run_field Try.underlying26 rfl inf24 (by decide) rfl) (show _ = Value.pointer (some ⟨b2, 8, none⟩) from rfl)) rfl ?_
                          refine An_take 1 rfl (by kernel_rfl) (by kernel_rfl) (by kernel_rfl) (fun _ _ _ h => h) hH (fun x hx => run_load sc24 rfl ((hs.grow hx).blk_at 1 rfl 8 rfl)) rfl ?_
                          refine An_take 2 rfl (by kernel_rfl) (by kernel_rfl) (by kernel_rfl) (fun _ _ _ h => h) hH (fun x hx => run_move rfl) rfl ?_
                          obtain ⟨⟨ka, ha, ba⟩, ho⟩ : ∃ o, x.ps.getD i (0, false, 0) = o := ⟨_, rfl⟩
                          refine An_index 3  (KP) rfl (by kernel_rfl) (by kernel_rfl) (by kernel_rfl) (fun _ _ _ _ h => h) hH (fun x hx => ((hm.p.inB hs).grow hx)) Try.underlying24 inf42 rfl rfl (by omega) (by omega) ho rfl ?_
                          intro b57 o58 hc59
                          refine An_take 4 rfl (by kernel_rfl) (by kernel_rfl) (by kernel_rfl) (fun _ _ _ h => h) hH (fun x hx => run_as (run_load_agg agg42 inf42 rfl rfl (hc59 x hx)) (show _ = Value.agg #[.int .u64 ka, .bool ha, .int .u64 ba] from rfl)) rfl ?_
                          refine An_take 5 rfl (by kernel_rfl) (by kernel_rfl) (by kernel_rfl) (fun _ _ _ h => h) hH (fun x hx => run_as (run_field Try.underlying26 rfl inf24 (by decide) rfl) (show _ = Value.pointer (some ⟨b4, 8, none⟩) from rfl)) rfl ?_
                          refine An_take 6 rfl (by kernel_rfl) (by kernel_rfl) (by kernel_rfl) (fun _ _ _ h => h) hH (fun x hx => run_load sc24 rfl ((hs.grow hx).blk_at 0 rfl 8 rfl)) rfl ?_
                          refine An_take 7 rfl (by kernel_rfl) (by kernel_rfl) (by kernel_rfl) (fun _ _ _ h => h) hH (fun x hx => run_move rfl) rfl ?_
                          obtain ⟨⟨kb, hb, bb⟩, ho2⟩ : ∃ o, y.ps.getD i (0, false, 0) = o := ⟨_, rfl⟩
                          refine An_index 8  (KP) rfl (by kernel_rfl) (by kernel_rfl) (by kernel_rfl) (fun _ _ _ _ h => h) hH (fun x hx => ((hm2.p.inB hs).grow hx)) Try.underlying24 inf42 rfl rfl (by omega) (by omega) ho2 rfl ?_
                          intro b60 o61 hc62
                          refine An_take 9 rfl (by kernel_rfl) (by kernel_rfl) (by kernel_rfl) (fun _ _ _ h => h) hH (fun x hx => run_as (run_load_agg agg42 inf42 rfl rfl (hc62 x hx)) (show _ = Value.agg #[.int .u64 kb, .bool hb, .int .u64 bb] from rfl)) rfl ?_
                          refine An_take 10 rfl (by kernel_rfl) (by kernel_rfl) (by kernel_rfl) (fun _ _ _ h => h) hH (fun x hx => run_neq_agg rfl rfl (by kernel_rfl) (eqs42 9997 _ _ _ _ _ _)) rfl ?_
                          refine An_done (by kernel_rfl) ?_
                          refine Jm_seq ?_
                          refine St_if rfl (fun h63 => ?_) (fun h63 => ?_)
                          · skip
                            have hne : x ≠ y := by
                              intro q9; subst q9; rw [ho] at ho2; cases ho2
                              simp at h63
                            refine St_seq ?_
                            refine St_region ?_
                            refine Ls_run (run_assign rfl) rfl ?_
                            refine Ls_nil ?_
                            refine Jm_seq ?_
                            refine St_ret ?_
                            refine Jm_block_ret (Jm_then_ret (Jm_then_ret (Jm_block_ret (Jm_then_ret  ?_))))
                            refine Jm_ret1 rfl rfl ?_
                            exact ⟨_, rfl, congrArg Value.bool (decide_eq_false hne).symm, hs.forget⟩
                          · skip
                            have heq : (ka, ha, ba) = (kb, hb, bb) := by
                              simp at h63
                              simp [h63]
                            refine St_skip ?_
                            refine Jm_block_normal (Jm_seq ?_)
                            refine St_region ?_
                            refine Ls_run (run_move rfl) rfl ?_
                            refine Ls_run (run_add rfl rfl (w64 (by omega))) rfl ?_
                            refine Ls_run (run_assign rfl) rfl ?_
                            refine Ls_nil ?_
                            refine Jm_round (i + 1) ?_ ?_ ?_
                            · rw [hEn50]; exact (subE_cons rfl (subE_cons rfl (subE_cons rfl subE_nil)))
                            · skip
                              rw [hIv51]
                              refine ⟨hs, by omega, ?_⟩
                              rw [take_snoc3 (d := (0, false, 0)) (by omega), take_snoc3 (d := (0, false, 0)) (by omega), heqt, ho, ho2, heq]
                            · skip
                              rw [hms52, hms52]
                              omega
                        · skip
                          have hips : i = p.pn := by omega
                          have hps : x.ps = y.ps := take_all heqt (by omega) (by omega)
                          refine St_exit ?_
                          refine Jm_then_exit (Jm_then_exit (Jm_block_same (Jm_seq ?_)))
                          refine St_seq ?_
                          refine St_region ?_
                          refine Ls_run (run_assign rfl) rfl ?_
                          refine Ls_nil ?_
                          refine Jm_seq ?_
                          refine St_ret ?_
                          refine Jm_ret1 rfl rfl ?_
                          have hxy : x = y := by
                            obtain ⟨x1, x2, x3, x4, x5, x6, x7, x8, x9⟩ := x
                            obtain ⟨y1, y2, y3, y4, y5, y6, y7, y8, y9⟩ := y
                            simp only at *
                            simp only [MC.mk.injEq]
                            exact ⟨by omega, by omega, by omega, by omega, by omega, by omega, by assumption, by assumption, by assumption⟩
                          exact ⟨_, rfl, congrArg Value.bool (decide_eq_true hxy).symm, hs.forget⟩
end Go.Proofs.Ytipkfdeiallifaa.Lg
