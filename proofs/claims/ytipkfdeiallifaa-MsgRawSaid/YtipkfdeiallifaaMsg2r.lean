/-
  The reference's Sound, walked. By program (gen/msg2.py).
-/
import Derived.Test.YtipkfdeiallifaaMsg2
set_option linter.unusedVariables false
set_option linter.unusedSimpArgs false
namespace Go.Proofs.Ytipkfdeiallifaa.Lg
open Go Go.RowKit Go.Proofs.Ytipkfdeiallifaa.WirePure
set_option maxRecDepth 100000 in
set_option maxHeartbeats 1000000 in
theorem rSound_c (w : World) (x : MC) (p : MP) (hm : MRd w x p) (hze : p.en ≤ 9223372036854775807) (hzk : p.kn ≤ 9223372036854775807) (hzp : p.pn ≤ 9223372036854775807) :
    Calls Try.prog 19 [.agg #[.int .i64 x.k, .int .i64 x.f, .int .i64 x.t, .int .i64 x.b, .int .i64 x.a, .int .i64 x.c, .slice p.eA p.en p.ec, .slice p.kA p.kn p.kc, .slice p.pA p.pn p.pc]].toArray w (Ret (fun v' w' => v' = .bool (decide (Msound x)) ∧ Sat w w' [])) := by
  have hs := Sat.start w
  have hen := hm.en
  have hkn := hm.kn
  have hpn := hm.pn
  have hmr := mof_range x.k
  refine Calls_body Try.func19 rfl rfl rfl (envE_cons (i := 0) (v := .agg #[.int .i64 x.k, .int .i64 x.f, .int .i64 x.t, .int .i64 x.b, .int .i64 x.a, .int .i64 x.c, .slice p.eA p.en p.ec, .slice p.kA p.kn p.kc, .slice p.pA p.pn p.pc]) rfl envE_nil) ?_
  refine St_seq ?_
  refine St_region ?_
  refine Ls_box hs rfl rfl ?_
  intro b2 w1 hs
  refine Ls_run (run_assign rfl) rfl ?_
  refine Ls_nil ?_
  refine Jm_seq ?_
  refine St_seq ?_
  refine St_region ?_
  refine Ls_run (run_as (run_field Try.underlying26 rfl inf3 (by decide) rfl) (show _ = Value.pointer (some ⟨b2, 0, none⟩) from rfl)) rfl ?_
  refine Ls_run (run_load sc3 rfl (hs.blk_at 0 rfl 0 rfl)) rfl ?_
  refine Ls_call Try.func68 nm68 rfl rfl (Field_c w1 x.k) rfl ?_
  rintro v3 w4 ⟨rfl, rfl⟩
  refine Ls_run (run_assign rfl) rfl ?_
  refine Ls_nil ?_
  refine Jm_seq ?_
  refine St_seq ?_
  refine St_seq ?_
  refine St_region ?_
  refine Ls_run (run_move rfl) rfl ?_
  refine Ls_run (run_eql rfl rfl) rfl ?_
  refine Ls_run (run_move rfl) rfl ?_
  refine Ls_partP (t := 10) rfl (fun h5 => ?_) (fun h5 => ?_)
  · skip
    refine Ls_off rfl rfl rfl rfl ?_
    refine Ls_off rfl rfl rfl rfl ?_
    refine Ls_off rfl rfl rfl rfl ?_
    refine Ls_run (run_pick_t rfl rfl) rfl ?_
    refine Ls_run (run_move rfl) rfl ?_
    refine Ls_off rfl rfl rfl rfl ?_
    refine Ls_off rfl rfl rfl rfl ?_
    refine Ls_off rfl rfl rfl rfl ?_
    refine Ls_run (run_pick_t rfl rfl) rfl ?_
    refine Ls_run (run_move rfl) rfl ?_
    refine Ls_off rfl rfl rfl rfl ?_
    refine Ls_off rfl rfl rfl rfl ?_
    refine Ls_off rfl rfl rfl rfl ?_
    refine Ls_run (run_pick_t rfl rfl) rfl ?_
    refine Ls_run (run_move rfl) rfl ?_
    refine Ls_off rfl rfl rfl rfl ?_
    refine Ls_off rfl rfl rfl rfl ?_
    refine Ls_off rfl rfl rfl rfl ?_
    refine Ls_run (run_pick_t rfl rfl) rfl ?_
    refine Ls_run (run_move rfl) rfl ?_
    refine Ls_off rfl rfl rfl rfl ?_
    refine Ls_off rfl rfl rfl rfl ?_
    refine Ls_off rfl rfl rfl rfl ?_
    refine Ls_run (run_pick_t rfl rfl) rfl ?_
    refine Ls_run (run_move rfl) rfl ?_
    refine Ls_off rfl rfl rfl rfl ?_
    refine Ls_off rfl rfl rfl rfl ?_
    refine Ls_off rfl rfl rfl rfl ?_
    refine Ls_run (run_pick_t rfl rfl) rfl ?_
    refine Ls_run (run_move rfl) rfl ?_
    refine Ls_off rfl rfl rfl rfl ?_
    refine Ls_off rfl rfl rfl rfl ?_
    refine Ls_off rfl rfl rfl rfl ?_
    refine Ls_run (run_pick_t rfl rfl) rfl ?_
    refine Ls_run (run_move rfl) rfl ?_
    refine Ls_off rfl rfl rfl rfl ?_
    refine Ls_off rfl rfl rfl rfl ?_
    refine Ls_off rfl rfl rfl rfl ?_
    refine Ls_run (run_pick_t rfl rfl) rfl ?_
    refine Ls_nil ?_
    refine Jm_seq ?_
    refine St_ift rfl ?_
    refine St_seq ?_
    refine St_region ?_
    refine Ls_run (run_assign rfl) rfl ?_
    refine Ls_nil ?_
    refine Jm_seq ?_
    refine St_ret ?_
    refine Jm_then_ret  ?_
    refine Jm_ret1 rfl rfl ?_
    refine ⟨_, rfl, ?_, hs.forget⟩
    first
    | exact congrArg Value.bool (decide_eq_false (fun q => by have := sound_num q; omega)).symm
    | exact congrArg Value.bool (decide_eq_false (hz1 (by assumption))).symm
    | exact congrArg Value.bool (decide_eq_false (fun q => by have h8 := sound_num q; have e1 : mof x.k = 1 := (by omega); have h9 := (q.2.2.2.2.2.1 e1).1 _ hmem; omega)).symm
    | (have hz3 := hz2 (by assumption)
       have hh : Mhead x := ⟨by omega, by omega, by omega, by omega, by omega, hz3.1, hz3.2.1, hz3.2.2.1, hz3.2.2.2⟩
       have hi9 : i = p.en := by omega
       rw [hi9, List.take_of_length_le (by omega)] at hok
       have hee : mof x.k = 1 → 1 ≤ x.es.length ∧ x.es.length ≤ 4 := fun e => by omega
       first
       | exact congrArg Value.bool (decide_eq_decide.2 ((sound_iff' hh hee hok).trans ⟨fun q => by omega, fun q => ⟨by omega, by assumption, by omega, by assumption, by omega, by omega⟩⟩)).symm
       | exact congrArg Value.bool (decide_eq_false (fun q => absurd ((sound_iff' hh hee hok).1 q).2.1 (by assumption))).symm
       | exact congrArg Value.bool (decide_eq_false (fun q => absurd ((sound_iff' hh hee hok).1 q).2.2.2.1 (by assumption))).symm
       | exact congrArg Value.bool (decide_eq_false (fun q => by have := (sound_iff' hh hee hok).1 q; omega)).symm)
  · skip
    refine Ls_on rfl rfl ?_
    refine Ls_run (run_as (run_field Try.underlying26 rfl inf3 (by decide) rfl) (show _ = Value.pointer (some ⟨b2, 1, none⟩) from rfl)) rfl ?_
    refine Ls_on rfl rfl ?_
    refine Ls_run (run_load sc3 rfl (hs.blk_at 0 rfl 1 rfl)) rfl ?_
    refine Ls_on rfl rfl ?_
    refine Ls_run (run_lss rfl rfl) rfl ?_
    refine Ls_run (run_pick_f rfl rfl) rfl ?_
    refine Ls_run (run_move rfl) rfl ?_
    refine Ls_partP (t := 15) rfl (fun h7 => ?_) (fun h7 => ?_)
    · skip
      refine Ls_off rfl rfl rfl rfl ?_
      refine Ls_off rfl rfl rfl rfl ?_
      refine Ls_off rfl rfl rfl rfl ?_
      refine Ls_run (run_pick_t rfl rfl) rfl ?_
      refine Ls_run (run_move rfl) rfl ?_
      refine Ls_off rfl rfl rfl rfl ?_
      refine Ls_off rfl rfl rfl rfl ?_
      refine Ls_off rfl rfl rfl rfl ?_
      refine Ls_run (run_pick_t rfl rfl) rfl ?_
      refine Ls_run (run_move rfl) rfl ?_
      refine Ls_off rfl rfl rfl rfl ?_
      refine Ls_off rfl rfl rfl rfl ?_
      refine Ls_off rfl rfl rfl rfl ?_
      refine Ls_run (run_pick_t rfl rfl) rfl ?_
      refine Ls_run (run_move rfl) rfl ?_
      refine Ls_off rfl rfl rfl rfl ?_
      refine Ls_off rfl rfl rfl rfl ?_
      refine Ls_off rfl rfl rfl rfl ?_
      refine Ls_run (run_pick_t rfl rfl) rfl ?_
      refine Ls_run (run_move rfl) rfl ?_
      refine Ls_off rfl rfl rfl rfl ?_
      refine Ls_off rfl rfl rfl rfl ?_
      refine Ls_off rfl rfl rfl rfl ?_
      refine Ls_run (run_pick_t rfl rfl) rfl ?_
      refine Ls_run (run_move rfl) rfl ?_
      refine Ls_off rfl rfl rfl rfl ?_
      refine Ls_off rfl rfl rfl rfl ?_
      refine Ls_off rfl rfl rfl rfl ?_
      refine Ls_run (run_pick_t rfl rfl) rfl ?_
      refine Ls_run (run_move rfl) rfl ?_
      refine Ls_off rfl rfl rfl rfl ?_
      refine Ls_off rfl rfl rfl rfl ?_
      refine Ls_off rfl rfl rfl rfl ?_
      refine Ls_run (run_pick_t rfl rfl) rfl ?_
      refine Ls_nil ?_
      refine Jm_seq ?_
      refine St_ift rfl ?_
      refine St_seq ?_
      refine St_region ?_
      refine Ls_run (run_assign rfl) rfl ?_
      refine Ls_nil ?_
      refine Jm_seq ?_
      refine St_ret ?_
      refine Jm_then_ret  ?_
      refine Jm_ret1 rfl rfl ?_
      refine ⟨_, rfl, ?_, hs.forget⟩
      first
      | exact congrArg Value.bool (decide_eq_false (fun q => by have := sound_num q; omega)).symm
      | exact congrArg Value.bool (decide_eq_false (hz1 (by assumption))).symm
      | exact congrArg Value.bool (decide_eq_false (fun q => by have h8 := sound_num q; have e1 : mof x.k = 1 := (by omega); have h9 := (q.2.2.2.2.2.1 e1).1 _ hmem; omega)).symm
      | (have hz3 := hz2 (by assumption)
         have hh : Mhead x := ⟨by omega, by omega, by omega, by omega, by omega, hz3.1, hz3.2.1, hz3.2.2.1, hz3.2.2.2⟩
         have hi9 : i = p.en := by omega
         rw [hi9, List.take_of_length_le (by omega)] at hok
         have hee : mof x.k = 1 → 1 ≤ x.es.length ∧ x.es.length ≤ 4 := fun e => by omega
         first
         | exact congrArg Value.bool (decide_eq_decide.2 ((sound_iff' hh hee hok).trans ⟨fun q => by omega, fun q => ⟨by omega, by assumption, by omega, by assumption, by omega, by omega⟩⟩)).symm
         | exact congrArg Value.bool (decide_eq_false (fun q => absurd ((sound_iff' hh hee hok).1 q).2.1 (by assumption))).symm
         | exact congrArg Value.bool (decide_eq_false (fun q => absurd ((sound_iff' hh hee hok).1 q).2.2.2.1 (by assumption))).symm
         | exact congrArg Value.bool (decide_eq_false (fun q => by have := (sound_iff' hh hee hok).1 q; omega)).symm)
    · skip
      refine Ls_on rfl rfl ?_
      refine Ls_run (run_as (run_field Try.underlying26 rfl inf3 (by decide) rfl) (show _ = Value.pointer (some ⟨b2, 1, none⟩) from rfl)) rfl ?_
      refine Ls_on rfl rfl ?_
      refine Ls_run (run_load sc3 rfl (hs.blk_at 0 rfl 1 rfl)) rfl ?_
      refine Ls_on rfl rfl ?_
      refine Ls_run (run_gtr rfl rfl) rfl ?_
      refine Ls_run (run_pick_f rfl rfl) rfl ?_
      refine Ls_run (run_move rfl) rfl ?_
      refine Ls_partP (t := 20) rfl (fun h9 => ?_) (fun h9 => ?_)
      · skip
        refine Ls_off rfl rfl rfl rfl ?_
        refine Ls_off rfl rfl rfl rfl ?_
        refine Ls_off rfl rfl rfl rfl ?_
        refine Ls_run (run_pick_t rfl rfl) rfl ?_
        refine Ls_run (run_move rfl) rfl ?_
        refine Ls_off rfl rfl rfl rfl ?_
        refine Ls_off rfl rfl rfl rfl ?_
        refine Ls_off rfl rfl rfl rfl ?_
        refine Ls_run (run_pick_t rfl rfl) rfl ?_
        refine Ls_run (run_move rfl) rfl ?_
        refine Ls_off rfl rfl rfl rfl ?_
        refine Ls_off rfl rfl rfl rfl ?_
        refine Ls_off rfl rfl rfl rfl ?_
        refine Ls_run (run_pick_t rfl rfl) rfl ?_
        refine Ls_run (run_move rfl) rfl ?_
        refine Ls_off rfl rfl rfl rfl ?_
        refine Ls_off rfl rfl rfl rfl ?_
        refine Ls_off rfl rfl rfl rfl ?_
        refine Ls_run (run_pick_t rfl rfl) rfl ?_
        refine Ls_run (run_move rfl) rfl ?_
        refine Ls_off rfl rfl rfl rfl ?_
        refine Ls_off rfl rfl rfl rfl ?_
        refine Ls_off rfl rfl rfl rfl ?_
        refine Ls_run (run_pick_t rfl rfl) rfl ?_
        refine Ls_run (run_move rfl) rfl ?_
        refine Ls_off rfl rfl rfl rfl ?_
        refine Ls_off rfl rfl rfl rfl ?_
        refine Ls_off rfl rfl rfl rfl ?_
        refine Ls_run (run_pick_t rfl rfl) rfl ?_
        refine Ls_nil ?_
        refine Jm_seq ?_
        refine St_ift rfl ?_
        refine St_seq ?_
        refine St_region ?_
        refine Ls_run (run_assign rfl) rfl ?_
        refine Ls_nil ?_
        refine Jm_seq ?_
        refine St_ret ?_
        refine Jm_then_ret  ?_
        refine Jm_ret1 rfl rfl ?_
        refine ⟨_, rfl, ?_, hs.forget⟩
        first
        | exact congrArg Value.bool (decide_eq_false (fun q => by have := sound_num q; omega)).symm
        | exact congrArg Value.bool (decide_eq_false (hz1 (by assumption))).symm
        | exact congrArg Value.bool (decide_eq_false (fun q => by have h8 := sound_num q; have e1 : mof x.k = 1 := (by omega); have h9 := (q.2.2.2.2.2.1 e1).1 _ hmem; omega)).symm
        | (have hz3 := hz2 (by assumption)
           have hh : Mhead x := ⟨by omega, by omega, by omega, by omega, by omega, hz3.1, hz3.2.1, hz3.2.2.1, hz3.2.2.2⟩
           have hi9 : i = p.en := by omega
           rw [hi9, List.take_of_length_le (by omega)] at hok
           have hee : mof x.k = 1 → 1 ≤ x.es.length ∧ x.es.length ≤ 4 := fun e => by omega
           first
           | exact congrArg Value.bool (decide_eq_decide.2 ((sound_iff' hh hee hok).trans ⟨fun q => by omega, fun q => ⟨by omega, by assumption, by omega, by assumption, by omega, by omega⟩⟩)).symm
           | exact congrArg Value.bool (decide_eq_false (fun q => absurd ((sound_iff' hh hee hok).1 q).2.1 (by assumption))).symm
           | exact congrArg Value.bool (decide_eq_false (fun q => absurd ((sound_iff' hh hee hok).1 q).2.2.2.1 (by assumption))).symm
           | exact congrArg Value.bool (decide_eq_false (fun q => by have := (sound_iff' hh hee hok).1 q; omega)).symm)
      · skip
        refine Ls_on rfl rfl ?_
        refine Ls_run (run_as (run_field Try.underlying26 rfl inf3 (by decide) rfl) (show _ = Value.pointer (some ⟨b2, 2, none⟩) from rfl)) rfl ?_
        refine Ls_on rfl rfl ?_
        refine Ls_run (run_load sc3 rfl (hs.blk_at 0 rfl 2 rfl)) rfl ?_
        refine Ls_on rfl rfl ?_
        refine Ls_run (run_lss rfl rfl) rfl ?_
        refine Ls_run (run_pick_f rfl rfl) rfl ?_
        refine Ls_run (run_move rfl) rfl ?_
        refine Ls_partP (t := 25) rfl (fun h11 => ?_) (fun h11 => ?_)
        · skip
          refine Ls_off rfl rfl rfl rfl ?_
          refine Ls_off rfl rfl rfl rfl ?_
          refine Ls_off rfl rfl rfl rfl ?_
          refine Ls_run (run_pick_t rfl rfl) rfl ?_
          refine Ls_run (run_move rfl) rfl ?_
          refine Ls_off rfl rfl rfl rfl ?_
          refine Ls_off rfl rfl rfl rfl ?_
          refine Ls_off rfl rfl rfl rfl ?_
          refine Ls_run (run_pick_t rfl rfl) rfl ?_
          refine Ls_run (run_move rfl) rfl ?_
          refine Ls_off rfl rfl rfl rfl ?_
          refine Ls_off rfl rfl rfl rfl ?_
          refine Ls_off rfl rfl rfl rfl ?_
          refine Ls_run (run_pick_t rfl rfl) rfl ?_
          refine Ls_run (run_move rfl) rfl ?_
          refine Ls_off rfl rfl rfl rfl ?_
          refine Ls_off rfl rfl rfl rfl ?_
          refine Ls_off rfl rfl rfl rfl ?_
          refine Ls_run (run_pick_t rfl rfl) rfl ?_
          refine Ls_run (run_move rfl) rfl ?_
          refine Ls_off rfl rfl rfl rfl ?_
          refine Ls_off rfl rfl rfl rfl ?_
          refine Ls_off rfl rfl rfl rfl ?_
          refine Ls_run (run_pick_t rfl rfl) rfl ?_
          refine Ls_nil ?_
          refine Jm_seq ?_
          refine St_ift rfl ?_
          refine St_seq ?_
          refine St_region ?_
          refine Ls_run (run_assign rfl) rfl ?_
          refine Ls_nil ?_
          refine Jm_seq ?_
          refine St_ret ?_
          refine Jm_then_ret  ?_
          refine Jm_ret1 rfl rfl ?_
          refine ⟨_, rfl, ?_, hs.forget⟩
          first
          | exact congrArg Value.bool (decide_eq_false (fun q => by have := sound_num q; omega)).symm
          | exact congrArg Value.bool (decide_eq_false (hz1 (by assumption))).symm
          | exact congrArg Value.bool (decide_eq_false (fun q => by have h8 := sound_num q; have e1 : mof x.k = 1 := (by omega); have h9 := (q.2.2.2.2.2.1 e1).1 _ hmem; omega)).symm
          | (have hz3 := hz2 (by assumption)
             have hh : Mhead x := ⟨by omega, by omega, by omega, by omega, by omega, hz3.1, hz3.2.1, hz3.2.2.1, hz3.2.2.2⟩
             have hi9 : i = p.en := by omega
             rw [hi9, List.take_of_length_le (by omega)] at hok
             have hee : mof x.k = 1 → 1 ≤ x.es.length ∧ x.es.length ≤ 4 := fun e => by omega
             first
             | exact congrArg Value.bool (decide_eq_decide.2 ((sound_iff' hh hee hok).trans ⟨fun q => by omega, fun q => ⟨by omega, by assumption, by omega, by assumption, by omega, by omega⟩⟩)).symm
             | exact congrArg Value.bool (decide_eq_false (fun q => absurd ((sound_iff' hh hee hok).1 q).2.1 (by assumption))).symm
             | exact congrArg Value.bool (decide_eq_false (fun q => absurd ((sound_iff' hh hee hok).1 q).2.2.2.1 (by assumption))).symm
             | exact congrArg Value.bool (decide_eq_false (fun q => by have := (sound_iff' hh hee hok).1 q; omega)).symm)
        · skip
          refine Ls_on rfl rfl ?_
          refine Ls_run (run_as (run_field Try.underlying26 rfl inf3 (by decide) rfl) (show _ = Value.pointer (some ⟨b2, 2, none⟩) from rfl)) rfl ?_
          refine Ls_on rfl rfl ?_
          refine Ls_run (run_load sc3 rfl (hs.blk_at 0 rfl 2 rfl)) rfl ?_
          refine Ls_on rfl rfl ?_
          refine Ls_run (run_gtr rfl rfl) rfl ?_
          refine Ls_run (run_pick_f rfl rfl) rfl ?_
          refine Ls_run (run_move rfl) rfl ?_
          refine Ls_partP (t := 30) rfl (fun h13 => ?_) (fun h13 => ?_)
          · skip
            refine Ls_off rfl rfl rfl rfl ?_
            refine Ls_off rfl rfl rfl rfl ?_
            refine Ls_off rfl rfl rfl rfl ?_
            refine Ls_run (run_pick_t rfl rfl) rfl ?_
            refine Ls_run (run_move rfl) rfl ?_
            refine Ls_off rfl rfl rfl rfl ?_
            refine Ls_off rfl rfl rfl rfl ?_
            refine Ls_off rfl rfl rfl rfl ?_
            refine Ls_run (run_pick_t rfl rfl) rfl ?_
            refine Ls_run (run_move rfl) rfl ?_
            refine Ls_off rfl rfl rfl rfl ?_
            refine Ls_off rfl rfl rfl rfl ?_
            refine Ls_off rfl rfl rfl rfl ?_
            refine Ls_run (run_pick_t rfl rfl) rfl ?_
            refine Ls_run (run_move rfl) rfl ?_
            refine Ls_off rfl rfl rfl rfl ?_
            refine Ls_off rfl rfl rfl rfl ?_
            refine Ls_off rfl rfl rfl rfl ?_
            refine Ls_run (run_pick_t rfl rfl) rfl ?_
            refine Ls_nil ?_
            refine Jm_seq ?_
            refine St_ift rfl ?_
            refine St_seq ?_
            refine St_region ?_
            refine Ls_run (run_assign rfl) rfl ?_
            refine Ls_nil ?_
            refine Jm_seq ?_
            refine St_ret ?_
            refine Jm_then_ret  ?_
            refine Jm_ret1 rfl rfl ?_
            refine ⟨_, rfl, ?_, hs.forget⟩
            first
            | exact congrArg Value.bool (decide_eq_false (fun q => by have := sound_num q; omega)).symm
            | exact congrArg Value.bool (decide_eq_false (hz1 (by assumption))).symm
            | exact congrArg Value.bool (decide_eq_false (fun q => by have h8 := sound_num q; have e1 : mof x.k = 1 := (by omega); have h9 := (q.2.2.2.2.2.1 e1).1 _ hmem; omega)).symm
            | (have hz3 := hz2 (by assumption)
               have hh : Mhead x := ⟨by omega, by omega, by omega, by omega, by omega, hz3.1, hz3.2.1, hz3.2.2.1, hz3.2.2.2⟩
               have hi9 : i = p.en := by omega
               rw [hi9, List.take_of_length_le (by omega)] at hok
               have hee : mof x.k = 1 → 1 ≤ x.es.length ∧ x.es.length ≤ 4 := fun e => by omega
               first
               | exact congrArg Value.bool (decide_eq_decide.2 ((sound_iff' hh hee hok).trans ⟨fun q => by omega, fun q => ⟨by omega, by assumption, by omega, by assumption, by omega, by omega⟩⟩)).symm
               | exact congrArg Value.bool (decide_eq_false (fun q => absurd ((sound_iff' hh hee hok).1 q).2.1 (by assumption))).symm
               | exact congrArg Value.bool (decide_eq_false (fun q => absurd ((sound_iff' hh hee hok).1 q).2.2.2.1 (by assumption))).symm
               | exact congrArg Value.bool (decide_eq_false (fun q => by have := (sound_iff' hh hee hok).1 q; omega)).symm)
          · skip
            refine Ls_on rfl rfl ?_
            refine Ls_run (run_as (run_field Try.underlying26 rfl inf3 (by decide) rfl) (show _ = Value.pointer (some ⟨b2, 3, none⟩) from rfl)) rfl ?_
            refine Ls_on rfl rfl ?_
            refine Ls_run (run_load sc3 rfl (hs.blk_at 0 rfl 3 rfl)) rfl ?_
            refine Ls_on rfl rfl ?_
            refine Ls_run (run_lss rfl rfl) rfl ?_
            refine Ls_run (run_pick_f rfl rfl) rfl ?_
            refine Ls_run (run_move rfl) rfl ?_
            refine Ls_partP (t := 35) rfl (fun h15 => ?_) (fun h15 => ?_)
            · skip
              refine Ls_off rfl rfl rfl rfl ?_
              refine Ls_off rfl rfl rfl rfl ?_
              refine Ls_off rfl rfl rfl rfl ?_
              refine Ls_run (run_pick_t rfl rfl) rfl ?_
              refine Ls_run (run_move rfl) rfl ?_
              refine Ls_off rfl rfl rfl rfl ?_
              refine Ls_off rfl rfl rfl rfl ?_
              refine Ls_off rfl rfl rfl rfl ?_
              refine Ls_run (run_pick_t rfl rfl) rfl ?_
              refine Ls_run (run_move rfl) rfl ?_
              refine Ls_off rfl rfl rfl rfl ?_
              refine Ls_off rfl rfl rfl rfl ?_
              refine Ls_off rfl rfl rfl rfl ?_
              refine Ls_run (run_pick_t rfl rfl) rfl ?_
              refine Ls_nil ?_
              refine Jm_seq ?_
              refine St_ift rfl ?_
              refine St_seq ?_
              refine St_region ?_
              refine Ls_run (run_assign rfl) rfl ?_
              refine Ls_nil ?_
              refine Jm_seq ?_
              refine St_ret ?_
              refine Jm_then_ret  ?_
              refine Jm_ret1 rfl rfl ?_
              refine ⟨_, rfl, ?_, hs.forget⟩
              first
              | exact congrArg Value.bool (decide_eq_false (fun q => by have := sound_num q; omega)).symm
              | exact congrArg Value.bool (decide_eq_false (hz1 (by assumption))).symm
              | exact congrArg Value.bool (decide_eq_false (fun q => by have h8 := sound_num q; have e1 : mof x.k = 1 := (by omega); have h9 := (q.2.2.2.2.2.1 e1).1 _ hmem; omega)).symm
              | (have hz3 := hz2 (by assumption)
                 have hh : Mhead x := ⟨by omega, by omega, by omega, by omega, by omega, hz3.1, hz3.2.1, hz3.2.2.1, hz3.2.2.2⟩
                 have hi9 : i = p.en := by omega
                 rw [hi9, List.take_of_length_le (by omega)] at hok
                 have hee : mof x.k = 1 → 1 ≤ x.es.length ∧ x.es.length ≤ 4 := fun e => by omega
                 first
                 | exact congrArg Value.bool (decide_eq_decide.2 ((sound_iff' hh hee hok).trans ⟨fun q => by omega, fun q => ⟨by omega, by assumption, by omega, by assumption, by omega, by omega⟩⟩)).symm
                 | exact congrArg Value.bool (decide_eq_false (fun q => absurd ((sound_iff' hh hee hok).1 q).2.1 (by assumption))).symm
                 | exact congrArg Value.bool (decide_eq_false (fun q => absurd ((sound_iff' hh hee hok).1 q).2.2.2.1 (by assumption))).symm
                 | exact congrArg Value.bool (decide_eq_false (fun q => by have := (sound_iff' hh hee hok).1 q; omega)).symm)
            · skip
              refine Ls_on rfl rfl ?_
              refine Ls_run (run_as (run_field Try.underlying26 rfl inf3 (by decide) rfl) (show _ = Value.pointer (some ⟨b2, 3, none⟩) from rfl)) rfl ?_
              refine Ls_on rfl rfl ?_
              refine Ls_run (run_load sc3 rfl (hs.blk_at 0 rfl 3 rfl)) rfl ?_
              refine Ls_on rfl rfl ?_
              refine Ls_run (run_gtr rfl rfl) rfl ?_
              refine Ls_run (run_pick_f rfl rfl) rfl ?_
              refine Ls_run (run_move rfl) rfl ?_
              refine Ls_partP (t := 40) rfl (fun h17 => ?_) (fun h17 => ?_)
              · skip
                refine Ls_off rfl rfl rfl rfl ?_
                refine Ls_off rfl rfl rfl rfl ?_
                refine Ls_off rfl rfl rfl rfl ?_
                refine Ls_run (run_pick_t rfl rfl) rfl ?_
                refine Ls_run (run_move rfl) rfl ?_
                refine Ls_off rfl rfl rfl rfl ?_
                refine Ls_off rfl rfl rfl rfl ?_
                refine Ls_off rfl rfl rfl rfl ?_
                refine Ls_run (run_pick_t rfl rfl) rfl ?_
                refine Ls_nil ?_
                refine Jm_seq ?_
                refine St_ift rfl ?_
                refine St_seq ?_
                refine St_region ?_
                refine Ls_run (run_assign rfl) rfl ?_
                refine Ls_nil ?_
                refine Jm_seq ?_
                refine St_ret ?_
                refine Jm_then_ret  ?_
                refine Jm_ret1 rfl rfl ?_
                refine ⟨_, rfl, ?_, hs.forget⟩
                first
                | exact congrArg Value.bool (decide_eq_false (fun q => by have := sound_num q; omega)).symm
                | exact congrArg Value.bool (decide_eq_false (hz1 (by assumption))).symm
                | exact congrArg Value.bool (decide_eq_false (fun q => by have h8 := sound_num q; have e1 : mof x.k = 1 := (by omega); have h9 := (q.2.2.2.2.2.1 e1).1 _ hmem; omega)).symm
                | (have hz3 := hz2 (by assumption)
                   have hh : Mhead x := ⟨by omega, by omega, by omega, by omega, by omega, hz3.1, hz3.2.1, hz3.2.2.1, hz3.2.2.2⟩
                   have hi9 : i = p.en := by omega
                   rw [hi9, List.take_of_length_le (by omega)] at hok
                   have hee : mof x.k = 1 → 1 ≤ x.es.length ∧ x.es.length ≤ 4 := fun e => by omega
                   first
                   | exact congrArg Value.bool (decide_eq_decide.2 ((sound_iff' hh hee hok).trans ⟨fun q => by omega, fun q => ⟨by omega, by assumption, by omega, by assumption, by omega, by omega⟩⟩)).symm
                   | exact congrArg Value.bool (decide_eq_false (fun q => absurd ((sound_iff' hh hee hok).1 q).2.1 (by assumption))).symm
                   | exact congrArg Value.bool (decide_eq_false (fun q => absurd ((sound_iff' hh hee hok).1 q).2.2.2.1 (by assumption))).symm
                   | exact congrArg Value.bool (decide_eq_false (fun q => by have := (sound_iff' hh hee hok).1 q; omega)).symm)
              · skip
                refine Ls_on rfl rfl ?_
                refine Ls_run (run_as (run_field Try.underlying26 rfl inf3 (by decide) rfl) (show _ = Value.pointer (some ⟨b2, 4, none⟩) from rfl)) rfl ?_
                refine Ls_on rfl rfl ?_
                refine Ls_run (run_load sc3 rfl (hs.blk_at 0 rfl 4 rfl)) rfl ?_
                refine Ls_on rfl rfl ?_
                refine Ls_run (run_lss rfl rfl) rfl ?_
                refine Ls_run (run_pick_f rfl rfl) rfl ?_
                refine Ls_run (run_move rfl) rfl ?_
                refine Ls_partP (t := 45) rfl (fun h19 => ?_) (fun h19 => ?_)
                · skip
                  refine Ls_off rfl rfl rfl rfl ?_
                  refine Ls_off rfl rfl rfl rfl ?_
                  refine Ls_off rfl rfl rfl rfl ?_
                  refine Ls_run (run_pick_t rfl rfl) rfl ?_
                  refine Ls_nil ?_
                  refine Jm_seq ?_
                  refine St_ift rfl ?_
                  refine St_seq ?_
                  refine St_region ?_
                  refine Ls_run (run_assign rfl) rfl ?_
                  refine Ls_nil ?_
                  refine Jm_seq ?_
                  refine St_ret ?_
                  refine Jm_then_ret  ?_
                  refine Jm_ret1 rfl rfl ?_
                  refine ⟨_, rfl, ?_, hs.forget⟩
                  first
                  | exact congrArg Value.bool (decide_eq_false (fun q => by have := sound_num q; omega)).symm
                  | exact congrArg Value.bool (decide_eq_false (hz1 (by assumption))).symm
                  | exact congrArg Value.bool (decide_eq_false (fun q => by have h8 := sound_num q; have e1 : mof x.k = 1 := (by omega); have h9 := (q.2.2.2.2.2.1 e1).1 _ hmem; omega)).symm
                  | (have hz3 := hz2 (by assumption)
                     have hh : Mhead x := ⟨by omega, by omega, by omega, by omega, by omega, hz3.1, hz3.2.1, hz3.2.2.1, hz3.2.2.2⟩
                     have hi9 : i = p.en := by omega
                     rw [hi9, List.take_of_length_le (by omega)] at hok
                     have hee : mof x.k = 1 → 1 ≤ x.es.length ∧ x.es.length ≤ 4 := fun e => by omega
                     first
                     | exact congrArg Value.bool (decide_eq_decide.2 ((sound_iff' hh hee hok).trans ⟨fun q => by omega, fun q => ⟨by omega, by assumption, by omega, by assumption, by omega, by omega⟩⟩)).symm
                     | exact congrArg Value.bool (decide_eq_false (fun q => absurd ((sound_iff' hh hee hok).1 q).2.1 (by assumption))).symm
                     | exact congrArg Value.bool (decide_eq_false (fun q => absurd ((sound_iff' hh hee hok).1 q).2.2.2.1 (by assumption))).symm
                     | exact congrArg Value.bool (decide_eq_false (fun q => by have := (sound_iff' hh hee hok).1 q; omega)).symm)
                · skip
                  refine Ls_on rfl rfl ?_
                  refine Ls_run (run_as (run_field Try.underlying26 rfl inf3 (by decide) rfl) (show _ = Value.pointer (some ⟨b2, 4, none⟩) from rfl)) rfl ?_
                  refine Ls_on rfl rfl ?_
                  refine Ls_run (run_load sc3 rfl (hs.blk_at 0 rfl 4 rfl)) rfl ?_
                  refine Ls_on rfl rfl ?_
                  refine Ls_run (run_gtr rfl rfl) rfl ?_
                  refine Ls_run (run_pick_f rfl rfl) rfl ?_
                  refine Ls_nil ?_
                  refine Jm_seq ?_
                  refine St_ifP rfl (fun h21 => ?_) (fun h21 => ?_)
                  · skip
                    refine St_seq ?_
                    refine St_region ?_
                    refine Ls_run (run_assign rfl) rfl ?_
                    refine Ls_nil ?_
                    refine Jm_seq ?_
                    refine St_ret ?_
                    refine Jm_then_ret  ?_
                    refine Jm_ret1 rfl rfl ?_
                    refine ⟨_, rfl, ?_, hs.forget⟩
                    first
                    | exact congrArg Value.bool (decide_eq_false (fun q => by have := sound_num q; omega)).symm
                    | exact congrArg Value.bool (decide_eq_false (hz1 (by assumption))).symm
                    | exact congrArg Value.bool (decide_eq_false (fun q => by have h8 := sound_num q; have e1 : mof x.k = 1 := (by omega); have h9 := (q.2.2.2.2.2.1 e1).1 _ hmem; omega)).symm
                    | (have hz3 := hz2 (by assumption)
                       have hh : Mhead x := ⟨by omega, by omega, by omega, by omega, by omega, hz3.1, hz3.2.1, hz3.2.2.1, hz3.2.2.2⟩
                       have hi9 : i = p.en := by omega
                       rw [hi9, List.take_of_length_le (by omega)] at hok
                       have hee : mof x.k = 1 → 1 ≤ x.es.length ∧ x.es.length ≤ 4 := fun e => by omega
                       first
                       | exact congrArg Value.bool (decide_eq_decide.2 ((sound_iff' hh hee hok).trans ⟨fun q => by omega, fun q => ⟨by omega, by assumption, by omega, by assumption, by omega, by omega⟩⟩)).symm
                       | exact congrArg Value.bool (decide_eq_false (fun q => absurd ((sound_iff' hh hee hok).1 q).2.1 (by assumption))).symm
                       | exact congrArg Value.bool (decide_eq_false (fun q => absurd ((sound_iff' hh hee hok).1 q).2.2.2.1 (by assumption))).symm
                       | exact congrArg Value.bool (decide_eq_false (fun q => by have := (sound_iff' hh hee hok).1 q; omega)).symm)
                  · skip
                    refine St_skip ?_
                    refine Jm_seq ?_
                    refine St_seq ?_
                    refine St_seq ?_
                    obtain ⟨En22, hEn22⟩ : ∃ F : Bool → Env, ∀ (z : Bool), F z = [(1, .pointer (some ⟨b2, 0, none⟩)), (3, .int .i64 (mof x.k)), (86, .bool z)] := ⟨(fun (z : Bool) => [(1, .pointer (some ⟨b2, 0, none⟩)), (3, .int .i64 (mof x.k)), (86, .bool z)]), fun _ => rfl⟩
                    obtain ⟨Iv23, hIv23⟩ : ∃ F : Bool → World → Prop, ∀ (z : Bool) (w24 : World), F z w24 = (Sat w w24 [Blk b2 [.int .i64 x.k, .int .i64 x.f, .int .i64 x.t, .int .i64 x.b, .int .i64 x.a, .int .i64 x.c, .slice p.eA p.en p.ec, .slice p.kA p.kn p.kc, .slice p.pA p.pn p.pc] 26] ∧ (z = true → ¬ Msound x) ∧ (z = false → (mof x.k = 1 ∨ x.es.length = 0) ∧ (mof x.k = 2 ∨ x.ks.length = 0) ∧ (mof x.k = 3 ∨ x.ps.length = 0) ∧ (mof x.k = 4 ∨ x.c = 0))) := ⟨(fun (z : Bool) => fun (w24 : World) => Sat w w24 [Blk b2 [.int .i64 x.k, .int .i64 x.f, .int .i64 x.t, .int .i64 x.b, .int .i64 x.a, .int .i64 x.c, .slice p.eA p.en p.ec, .slice p.kA p.kn p.kc, .slice p.pA p.pn p.pc] 26] ∧ (z = true → ¬ Msound x) ∧ (z = false → (mof x.k = 1 ∨ x.es.length = 0) ∧ (mof x.k = 2 ∨ x.ks.length = 0) ∧ (mof x.k = 3 ∨ x.ps.length = 0) ∧ (mof x.k = 4 ∨ x.c = 0))), fun _ _ => rfl⟩
                    refine St_join En22 Iv23 ?_ ?_
                    · skip
                      refine St_region ?_
                      refine Ls_run (run_move rfl) rfl ?_
                      refine Ls_run (run_neq rfl rfl) rfl ?_
                      refine Ls_run (run_move rfl) rfl ?_
                      refine Ls_partP (t := 52) rfl (fun h25 => ?_) (fun h25 => ?_)
                      · skip
                        refine Ls_on rfl rfl ?_
                        refine Ls_run (run_as (run_field Try.underlying26 rfl inf22 (by decide) rfl) (show _ = Value.pointer (some ⟨b2, 6, none⟩) from rfl)) rfl ?_
                        refine Ls_on rfl rfl ?_
                        refine Ls_run (run_load sc22 rfl (hs.blk_at 0 rfl 6 rfl)) rfl ?_
                        refine Ls_on rfl rfl ?_
                        refine Ls_run (run_len Try.underlying22 rfl) rfl ?_
                        refine Ls_on rfl rfl ?_
                        refine Ls_run (run_gtr rfl rfl) rfl ?_
                        refine Ls_run (run_pick_t rfl rfl) rfl ?_
                        refine Ls_run (run_move rfl) rfl ?_
                        refine Ls_partP (t := 58) rfl (fun h26 => ?_) (fun h26 => ?_)
                        · skip
                          refine Ls_off rfl rfl rfl rfl ?_
                          refine Ls_off rfl rfl rfl rfl ?_
                          refine Ls_off rfl rfl rfl rfl ?_
                          refine Ls_off' rfl rfl rfl ?_
                          refine Ls_off' rfl rfl rfl ?_
                          refine Ls_off' rfl rfl rfl ?_
                          refine Ls_off' rfl rfl rfl ?_
                          refine Ls_off rfl rfl rfl rfl ?_
                          refine Ls_run (run_pick_t rfl rfl) rfl ?_
                          refine Ls_run (run_move rfl) rfl ?_
                          refine Ls_off rfl rfl rfl rfl ?_
                          refine Ls_off rfl rfl rfl rfl ?_
                          refine Ls_off rfl rfl rfl rfl ?_
                          refine Ls_off' rfl rfl rfl ?_
                          refine Ls_off' rfl rfl rfl ?_
                          refine Ls_off' rfl rfl rfl ?_
                          refine Ls_off' rfl rfl rfl ?_
                          refine Ls_off rfl rfl rfl rfl ?_
                          refine Ls_run (run_pick_t rfl rfl) rfl ?_
                          refine Ls_run (run_move rfl) rfl ?_
                          refine Ls_off rfl rfl rfl rfl ?_
                          refine Ls_off rfl rfl rfl rfl ?_
                          refine Ls_off rfl rfl rfl rfl ?_
                          refine Ls_off' rfl rfl rfl ?_
                          refine Ls_off' rfl rfl rfl ?_
                          refine Ls_off' rfl rfl rfl ?_
                          refine Ls_off rfl rfl rfl rfl ?_
                          refine Ls_run (run_pick_t rfl rfl) rfl ?_
                          refine Ls_nil ?_
                          refine Jm_join true ?_ ?_
                          · rw [hEn22]; exact (subE_cons rfl (subE_cons rfl (subE_cons rfl subE_nil)))
                          · skip
                            rw [hIv23]
                            first
                            | exact ⟨hs, fun _ q => by have := sound_num q; omega, (fun h => absurd h tf)⟩
                            | exact ⟨hs, (fun h => absurd h ft), fun _ => ⟨by omega, by omega, by omega, by omega⟩⟩
                            | exact ⟨hs, fun h q => by have := sound_num q; have h2 := of_decide_eq_true h; omega, fun h => by have h2 := of_decide_eq_false h; exact ⟨by omega, by omega, by omega, by omega⟩⟩
                        · skip
                          refine Ls_on rfl rfl ?_
                          refine Ls_run (run_move rfl) rfl ?_
                          refine Ls_on rfl rfl ?_
                          refine Ls_run (run_neq rfl rfl) rfl ?_
                          refine Ls_on rfl rfl ?_
                          refine Ls_run (run_move rfl) rfl ?_
                          refine Ls_partP (t := 61) rfl (fun h27 => ?_) (fun h27 => ?_)
                          · skip
                            refine Ls_on rfl rfl ?_
                            refine Ls_run (run_as (run_field Try.underlying26 rfl inf23 (by decide) rfl) (show _ = Value.pointer (some ⟨b2, 7, none⟩) from rfl)) rfl ?_
                            refine Ls_on rfl rfl ?_
                            refine Ls_run (run_load sc23 rfl (hs.blk_at 0 rfl 7 rfl)) rfl ?_
                            refine Ls_on rfl rfl ?_
                            refine Ls_run (run_len Try.underlying23 rfl) rfl ?_
                            refine Ls_on rfl rfl ?_
                            refine Ls_run (run_gtr rfl rfl) rfl ?_
                            refine Ls_on rfl rfl ?_
                            refine Ls_run (run_pick_t rfl rfl) rfl ?_
                            refine Ls_run (run_pick_f rfl rfl) rfl ?_
                            refine Ls_run (run_move rfl) rfl ?_
                            refine Ls_partP (t := 68) rfl (fun h28 => ?_) (fun h28 => ?_)
                            · skip
                              refine Ls_off rfl rfl rfl rfl ?_
                              refine Ls_off rfl rfl rfl rfl ?_
                              refine Ls_off rfl rfl rfl rfl ?_
                              refine Ls_off' rfl rfl rfl ?_
                              refine Ls_off' rfl rfl rfl ?_
                              refine Ls_off' rfl rfl rfl ?_
                              refine Ls_off' rfl rfl rfl ?_
                              refine Ls_off rfl rfl rfl rfl ?_
                              refine Ls_run (run_pick_t rfl rfl) rfl ?_
                              refine Ls_run (run_move rfl) rfl ?_
                              refine Ls_off rfl rfl rfl rfl ?_
                              refine Ls_off rfl rfl rfl rfl ?_
                              refine Ls_off rfl rfl rfl rfl ?_
                              refine Ls_off' rfl rfl rfl ?_
                              refine Ls_off' rfl rfl rfl ?_
                              refine Ls_off' rfl rfl rfl ?_
                              refine Ls_off rfl rfl rfl rfl ?_
                              refine Ls_run (run_pick_t rfl rfl) rfl ?_
                              refine Ls_nil ?_
                              refine Jm_join true ?_ ?_
                              · rw [hEn22]; exact (subE_cons rfl (subE_cons rfl (subE_cons rfl subE_nil)))
                              · skip
                                rw [hIv23]
                                first
                                | exact ⟨hs, fun _ q => by have := sound_num q; omega, (fun h => absurd h tf)⟩
                                | exact ⟨hs, (fun h => absurd h ft), fun _ => ⟨by omega, by omega, by omega, by omega⟩⟩
                                | exact ⟨hs, fun h q => by have := sound_num q; have h2 := of_decide_eq_true h; omega, fun h => by have h2 := of_decide_eq_false h; exact ⟨by omega, by omega, by omega, by omega⟩⟩
                            · skip
                              refine Ls_on rfl rfl ?_
                              refine Ls_run (run_move rfl) rfl ?_
                              refine Ls_on rfl rfl ?_
                              refine Ls_run (run_neq rfl rfl) rfl ?_
                              refine Ls_on rfl rfl ?_
                              refine Ls_run (run_move rfl) rfl ?_
                              refine Ls_partP (t := 71) rfl (fun h29 => ?_) (fun h29 => ?_)
                              · skip
                                refine Ls_on rfl rfl ?_
                                refine Ls_run (run_as (run_field Try.underlying26 rfl inf24 (by decide) rfl) (show _ = Value.pointer (some ⟨b2, 8, none⟩) from rfl)) rfl ?_
                                refine Ls_on rfl rfl ?_
                                refine Ls_run (run_load sc24 rfl (hs.blk_at 0 rfl 8 rfl)) rfl ?_
                                refine Ls_on rfl rfl ?_
                                refine Ls_run (run_len Try.underlying24 rfl) rfl ?_
                                refine Ls_on rfl rfl ?_
                                refine Ls_run (run_gtr rfl rfl) rfl ?_
                                refine Ls_on rfl rfl ?_
                                refine Ls_run (run_pick_t rfl rfl) rfl ?_
                                refine Ls_run (run_pick_f rfl rfl) rfl ?_
                                refine Ls_run (run_move rfl) rfl ?_
                                refine Ls_partP (t := 78) rfl (fun h30 => ?_) (fun h30 => ?_)
                                · skip
                                  refine Ls_off rfl rfl rfl rfl ?_
                                  refine Ls_off rfl rfl rfl rfl ?_
                                  refine Ls_off rfl rfl rfl rfl ?_
                                  refine Ls_off' rfl rfl rfl ?_
                                  refine Ls_off' rfl rfl rfl ?_
                                  refine Ls_off' rfl rfl rfl ?_
                                  refine Ls_off rfl rfl rfl rfl ?_
                                  refine Ls_run (run_pick_t rfl rfl) rfl ?_
                                  refine Ls_nil ?_
                                  refine Jm_join true ?_ ?_
                                  · rw [hEn22]; exact (subE_cons rfl (subE_cons rfl (subE_cons rfl subE_nil)))
                                  · skip
                                    rw [hIv23]
                                    first
                                    | exact ⟨hs, fun _ q => by have := sound_num q; omega, (fun h => absurd h tf)⟩
                                    | exact ⟨hs, (fun h => absurd h ft), fun _ => ⟨by omega, by omega, by omega, by omega⟩⟩
                                    | exact ⟨hs, fun h q => by have := sound_num q; have h2 := of_decide_eq_true h; omega, fun h => by have h2 := of_decide_eq_false h; exact ⟨by omega, by omega, by omega, by omega⟩⟩
                                · skip
                                  refine Ls_on rfl rfl ?_
                                  refine Ls_run (run_move rfl) rfl ?_
                                  refine Ls_on rfl rfl ?_
                                  refine Ls_run (run_neq rfl rfl) rfl ?_
                                  refine Ls_on rfl rfl ?_
                                  refine Ls_run (run_move rfl) rfl ?_
                                  refine Ls_partP (t := 81) rfl (fun h31 => ?_) (fun h31 => ?_)
                                  · skip
                                    refine Ls_on rfl rfl ?_
                                    refine Ls_run (run_as (run_field Try.underlying26 rfl inf3 (by decide) rfl) (show _ = Value.pointer (some ⟨b2, 5, none⟩) from rfl)) rfl ?_
                                    refine Ls_on rfl rfl ?_
                                    refine Ls_run (run_load sc3 rfl (hs.blk_at 0 rfl 5 rfl)) rfl ?_
                                    refine Ls_on rfl rfl ?_
                                    refine Ls_run (run_neq rfl rfl) rfl ?_
                                    refine Ls_on rfl rfl ?_
                                    refine Ls_run (run_pick_t rfl rfl) rfl ?_
                                    refine Ls_run (run_pick_f rfl rfl) rfl ?_
                                    refine Ls_nil ?_
                                    refine Jm_join (decide (x.c ≠ 0)) ?_ ?_
                                    · rw [hEn22]; exact (subE_cons rfl (subE_cons rfl (subE_cons rfl subE_nil)))
                                    · skip
                                      rw [hIv23]
                                      first
                                      | exact ⟨hs, fun _ q => by have := sound_num q; omega, (fun h => absurd h tf)⟩
                                      | exact ⟨hs, (fun h => absurd h ft), fun _ => ⟨by omega, by omega, by omega, by omega⟩⟩
                                      | exact ⟨hs, fun h q => by have := sound_num q; have h2 := of_decide_eq_true h; omega, fun h => by have h2 := of_decide_eq_false h; exact ⟨by omega, by omega, by omega, by omega⟩⟩
                                  · skip
                                    refine Ls_off rfl rfl rfl rfl ?_
                                    refine Ls_off rfl rfl rfl rfl ?_
                                    refine Ls_off rfl rfl rfl rfl ?_
                                    refine Ls_on rfl rfl ?_
                                    refine Ls_run (run_pick_f rfl rfl) rfl ?_
                                    refine Ls_run (run_pick_f rfl rfl) rfl ?_
                                    refine Ls_nil ?_
                                    refine Jm_join false ?_ ?_
                                    · rw [hEn22]; exact (subE_cons rfl (subE_cons rfl (subE_cons rfl subE_nil)))
                                    · skip
                                      rw [hIv23]
                                      first
                                      | exact ⟨hs, fun _ q => by have := sound_num q; omega, (fun h => absurd h tf)⟩
                                      | exact ⟨hs, (fun h => absurd h ft), fun _ => ⟨by omega, by omega, by omega, by omega⟩⟩
                                      | exact ⟨hs, fun h q => by have := sound_num q; have h2 := of_decide_eq_true h; omega, fun h => by have h2 := of_decide_eq_false h; exact ⟨by omega, by omega, by omega, by omega⟩⟩
                              · skip
                                refine Ls_off rfl rfl rfl rfl ?_
                                refine Ls_off rfl rfl rfl rfl ?_
                                refine Ls_off rfl rfl rfl rfl ?_
                                refine Ls_off rfl rfl rfl rfl ?_
                                refine Ls_on rfl rfl ?_
                                refine Ls_run (run_pick_f rfl rfl) rfl ?_
                                refine Ls_run (run_pick_f rfl rfl) rfl ?_
                                refine Ls_run (run_move rfl) rfl ?_
                                refine Ls_on rfl rfl ?_
                                refine Ls_run (run_move rfl) rfl ?_
                                refine Ls_on rfl rfl ?_
                                refine Ls_run (run_neq rfl rfl) rfl ?_
                                refine Ls_on rfl rfl ?_
                                refine Ls_run (run_move rfl) rfl ?_
                                refine Ls_partP (t := 81) rfl (fun h32 => ?_) (fun h32 => ?_)
                                · skip
                                  refine Ls_on rfl rfl ?_
                                  refine Ls_run (run_as (run_field Try.underlying26 rfl inf3 (by decide) rfl) (show _ = Value.pointer (some ⟨b2, 5, none⟩) from rfl)) rfl ?_
                                  refine Ls_on rfl rfl ?_
                                  refine Ls_run (run_load sc3 rfl (hs.blk_at 0 rfl 5 rfl)) rfl ?_
                                  refine Ls_on rfl rfl ?_
                                  refine Ls_run (run_neq rfl rfl) rfl ?_
                                  refine Ls_on rfl rfl ?_
                                  refine Ls_run (run_pick_t rfl rfl) rfl ?_
                                  refine Ls_run (run_pick_f rfl rfl) rfl ?_
                                  refine Ls_nil ?_
                                  refine Jm_join (decide (x.c ≠ 0)) ?_ ?_
                                  · rw [hEn22]; exact (subE_cons rfl (subE_cons rfl (subE_cons rfl subE_nil)))
                                  · skip
                                    rw [hIv23]
                                    first
                                    | exact ⟨hs, fun _ q => by have := sound_num q; omega, (fun h => absurd h tf)⟩
                                    | exact ⟨hs, (fun h => absurd h ft), fun _ => ⟨by omega, by omega, by omega, by omega⟩⟩
                                    | exact ⟨hs, fun h q => by have := sound_num q; have h2 := of_decide_eq_true h; omega, fun h => by have h2 := of_decide_eq_false h; exact ⟨by omega, by omega, by omega, by omega⟩⟩
                                · skip
                                  refine Ls_off rfl rfl rfl rfl ?_
                                  refine Ls_off rfl rfl rfl rfl ?_
                                  refine Ls_off rfl rfl rfl rfl ?_
                                  refine Ls_on rfl rfl ?_
                                  refine Ls_run (run_pick_f rfl rfl) rfl ?_
                                  refine Ls_run (run_pick_f rfl rfl) rfl ?_
                                  refine Ls_nil ?_
                                  refine Jm_join false ?_ ?_
                                  · rw [hEn22]; exact (subE_cons rfl (subE_cons rfl (subE_cons rfl subE_nil)))
                                  · skip
                                    rw [hIv23]
                                    first
                                    | exact ⟨hs, fun _ q => by have := sound_num q; omega, (fun h => absurd h tf)⟩
                                    | exact ⟨hs, (fun h => absurd h ft), fun _ => ⟨by omega, by omega, by omega, by omega⟩⟩
                                    | exact ⟨hs, fun h q => by have := sound_num q; have h2 := of_decide_eq_true h; omega, fun h => by have h2 := of_decide_eq_false h; exact ⟨by omega, by omega, by omega, by omega⟩⟩
                          · skip
                            refine Ls_off rfl rfl rfl rfl ?_
                            refine Ls_off rfl rfl rfl rfl ?_
                            refine Ls_off rfl rfl rfl rfl ?_
                            refine Ls_off rfl rfl rfl rfl ?_
                            refine Ls_on rfl rfl ?_
                            refine Ls_run (run_pick_f rfl rfl) rfl ?_
                            refine Ls_run (run_pick_f rfl rfl) rfl ?_
                            refine Ls_run (run_move rfl) rfl ?_
                            refine Ls_on rfl rfl ?_
                            refine Ls_run (run_move rfl) rfl ?_
                            refine Ls_on rfl rfl ?_
                            refine Ls_run (run_neq rfl rfl) rfl ?_
                            refine Ls_on rfl rfl ?_
                            refine Ls_run (run_move rfl) rfl ?_
                            refine Ls_partP (t := 71) rfl (fun h33 => ?_) (fun h33 => ?_)
                            · skip
                              refine Ls_on rfl rfl ?_
                              refine Ls_run (run_as (run_field Try.underlying26 rfl inf24 (by decide) rfl) (show _ = Value.pointer (some ⟨b2, 8, none⟩) from rfl)) rfl ?_
                              refine Ls_on rfl rfl ?_
                              refine Ls_run (run_load sc24 rfl (hs.blk_at 0 rfl 8 rfl)) rfl ?_
                              refine Ls_on rfl rfl ?_
                              refine Ls_run (run_len Try.underlying24 rfl) rfl ?_
                              refine Ls_on rfl rfl ?_
                              refine Ls_run (run_gtr rfl rfl) rfl ?_
                              refine Ls_on rfl rfl ?_
                              refine Ls_run (run_pick_t rfl rfl) rfl ?_
                              refine Ls_run (run_pick_f rfl rfl) rfl ?_
                              refine Ls_run (run_move rfl) rfl ?_
                              refine Ls_partP (t := 78) rfl (fun h34 => ?_) (fun h34 => ?_)
                              · skip
                                refine Ls_off rfl rfl rfl rfl ?_
                                refine Ls_off rfl rfl rfl rfl ?_
                                refine Ls_off rfl rfl rfl rfl ?_
                                refine Ls_off' rfl rfl rfl ?_
                                refine Ls_off' rfl rfl rfl ?_
                                refine Ls_off' rfl rfl rfl ?_
                                refine Ls_off rfl rfl rfl rfl ?_
                                refine Ls_run (run_pick_t rfl rfl) rfl ?_
                                refine Ls_nil ?_
                                refine Jm_join true ?_ ?_
                                · rw [hEn22]; exact (subE_cons rfl (subE_cons rfl (subE_cons rfl subE_nil)))
                                · skip
                                  rw [hIv23]
                                  first
                                  | exact ⟨hs, fun _ q => by have := sound_num q; omega, (fun h => absurd h tf)⟩
                                  | exact ⟨hs, (fun h => absurd h ft), fun _ => ⟨by omega, by omega, by omega, by omega⟩⟩
                                  | exact ⟨hs, fun h q => by have := sound_num q; have h2 := of_decide_eq_true h; omega, fun h => by have h2 := of_decide_eq_false h; exact ⟨by omega, by omega, by omega, by omega⟩⟩
                              · skip
                                refine Ls_on rfl rfl ?_
                                refine Ls_run (run_move rfl) rfl ?_
                                refine Ls_on rfl rfl ?_
                                refine Ls_run (run_neq rfl rfl) rfl ?_
                                refine Ls_on rfl rfl ?_
                                refine Ls_run (run_move rfl) rfl ?_
                                refine Ls_partP (t := 81) rfl (fun h35 => ?_) (fun h35 => ?_)
                                · skip
                                  refine Ls_on rfl rfl ?_
                                  refine Ls_run (run_as (run_field Try.underlying26 rfl inf3 (by decide) rfl) (show _ = Value.pointer (some ⟨b2, 5, none⟩) from rfl)) rfl ?_
                                  refine Ls_on rfl rfl ?_
                                  refine Ls_run (run_load sc3 rfl (hs.blk_at 0 rfl 5 rfl)) rfl ?_
                                  refine Ls_on rfl rfl ?_
                                  refine Ls_run (run_neq rfl rfl) rfl ?_
                                  refine Ls_on rfl rfl ?_
                                  refine Ls_run (run_pick_t rfl rfl) rfl ?_
                                  refine Ls_run (run_pick_f rfl rfl) rfl ?_
                                  refine Ls_nil ?_
                                  refine Jm_join (decide (x.c ≠ 0)) ?_ ?_
                                  · rw [hEn22]; exact (subE_cons rfl (subE_cons rfl (subE_cons rfl subE_nil)))
                                  · skip
                                    rw [hIv23]
                                    first
                                    | exact ⟨hs, fun _ q => by have := sound_num q; omega, (fun h => absurd h tf)⟩
                                    | exact ⟨hs, (fun h => absurd h ft), fun _ => ⟨by omega, by omega, by omega, by omega⟩⟩
                                    | exact ⟨hs, fun h q => by have := sound_num q; have h2 := of_decide_eq_true h; omega, fun h => by have h2 := of_decide_eq_false h; exact ⟨by omega, by omega, by omega, by omega⟩⟩
                                · skip
                                  refine Ls_off rfl rfl rfl rfl ?_
                                  refine Ls_off rfl rfl rfl rfl ?_
                                  refine Ls_off rfl rfl rfl rfl ?_
                                  refine Ls_on rfl rfl ?_
                                  refine Ls_run (run_pick_f rfl rfl) rfl ?_
                                  refine Ls_run (run_pick_f rfl rfl) rfl ?_
                                  refine Ls_nil ?_
                                  refine Jm_join false ?_ ?_
                                  · rw [hEn22]; exact (subE_cons rfl (subE_cons rfl (subE_cons rfl subE_nil)))
                                  · skip
                                    rw [hIv23]
                                    first
                                    | exact ⟨hs, fun _ q => by have := sound_num q; omega, (fun h => absurd h tf)⟩
                                    | exact ⟨hs, (fun h => absurd h ft), fun _ => ⟨by omega, by omega, by omega, by omega⟩⟩
                                    | exact ⟨hs, fun h q => by have := sound_num q; have h2 := of_decide_eq_true h; omega, fun h => by have h2 := of_decide_eq_false h; exact ⟨by omega, by omega, by omega, by omega⟩⟩
                            · skip
                              refine Ls_off rfl rfl rfl rfl ?_
                              refine Ls_off rfl rfl rfl rfl ?_
                              refine Ls_off rfl rfl rfl rfl ?_
                              refine Ls_off rfl rfl rfl rfl ?_
                              refine Ls_on rfl rfl ?_
                              refine Ls_run (run_pick_f rfl rfl) rfl ?_
                              refine Ls_run (run_pick_f rfl rfl) rfl ?_
                              refine Ls_run (run_move rfl) rfl ?_
                              refine Ls_on rfl rfl ?_
                              refine Ls_run (run_move rfl) rfl ?_
                              refine Ls_on rfl rfl ?_
                              refine Ls_run (run_neq rfl rfl) rfl ?_
                              refine Ls_on rfl rfl ?_
                              refine Ls_run (run_move rfl) rfl ?_
                              refine Ls_partP (t := 81) rfl (fun h36 => ?_) (fun h36 => ?_)
                              · skip
                                refine Ls_on rfl rfl ?_
                                refine Ls_run (run_as (run_field Try.underlying26 rfl inf3 (by decide) rfl) (show _ = Value.pointer (some ⟨b2, 5, none⟩) from rfl)) rfl ?_
                                refine Ls_on rfl rfl ?_
                                refine Ls_run (run_load sc3 rfl (hs.blk_at 0 rfl 5 rfl)) rfl ?_
                                refine Ls_on rfl rfl ?_
                                refine Ls_run (run_neq rfl rfl) rfl ?_
                                refine Ls_on rfl rfl ?_
                                refine Ls_run (run_pick_t rfl rfl) rfl ?_
                                refine Ls_run (run_pick_f rfl rfl) rfl ?_
                                refine Ls_nil ?_
                                refine Jm_join (decide (x.c ≠ 0)) ?_ ?_
                                · rw [hEn22]; exact (subE_cons rfl (subE_cons rfl (subE_cons rfl subE_nil)))
                                · skip
                                  rw [hIv23]
                                  first
                                  | exact ⟨hs, fun _ q => by have := sound_num q; omega, (fun h => absurd h tf)⟩
                                  | exact ⟨hs, (fun h => absurd h ft), fun _ => ⟨by omega, by omega, by omega, by omega⟩⟩
                                  | exact ⟨hs, fun h q => by have := sound_num q; have h2 := of_decide_eq_true h; omega, fun h => by have h2 := of_decide_eq_false h; exact ⟨by omega, by omega, by omega, by omega⟩⟩
                              · skip
                                refine Ls_off rfl rfl rfl rfl ?_
                                refine Ls_off rfl rfl rfl rfl ?_
                                refine Ls_off rfl rfl rfl rfl ?_
                                refine Ls_on rfl rfl ?_
                                refine Ls_run (run_pick_f rfl rfl) rfl ?_
                                refine Ls_run (run_pick_f rfl rfl) rfl ?_
                                refine Ls_nil ?_
                                refine Jm_join false ?_ ?_
                                · rw [hEn22]; exact (subE_cons rfl (subE_cons rfl (subE_cons rfl subE_nil)))
                                · skip
                                  rw [hIv23]
                                  first
                                  | exact ⟨hs, fun _ q => by have := sound_num q; omega, (fun h => absurd h tf)⟩
                                  | exact ⟨hs, (fun h => absurd h ft), fun _ => ⟨by omega, by omega, by omega, by omega⟩⟩
                                  | exact ⟨hs, fun h q => by have := sound_num q; have h2 := of_decide_eq_true h; omega, fun h => by have h2 := of_decide_eq_false h; exact ⟨by omega, by omega, by omega, by omega⟩⟩
                      · skip
                        refine Ls_off rfl rfl rfl rfl ?_
                        refine Ls_off rfl rfl rfl rfl ?_
                        refine Ls_off rfl rfl rfl rfl ?_
                        refine Ls_off rfl rfl rfl rfl ?_
                        refine Ls_run (run_pick_f rfl rfl) rfl ?_
                        refine Ls_run (run_move rfl) rfl ?_
                        refine Ls_on rfl rfl ?_
                        refine Ls_run (run_move rfl) rfl ?_
                        refine Ls_on rfl rfl ?_
                        refine Ls_run (run_neq rfl rfl) rfl ?_
                        refine Ls_on rfl rfl ?_
                        refine Ls_run (run_move rfl) rfl ?_
                        refine Ls_partP (t := 61) rfl (fun h37 => ?_) (fun h37 => ?_)
                        · skip
                          refine Ls_on rfl rfl ?_
                          refine Ls_run (run_as (run_field Try.underlying26 rfl inf23 (by decide) rfl) (show _ = Value.pointer (some ⟨b2, 7, none⟩) from rfl)) rfl ?_
                          refine Ls_on rfl rfl ?_
                          refine Ls_run (run_load sc23 rfl (hs.blk_at 0 rfl 7 rfl)) rfl ?_
                          refine Ls_on rfl rfl ?_
                          refine Ls_run (run_len Try.underlying23 rfl) rfl ?_
                          refine Ls_on rfl rfl ?_
                          refine Ls_run (run_gtr rfl rfl) rfl ?_
                          refine Ls_on rfl rfl ?_
                          refine Ls_run (run_pick_t rfl rfl) rfl ?_
                          refine Ls_run (run_pick_f rfl rfl) rfl ?_
                          refine Ls_run (run_move rfl) rfl ?_
                          refine Ls_partP (t := 68) rfl (fun h38 => ?_) (fun h38 => ?_)
                          · skip
                            refine Ls_off rfl rfl rfl rfl ?_
                            refine Ls_off rfl rfl rfl rfl ?_
                            refine Ls_off rfl rfl rfl rfl ?_
                            refine Ls_off' rfl rfl rfl ?_
                            refine Ls_off' rfl rfl rfl ?_
                            refine Ls_off' rfl rfl rfl ?_
                            refine Ls_off' rfl rfl rfl ?_
                            refine Ls_off rfl rfl rfl rfl ?_
                            refine Ls_run (run_pick_t rfl rfl) rfl ?_
                            refine Ls_run (run_move rfl) rfl ?_
                            refine Ls_off rfl rfl rfl rfl ?_
                            refine Ls_off rfl rfl rfl rfl ?_
                            refine Ls_off rfl rfl rfl rfl ?_
                            refine Ls_off' rfl rfl rfl ?_
                            refine Ls_off' rfl rfl rfl ?_
                            refine Ls_off' rfl rfl rfl ?_
                            refine Ls_off rfl rfl rfl rfl ?_
                            refine Ls_run (run_pick_t rfl rfl) rfl ?_
                            refine Ls_nil ?_
                            refine Jm_join true ?_ ?_
                            · rw [hEn22]; exact (subE_cons rfl (subE_cons rfl (subE_cons rfl subE_nil)))
                            · skip
                              rw [hIv23]
                              first
                              | exact ⟨hs, fun _ q => by have := sound_num q; omega, (fun h => absurd h tf)⟩
                              | exact ⟨hs, (fun h => absurd h ft), fun _ => ⟨by omega, by omega, by omega, by omega⟩⟩
                              | exact ⟨hs, fun h q => by have := sound_num q; have h2 := of_decide_eq_true h; omega, fun h => by have h2 := of_decide_eq_false h; exact ⟨by omega, by omega, by omega, by omega⟩⟩
                          · skip
                            refine Ls_on rfl rfl ?_
                            refine Ls_run (run_move rfl) rfl ?_
                            refine Ls_on rfl rfl ?_
                            refine Ls_run (run_neq rfl rfl) rfl ?_
                            refine Ls_on rfl rfl ?_
                            refine Ls_run (run_move rfl) rfl ?_
                            refine Ls_partP (t := 71) rfl (fun h39 => ?_) (fun h39 => ?_)
                            · skip
                              refine Ls_on rfl rfl ?_
                              refine Ls_run (run_as (run_field Try.underlying26 rfl inf24 (by decide) rfl) (show _ = Value.pointer (some ⟨b2, 8, none⟩) from rfl)) rfl ?_
                              refine Ls_on rfl rfl ?_
                              refine Ls_run (run_load sc24 rfl (hs.blk_at 0 rfl 8 rfl)) rfl ?_
                              refine Ls_on rfl rfl ?_
                              refine Ls_run (run_len Try.underlying24 rfl) rfl ?_
                              refine Ls_on rfl rfl ?_
                              refine Ls_run (run_gtr rfl rfl) rfl ?_
                              refine Ls_on rfl rfl ?_
                              refine Ls_run (run_pick_t rfl rfl) rfl ?_
                              refine Ls_run (run_pick_f rfl rfl) rfl ?_
                              refine Ls_run (run_move rfl) rfl ?_
                              refine Ls_partP (t := 78) rfl (fun h40 => ?_) (fun h40 => ?_)
                              · skip
                                refine Ls_off rfl rfl rfl rfl ?_
                                refine Ls_off rfl rfl rfl rfl ?_
                                refine Ls_off rfl rfl rfl rfl ?_
                                refine Ls_off' rfl rfl rfl ?_
                                refine Ls_off' rfl rfl rfl ?_
                                refine Ls_off' rfl rfl rfl ?_
                                refine Ls_off rfl rfl rfl rfl ?_
                                refine Ls_run (run_pick_t rfl rfl) rfl ?_
                                refine Ls_nil ?_
                                refine Jm_join true ?_ ?_
                                · rw [hEn22]; exact (subE_cons rfl (subE_cons rfl (subE_cons rfl subE_nil)))
                                · skip
                                  rw [hIv23]
                                  first
                                  | exact ⟨hs, fun _ q => by have := sound_num q; omega, (fun h => absurd h tf)⟩
                                  | exact ⟨hs, (fun h => absurd h ft), fun _ => ⟨by omega, by omega, by omega, by omega⟩⟩
                                  | exact ⟨hs, fun h q => by have := sound_num q; have h2 := of_decide_eq_true h; omega, fun h => by have h2 := of_decide_eq_false h; exact ⟨by omega, by omega, by omega, by omega⟩⟩
                              · skip
                                refine Ls_on rfl rfl ?_
                                refine Ls_run (run_move rfl) rfl ?_
                                refine Ls_on rfl rfl ?_
                                refine Ls_run (run_neq rfl rfl) rfl ?_
                                refine Ls_on rfl rfl ?_
                                refine Ls_run (run_move rfl) rfl ?_
                                refine Ls_partP (t := 81) rfl (fun h41 => ?_) (fun h41 => ?_)
                                · skip
                                  refine Ls_on rfl rfl ?_
                                  refine Ls_run (run_as (run_field Try.underlying26 rfl inf3 (by decide) rfl) (show _ = Value.pointer (some ⟨b2, 5, none⟩) from rfl)) rfl ?_
                                  refine Ls_on rfl rfl ?_
                                  refine Ls_run (run_load sc3 rfl (hs.blk_at 0 rfl 5 rfl)) rfl ?_
                                  refine Ls_on rfl rfl ?_
                                  refine Ls_run (run_neq rfl rfl) rfl ?_
                                  refine Ls_on rfl rfl ?_
                                  refine Ls_run (run_pick_t rfl rfl) rfl ?_
                                  refine Ls_run (run_pick_f rfl rfl) rfl ?_
                                  refine Ls_nil ?_
                                  refine Jm_join (decide (x.c ≠ 0)) ?_ ?_
                                  · rw [hEn22]; exact (subE_cons rfl (subE_cons rfl (subE_cons rfl subE_nil)))
                                  · skip
                                    rw [hIv23]
                                    first
                                    | exact ⟨hs, fun _ q => by have := sound_num q; omega, (fun h => absurd h tf)⟩
                                    | exact ⟨hs, (fun h => absurd h ft), fun _ => ⟨by omega, by omega, by omega, by omega⟩⟩
                                    | exact ⟨hs, fun h q => by have := sound_num q; have h2 := of_decide_eq_true h; omega, fun h => by have h2 := of_decide_eq_false h; exact ⟨by omega, by omega, by omega, by omega⟩⟩
                                · skip
                                  refine Ls_off rfl rfl rfl rfl ?_
                                  refine Ls_off rfl rfl rfl rfl ?_
                                  refine Ls_off rfl rfl rfl rfl ?_
                                  refine Ls_on rfl rfl ?_
                                  refine Ls_run (run_pick_f rfl rfl) rfl ?_
                                  refine Ls_run (run_pick_f rfl rfl) rfl ?_
                                  refine Ls_nil ?_
                                  refine Jm_join false ?_ ?_
                                  · rw [hEn22]; exact (subE_cons rfl (subE_cons rfl (subE_cons rfl subE_nil)))
                                  · skip
                                    rw [hIv23]
                                    first
                                    | exact ⟨hs, fun _ q => by have := sound_num q; omega, (fun h => absurd h tf)⟩
                                    | exact ⟨hs, (fun h => absurd h ft), fun _ => ⟨by omega, by omega, by omega, by omega⟩⟩
                                    | exact ⟨hs, fun h q => by have := sound_num q; have h2 := of_decide_eq_true h; omega, fun h => by have h2 := of_decide_eq_false h; exact ⟨by omega, by omega, by omega, by omega⟩⟩
                            · skip
                              refine Ls_off rfl rfl rfl rfl ?_
                              refine Ls_off rfl rfl rfl rfl ?_
                              refine Ls_off rfl rfl rfl rfl ?_
                              refine Ls_off rfl rfl rfl rfl ?_
                              refine Ls_on rfl rfl ?_
                              refine Ls_run (run_pick_f rfl rfl) rfl ?_
                              refine Ls_run (run_pick_f rfl rfl) rfl ?_
                              refine Ls_run (run_move rfl) rfl ?_
                              refine Ls_on rfl rfl ?_
                              refine Ls_run (run_move rfl) rfl ?_
                              refine Ls_on rfl rfl ?_
                              refine Ls_run (run_neq rfl rfl) rfl ?_
                              refine Ls_on rfl rfl ?_
                              refine Ls_run (run_move rfl) rfl ?_
                              refine Ls_partP (t := 81) rfl (fun h42 => ?_) (fun h42 => ?_)
                              · skip
                                refine Ls_on rfl rfl ?_
                                refine Ls_run (run_as (run_field Try.underlying26 rfl inf3 (by decide) rfl) (show _ = Value.pointer (some ⟨b2, 5, none⟩) from rfl)) rfl ?_
                                refine Ls_on rfl rfl ?_
                                refine Ls_run (run_load sc3 rfl (hs.blk_at 0 rfl 5 rfl)) rfl ?_
                                refine Ls_on rfl rfl ?_
                                refine Ls_run (run_neq rfl rfl) rfl ?_
                                refine Ls_on rfl rfl ?_
                                refine Ls_run (run_pick_t rfl rfl) rfl ?_
                                refine Ls_run (run_pick_f rfl rfl) rfl ?_
                                refine Ls_nil ?_
                                refine Jm_join (decide (x.c ≠ 0)) ?_ ?_
                                · rw [hEn22]; exact (subE_cons rfl (subE_cons rfl (subE_cons rfl subE_nil)))
                                · skip
                                  rw [hIv23]
                                  first
                                  | exact ⟨hs, fun _ q => by have := sound_num q; omega, (fun h => absurd h tf)⟩
                                  | exact ⟨hs, (fun h => absurd h ft), fun _ => ⟨by omega, by omega, by omega, by omega⟩⟩
                                  | exact ⟨hs, fun h q => by have := sound_num q; have h2 := of_decide_eq_true h; omega, fun h => by have h2 := of_decide_eq_false h; exact ⟨by omega, by omega, by omega, by omega⟩⟩
                              · skip
                                refine Ls_off rfl rfl rfl rfl ?_
                                refine Ls_off rfl rfl rfl rfl ?_
                                refine Ls_off rfl rfl rfl rfl ?_
                                refine Ls_on rfl rfl ?_
                                refine Ls_run (run_pick_f rfl rfl) rfl ?_
                                refine Ls_run (run_pick_f rfl rfl) rfl ?_
                                refine Ls_nil ?_
                                refine Jm_join false ?_ ?_
                                · rw [hEn22]; exact (subE_cons rfl (subE_cons rfl (subE_cons rfl subE_nil)))
                                · skip
                                  rw [hIv23]
                                  first
                                  | exact ⟨hs, fun _ q => by have := sound_num q; omega, (fun h => absurd h tf)⟩
                                  | exact ⟨hs, (fun h => absurd h ft), fun _ => ⟨by omega, by omega, by omega, by omega⟩⟩
                                  | exact ⟨hs, fun h q => by have := sound_num q; have h2 := of_decide_eq_true h; omega, fun h => by have h2 := of_decide_eq_false h; exact ⟨by omega, by omega, by omega, by omega⟩⟩
                        · skip
                          refine Ls_off rfl rfl rfl rfl ?_
                          refine Ls_off rfl rfl rfl rfl ?_
                          refine Ls_off rfl rfl rfl rfl ?_
                          refine Ls_off rfl rfl rfl rfl ?_
                          refine Ls_on rfl rfl ?_
                          refine Ls_run (run_pick_f rfl rfl) rfl ?_
                          refine Ls_run (run_pick_f rfl rfl) rfl ?_
                          refine Ls_run (run_move rfl) rfl ?_
                          refine Ls_on rfl rfl ?_
                          refine Ls_run (run_move rfl) rfl ?_
                          refine Ls_on rfl rfl ?_
                          refine Ls_run (run_neq rfl rfl) rfl ?_
                          refine Ls_on rfl rfl ?_
                          refine Ls_run (run_move rfl) rfl ?_
                          refine Ls_partP (t := 71) rfl (fun h43 => ?_) (fun h43 => ?_)
                          · skip
                            refine Ls_on rfl rfl ?_
                            refine Ls_run (run_as (run_field Try.underlying26 rfl inf24 (by decide) rfl) (show _ = Value.pointer (some ⟨b2, 8, none⟩) from rfl)) rfl ?_
                            refine Ls_on rfl rfl ?_
                            refine Ls_run (run_load sc24 rfl (hs.blk_at 0 rfl 8 rfl)) rfl ?_
                            refine Ls_on rfl rfl ?_
                            refine Ls_run (run_len Try.underlying24 rfl) rfl ?_
                            refine Ls_on rfl rfl ?_
                            refine Ls_run (run_gtr rfl rfl) rfl ?_
                            refine Ls_on rfl rfl ?_
                            refine Ls_run (run_pick_t rfl rfl) rfl ?_
                            refine Ls_run (run_pick_f rfl rfl) rfl ?_
                            refine Ls_run (run_move rfl) rfl ?_
                            refine Ls_partP (t := 78) rfl (fun h44 => ?_) (fun h44 => ?_)
                            · skip
                              refine Ls_off rfl rfl rfl rfl ?_
                              refine Ls_off rfl rfl rfl rfl ?_
                              refine Ls_off rfl rfl rfl rfl ?_
                              refine Ls_off' rfl rfl rfl ?_
                              refine Ls_off' rfl rfl rfl ?_
                              refine Ls_off' rfl rfl rfl ?_
                              refine Ls_off rfl rfl rfl rfl ?_
                              refine Ls_run (run_pick_t rfl rfl) rfl ?_
                              refine Ls_nil ?_
                              refine Jm_join true ?_ ?_
                              · rw [hEn22]; exact (subE_cons rfl (subE_cons rfl (subE_cons rfl subE_nil)))
                              · skip
                                rw [hIv23]
                                first
                                | exact ⟨hs, fun _ q => by have := sound_num q; omega, (fun h => absurd h tf)⟩
                                | exact ⟨hs, (fun h => absurd h ft), fun _ => ⟨by omega, by omega, by omega, by omega⟩⟩
                                | exact ⟨hs, fun h q => by have := sound_num q; have h2 := of_decide_eq_true h; omega, fun h => by have h2 := of_decide_eq_false h; exact ⟨by omega, by omega, by omega, by omega⟩⟩
                            · skip
                              refine Ls_on rfl rfl ?_
                              refine Ls_run (run_move rfl) rfl ?_
                              refine Ls_on rfl rfl ?_
                              refine Ls_run (run_neq rfl rfl) rfl ?_
                              refine Ls_on rfl rfl ?_
                              refine Ls_run (run_move rfl) rfl ?_
                              refine Ls_partP (t := 81) rfl (fun h45 => ?_) (fun h45 => ?_)
                              · skip
                                refine Ls_on rfl rfl ?_
                                refine Ls_run (run_as (run_field Try.underlying26 rfl inf3 (by decide) rfl) (show _ = Value.pointer (some ⟨b2, 5, none⟩) from rfl)) rfl ?_
                                refine Ls_on rfl rfl ?_
                                refine Ls_run (run_load sc3 rfl (hs.blk_at 0 rfl 5 rfl)) rfl ?_
                                refine Ls_on rfl rfl ?_
                                refine Ls_run (run_neq rfl rfl) rfl ?_
                                refine Ls_on rfl rfl ?_
                                refine Ls_run (run_pick_t rfl rfl) rfl ?_
                                refine Ls_run (run_pick_f rfl rfl) rfl ?_
                                refine Ls_nil ?_
                                refine Jm_join (decide (x.c ≠ 0)) ?_ ?_
                                · rw [hEn22]; exact (subE_cons rfl (subE_cons rfl (subE_cons rfl subE_nil)))
                                · skip
                                  rw [hIv23]
                                  first
                                  | exact ⟨hs, fun _ q => by have := sound_num q; omega, (fun h => absurd h tf)⟩
                                  | exact ⟨hs, (fun h => absurd h ft), fun _ => ⟨by omega, by omega, by omega, by omega⟩⟩
                                  | exact ⟨hs, fun h q => by have := sound_num q; have h2 := of_decide_eq_true h; omega, fun h => by have h2 := of_decide_eq_false h; exact ⟨by omega, by omega, by omega, by omega⟩⟩
                              · skip
                                refine Ls_off rfl rfl rfl rfl ?_
                                refine Ls_off rfl rfl rfl rfl ?_
                                refine Ls_off rfl rfl rfl rfl ?_
                                refine Ls_on rfl rfl ?_
                                refine Ls_run (run_pick_f rfl rfl) rfl ?_
                                refine Ls_run (run_pick_f rfl rfl) rfl ?_
                                refine Ls_nil ?_
                                refine Jm_join false ?_ ?_
                                · rw [hEn22]; exact (subE_cons rfl (subE_cons rfl (subE_cons rfl subE_nil)))
                                · skip
                                  rw [hIv23]
                                  first
                                  | exact ⟨hs, fun _ q => by have := sound_num q; omega, (fun h => absurd h tf)⟩
                                  | exact ⟨hs, (fun h => absurd h ft), fun _ => ⟨by omega, by omega, by omega, by omega⟩⟩
                                  | exact ⟨hs, fun h q => by have := sound_num q; have h2 := of_decide_eq_true h; omega, fun h => by have h2 := of_decide_eq_false h; exact ⟨by omega, by omega, by omega, by omega⟩⟩
                          · skip
                            refine Ls_off rfl rfl rfl rfl ?_
                            refine Ls_off rfl rfl rfl rfl ?_
                            refine Ls_off rfl rfl rfl rfl ?_
                            refine Ls_off rfl rfl rfl rfl ?_
                            refine Ls_on rfl rfl ?_
                            refine Ls_run (run_pick_f rfl rfl) rfl ?_
                            refine Ls_run (run_pick_f rfl rfl) rfl ?_
                            refine Ls_run (run_move rfl) rfl ?_
                            refine Ls_on rfl rfl ?_
                            refine Ls_run (run_move rfl) rfl ?_
                            refine Ls_on rfl rfl ?_
                            refine Ls_run (run_neq rfl rfl) rfl ?_
                            refine Ls_on rfl rfl ?_
                            refine Ls_run (run_move rfl) rfl ?_
                            refine Ls_partP (t := 81) rfl (fun h46 => ?_) (fun h46 => ?_)
                            · skip
                              refine Ls_on rfl rfl ?_
                              refine Ls_run (run_as (run_field Try.underlying26 rfl inf3 (by decide) rfl) (show _ = Value.pointer (some ⟨b2, 5, none⟩) from rfl)) rfl ?_
                              refine Ls_on rfl rfl ?_
                              refine Ls_run (run_load sc3 rfl (hs.blk_at 0 rfl 5 rfl)) rfl ?_
                              refine Ls_on rfl rfl ?_
                              refine Ls_run (run_neq rfl rfl) rfl ?_
                              refine Ls_on rfl rfl ?_
                              refine Ls_run (run_pick_t rfl rfl) rfl ?_
                              refine Ls_run (run_pick_f rfl rfl) rfl ?_
                              refine Ls_nil ?_
                              refine Jm_join (decide (x.c ≠ 0)) ?_ ?_
                              · rw [hEn22]; exact (subE_cons rfl (subE_cons rfl (subE_cons rfl subE_nil)))
                              · skip
                                rw [hIv23]
                                first
                                | exact ⟨hs, fun _ q => by have := sound_num q; omega, (fun h => absurd h tf)⟩
                                | exact ⟨hs, (fun h => absurd h ft), fun _ => ⟨by omega, by omega, by omega, by omega⟩⟩
                                | exact ⟨hs, fun h q => by have := sound_num q; have h2 := of_decide_eq_true h; omega, fun h => by have h2 := of_decide_eq_false h; exact ⟨by omega, by omega, by omega, by omega⟩⟩
                            · skip
                              refine Ls_off rfl rfl rfl rfl ?_
                              refine Ls_off rfl rfl rfl rfl ?_
                              refine Ls_off rfl rfl rfl rfl ?_
                              refine Ls_on rfl rfl ?_
                              refine Ls_run (run_pick_f rfl rfl) rfl ?_
                              refine Ls_run (run_pick_f rfl rfl) rfl ?_
                              refine Ls_nil ?_
                              refine Jm_join false ?_ ?_
                              · rw [hEn22]; exact (subE_cons rfl (subE_cons rfl (subE_cons rfl subE_nil)))
                              · skip
                                rw [hIv23]
                                first
                                | exact ⟨hs, fun _ q => by have := sound_num q; omega, (fun h => absurd h tf)⟩
                                | exact ⟨hs, (fun h => absurd h ft), fun _ => ⟨by omega, by omega, by omega, by omega⟩⟩
                                | exact ⟨hs, fun h q => by have := sound_num q; have h2 := of_decide_eq_true h; omega, fun h => by have h2 := of_decide_eq_false h; exact ⟨by omega, by omega, by omega, by omega⟩⟩
                    · skip
                      rintro z w24 hI47
                      rw [hIv23] at hI47
                      obtain ⟨hs, hz1, hz2⟩ := hI47
                      refine Jm_eqE (hEn22 _) ?_
                      refine Jm_seq ?_
                      refine St_if rfl (fun h48 => ?_) (fun h48 => ?_)
                      · skip
                        refine St_seq ?_
                        refine St_region ?_
                        refine Ls_run (run_assign rfl) rfl ?_
                        refine Ls_nil ?_
                        refine Jm_seq ?_
                        refine St_ret ?_
                        refine Jm_then_ret  ?_
                        refine Jm_ret1 rfl rfl ?_
                        refine ⟨_, rfl, ?_, hs.forget⟩
                        first
                        | exact congrArg Value.bool (decide_eq_false (fun q => by have := sound_num q; omega)).symm
                        | exact congrArg Value.bool (decide_eq_false (hz1 (by assumption))).symm
                        | exact congrArg Value.bool (decide_eq_false (fun q => by have h8 := sound_num q; have e1 : mof x.k = 1 := (by omega); have h9 := (q.2.2.2.2.2.1 e1).1 _ hmem; omega)).symm
                        | (have hz3 := hz2 (by assumption)
                           have hh : Mhead x := ⟨by omega, by omega, by omega, by omega, by omega, hz3.1, hz3.2.1, hz3.2.2.1, hz3.2.2.2⟩
                           have hi9 : i = p.en := by omega
                           rw [hi9, List.take_of_length_le (by omega)] at hok
                           have hee : mof x.k = 1 → 1 ≤ x.es.length ∧ x.es.length ≤ 4 := fun e => by omega
                           first
                           | exact congrArg Value.bool (decide_eq_decide.2 ((sound_iff' hh hee hok).trans ⟨fun q => by omega, fun q => ⟨by omega, by assumption, by omega, by assumption, by omega, by omega⟩⟩)).symm
                           | exact congrArg Value.bool (decide_eq_false (fun q => absurd ((sound_iff' hh hee hok).1 q).2.1 (by assumption))).symm
                           | exact congrArg Value.bool (decide_eq_false (fun q => absurd ((sound_iff' hh hee hok).1 q).2.2.2.1 (by assumption))).symm
                           | exact congrArg Value.bool (decide_eq_false (fun q => by have := (sound_iff' hh hee hok).1 q; omega)).symm)
                      · skip
                        refine St_skip ?_
                        refine Jm_seq ?_
                        refine St_seq ?_
                        refine St_seq ?_
                        refine St_region ?_
                        refine Ls_run (run_move rfl) rfl ?_
                        refine Ls_run (run_eql rfl rfl) rfl ?_
                        refine Ls_run (run_move rfl) rfl ?_
                        refine Ls_partP (t := 89) rfl (fun h49 => ?_) (fun h49 => ?_)
                        · skip
                          refine Ls_on rfl rfl ?_
                          refine Ls_run (run_as (run_field Try.underlying26 rfl inf22 (by decide) rfl) (show _ = Value.pointer (some ⟨b2, 6, none⟩) from rfl)) rfl ?_
                          refine Ls_on rfl rfl ?_
                          refine Ls_run (run_load sc22 rfl (hs.blk_at 0 rfl 6 rfl)) rfl ?_
                          refine Ls_on rfl rfl ?_
                          refine Ls_run (run_len Try.underlying22 rfl) rfl ?_
                          refine Ls_on rfl rfl ?_
                          refine Ls_run (run_lss rfl rfl) rfl ?_
                          refine Ls_on rfl rfl ?_
                          refine Ls_run (run_move rfl) rfl ?_
                          refine Ls_partP (t := 94) rfl (fun h50 => ?_) (fun h50 => ?_)
                          · skip
                            refine Ls_off rfl rfl rfl rfl ?_
                            refine Ls_off rfl rfl rfl rfl ?_
                            refine Ls_off rfl rfl rfl rfl ?_
                            refine Ls_off rfl rfl rfl rfl ?_
                            refine Ls_on rfl rfl ?_
                            refine Ls_run (run_pick_t rfl rfl) rfl ?_
                            refine Ls_run (run_pick_t rfl rfl) rfl ?_
                            refine Ls_nil ?_
                            refine Jm_seq ?_
                            refine St_ift rfl ?_
                            refine St_seq ?_
                            refine St_region ?_
                            refine Ls_run (run_assign rfl) rfl ?_
                            refine Ls_nil ?_
                            refine Jm_seq ?_
                            refine St_ret ?_
                            refine Jm_then_ret  ?_
                            refine Jm_ret1 rfl rfl ?_
                            refine ⟨_, rfl, ?_, hs.forget⟩
                            first
                            | exact congrArg Value.bool (decide_eq_false (fun q => by have := sound_num q; omega)).symm
                            | exact congrArg Value.bool (decide_eq_false (hz1 (by assumption))).symm
                            | exact congrArg Value.bool (decide_eq_false (fun q => by have h8 := sound_num q; have e1 : mof x.k = 1 := (by omega); have h9 := (q.2.2.2.2.2.1 e1).1 _ hmem; omega)).symm
                            | (have hz3 := hz2 (by assumption)
                               have hh : Mhead x := ⟨by omega, by omega, by omega, by omega, by omega, hz3.1, hz3.2.1, hz3.2.2.1, hz3.2.2.2⟩
                               have hi9 : i = p.en := by omega
                               rw [hi9, List.take_of_length_le (by omega)] at hok
                               have hee : mof x.k = 1 → 1 ≤ x.es.length ∧ x.es.length ≤ 4 := fun e => by omega
                               first
                               | exact congrArg Value.bool (decide_eq_decide.2 ((sound_iff' hh hee hok).trans ⟨fun q => by omega, fun q => ⟨by omega, by assumption, by omega, by assumption, by omega, by omega⟩⟩)).symm
                               | exact congrArg Value.bool (decide_eq_false (fun q => absurd ((sound_iff' hh hee hok).1 q).2.1 (by assumption))).symm
                               | exact congrArg Value.bool (decide_eq_false (fun q => absurd ((sound_iff' hh hee hok).1 q).2.2.2.1 (by assumption))).symm
                               | exact congrArg Value.bool (decide_eq_false (fun q => by have := (sound_iff' hh hee hok).1 q; omega)).symm)
                          · skip
                            refine Ls_on rfl rfl ?_
                            refine Ls_run (run_as (run_field Try.underlying26 rfl inf22 (by decide) rfl) (show _ = Value.pointer (some ⟨b2, 6, none⟩) from rfl)) rfl ?_
                            refine Ls_on rfl rfl ?_
                            refine Ls_run (run_load sc22 rfl (hs.blk_at 0 rfl 6 rfl)) rfl ?_
                            refine Ls_on rfl rfl ?_
                            refine Ls_run (run_len Try.underlying22 rfl) rfl ?_
                            refine Ls_on rfl rfl ?_
                            refine Ls_run (run_gtr rfl rfl) rfl ?_
                            refine Ls_on rfl rfl ?_
                            refine Ls_run (run_pick_f rfl rfl) rfl ?_
                            refine Ls_run (run_pick_t rfl rfl) rfl ?_
                            refine Ls_nil ?_
                            refine Jm_seq ?_
                            refine St_ifP rfl (fun h52 => ?_) (fun h52 => ?_)
                            · skip
                              refine St_seq ?_
                              refine St_region ?_
                              refine Ls_run (run_assign rfl) rfl ?_
                              refine Ls_nil ?_
                              refine Jm_seq ?_
                              refine St_ret ?_
                              refine Jm_then_ret  ?_
                              refine Jm_ret1 rfl rfl ?_
                              refine ⟨_, rfl, ?_, hs.forget⟩
                              first
                              | exact congrArg Value.bool (decide_eq_false (fun q => by have := sound_num q; omega)).symm
                              | exact congrArg Value.bool (decide_eq_false (hz1 (by assumption))).symm
                              | exact congrArg Value.bool (decide_eq_false (fun q => by have h8 := sound_num q; have e1 : mof x.k = 1 := (by omega); have h9 := (q.2.2.2.2.2.1 e1).1 _ hmem; omega)).symm
                              | (have hz3 := hz2 (by assumption)
                                 have hh : Mhead x := ⟨by omega, by omega, by omega, by omega, by omega, hz3.1, hz3.2.1, hz3.2.2.1, hz3.2.2.2⟩
                                 have hi9 : i = p.en := by omega
                                 rw [hi9, List.take_of_length_le (by omega)] at hok
                                 have hee : mof x.k = 1 → 1 ≤ x.es.length ∧ x.es.length ≤ 4 := fun e => by omega
                                 first
                                 | exact congrArg Value.bool (decide_eq_decide.2 ((sound_iff' hh hee hok).trans ⟨fun q => by omega, fun q => ⟨by omega, by assumption, by omega, by assumption, by omega, by omega⟩⟩)).symm
                                 | exact congrArg Value.bool (decide_eq_false (fun q => absurd ((sound_iff' hh hee hok).1 q).2.1 (by assumption))).symm
                                 | exact congrArg Value.bool (decide_eq_false (fun q => absurd ((sound_iff' hh hee hok).1 q).2.2.2.1 (by assumption))).symm
                                 | exact congrArg Value.bool (decide_eq_false (fun q => by have := (sound_iff' hh hee hok).1 q; omega)).symm)
                            · skip
                              refine St_skip ?_
                              refine Jm_seq ?_
                              refine St_seq ?_
                              refine St_seq ?_
                              refine St_region ?_
                              refine Ls_run (run_assign rfl) rfl ?_
                              refine Ls_nil ?_
                              refine Jm_seq ?_
                              refine St_block ?_
                              obtain ⟨En53, hEn53⟩ : ∃ F : Nat → Env, ∀ (i : Nat), F i = [(1, .pointer (some ⟨b2, 0, none⟩)), (4, .int .i64 (i : Int))] := ⟨(fun (i : Nat) => [(1, .pointer (some ⟨b2, 0, none⟩)), (4, .int .i64 (i : Int))]), fun _ => rfl⟩
                              obtain ⟨Iv54, hIv54⟩ : ∃ F : Nat → World → Prop, ∀ (i : Nat) (wr : World), F i wr = (Sat w wr [Blk b2 [.int .i64 x.k, .int .i64 x.f, .int .i64 x.t, .int .i64 x.b, .int .i64 x.a, .int .i64 x.c, .slice p.eA p.en p.ec, .slice p.kA p.kn p.kc, .slice p.pA p.pn p.pc] 26] ∧ i ≤ p.en ∧ (∀ y ∈ x.es.take i, 0 ≤ y ∧ y ≤ 256)) := ⟨(fun (i : Nat) => fun (wr : World) => Sat w wr [Blk b2 [.int .i64 x.k, .int .i64 x.f, .int .i64 x.t, .int .i64 x.b, .int .i64 x.a, .int .i64 x.c, .slice p.eA p.en p.ec, .slice p.kA p.kn p.kc, .slice p.pA p.pn p.pc] 26] ∧ i ≤ p.en ∧ (∀ y ∈ x.es.take i, 0 ≤ y ∧ y ≤ 256)), fun _ _ => rfl⟩
                              obtain ⟨ms55, hms55⟩ : ∃ F : Nat → Nat, ∀ (i : Nat), F i = (p.en - i) := ⟨(fun (i : Nat) => p.en - i), fun _ => rfl⟩
                              refine St_loop En53 Iv54 ms55 (0) ?_ ?_ ?_
                              · skip
                                rw [hIv54]
                                exact ⟨hs, by omega, by simp⟩
                              · rw [hEn53]; exact (subE_cons rfl (subE_cons rfl subE_nil))
                              rintro i wr hI56
                              rw [hIv54] at hI56
                              obtain ⟨hs, hi, hok⟩ := hI56
                              refine St_eqE (hEn53 _) ?_
                              refine St_seq ?_
                              refine St_seq ?_
                              refine St_region ?_
                              refine Ls_run (run_move rfl) rfl ?_
                              refine Ls_run (run_as (run_field Try.underlying26 rfl inf22 (by decide) rfl) (show _ = Value.pointer (some ⟨b2, 6, none⟩) from rfl)) rfl ?_
                              refine Ls_run (run_load sc22 rfl (hs.blk_at 0 rfl 6 rfl)) rfl ?_
                              refine Ls_run (run_len Try.underlying22 rfl) rfl ?_
                              refine Ls_run (run_lss rfl rfl) rfl ?_
                              refine Ls_nil ?_
                              refine Jm_seq ?_
                              refine St_ifP rfl (fun h57 => ?_) (fun h57 => ?_)
                              · skip
                                refine St_skip ?_
                                refine Jm_seq ?_
                                refine St_seq ?_
                                refine St_block ?_
                                refine St_seq ?_
                                refine St_region ?_
                                refine Ls_run (run_as (run_field Try.underlying26 rfl inf22 (by decide) rfl) (show _ = Value.pointer (some ⟨b2, 6, none⟩) from rfl)) rfl ?_
                                refine Ls_run (run_load sc22 rfl (hs.blk_at 0 rfl 6 rfl)) rfl ?_
                                refine Ls_run (run_move rfl) rfl ?_
                                have hmem : x.es.getD i 0 ∈ x.es := getD_mem3 (by omega)
                                refine Ls_index (El.int .i64) (hm.e.inB hs) Try.underlying22 inf3 rfl rfl (by omega) (by omega) (show _ = x.es.getD i 0 from rfl) rfl ?_
                                intro b58 o59 hc60
                                refine Ls_run (run_load sc3 rfl (hc60 0 _ rfl)) rfl ?_
                                refine Ls_run (run_lss rfl rfl) rfl ?_
                                refine Ls_run (run_move rfl) rfl ?_
                                refine Ls_partP (t := 114) rfl (fun h61 => ?_) (fun h61 => ?_)
                                · skip
                                  refine Ls_off rfl rfl rfl rfl ?_
                                  refine Ls_off rfl rfl rfl rfl ?_
                                  refine Ls_off rfl rfl rfl rfl ?_
                                  refine Ls_off rfl rfl rfl rfl ?_
                                  refine Ls_off rfl rfl rfl rfl ?_
                                  refine Ls_off rfl rfl rfl rfl ?_
                                  refine Ls_run (run_pick_t rfl rfl) rfl ?_
                                  refine Ls_nil ?_
                                  refine Jm_seq ?_
                                  refine St_ift rfl ?_
                                  refine St_seq ?_
                                  refine St_region ?_
                                  refine Ls_run (run_assign rfl) rfl ?_
                                  refine Ls_nil ?_
                                  refine Jm_seq ?_
                                  refine St_ret ?_
                                  refine Jm_block_ret (Jm_then_ret (Jm_then_ret (Jm_block_ret (Jm_then_ret  ?_))))
                                  refine Jm_ret1 rfl rfl ?_
                                  refine ⟨_, rfl, ?_, hs.forget⟩
                                  first
                                  | exact congrArg Value.bool (decide_eq_false (fun q => by have := sound_num q; omega)).symm
                                  | exact congrArg Value.bool (decide_eq_false (hz1 (by assumption))).symm
                                  | exact congrArg Value.bool (decide_eq_false (fun q => by have h8 := sound_num q; have e1 : mof x.k = 1 := (by omega); have h9 := (q.2.2.2.2.2.1 e1).1 _ hmem; omega)).symm
                                  | (have hz3 := hz2 (by assumption)
                                     have hh : Mhead x := ⟨by omega, by omega, by omega, by omega, by omega, hz3.1, hz3.2.1, hz3.2.2.1, hz3.2.2.2⟩
                                     have hi9 : i = p.en := by omega
                                     rw [hi9, List.take_of_length_le (by omega)] at hok
                                     have hee : mof x.k = 1 → 1 ≤ x.es.length ∧ x.es.length ≤ 4 := fun e => by omega
                                     first
                                     | exact congrArg Value.bool (decide_eq_decide.2 ((sound_iff' hh hee hok).trans ⟨fun q => by omega, fun q => ⟨by omega, by assumption, by omega, by assumption, by omega, by omega⟩⟩)).symm
                                     | exact congrArg Value.bool (decide_eq_false (fun q => absurd ((sound_iff' hh hee hok).1 q).2.1 (by assumption))).symm
                                     | exact congrArg Value.bool (decide_eq_false (fun q => absurd ((sound_iff' hh hee hok).1 q).2.2.2.1 (by assumption))).symm
                                     | exact congrArg Value.bool (decide_eq_false (fun q => by have := (sound_iff' hh hee hok).1 q; omega)).symm)
                                · skip
                                  refine Ls_on rfl rfl ?_
                                  refine Ls_run (run_as (run_field Try.underlying26 rfl inf22 (by decide) rfl) (show _ = Value.pointer (some ⟨b2, 6, none⟩) from rfl)) rfl ?_
                                  refine Ls_on rfl rfl ?_
                                  refine Ls_run (run_load sc22 rfl (hs.blk_at 0 rfl 6 rfl)) rfl ?_
                                  refine Ls_on rfl rfl ?_
                                  refine Ls_run (run_move rfl) rfl ?_
                                  refine Ls_on rfl rfl ?_
                                  refine Ls_index (El.int .i64) (hm.e.inB hs) Try.underlying22 inf3 rfl rfl (by omega) (by omega) (show _ = x.es.getD i 0 from rfl) rfl ?_
                                  intro b63 o64 hc65
                                  refine Ls_on rfl rfl ?_
                                  refine Ls_run (run_load sc3 rfl (hc65 0 _ rfl)) rfl ?_
                                  refine Ls_on rfl rfl ?_
                                  refine Ls_run (run_gtr rfl rfl) rfl ?_
                                  refine Ls_run (run_pick_f rfl rfl) rfl ?_
                                  refine Ls_nil ?_
                                  refine Jm_seq ?_
                                  refine St_ifP rfl (fun h66 => ?_) (fun h66 => ?_)
                                  · skip
                                    refine St_seq ?_
                                    refine St_region ?_
                                    refine Ls_run (run_assign rfl) rfl ?_
                                    refine Ls_nil ?_
                                    refine Jm_seq ?_
                                    refine St_ret ?_
                                    refine Jm_block_ret (Jm_then_ret (Jm_then_ret (Jm_block_ret (Jm_then_ret  ?_))))
                                    refine Jm_ret1 rfl rfl ?_
                                    refine ⟨_, rfl, ?_, hs.forget⟩
                                    first
                                    | exact congrArg Value.bool (decide_eq_false (fun q => by have := sound_num q; omega)).symm
                                    | exact congrArg Value.bool (decide_eq_false (hz1 (by assumption))).symm
                                    | exact congrArg Value.bool (decide_eq_false (fun q => by have h8 := sound_num q; have e1 : mof x.k = 1 := (by omega); have h9 := (q.2.2.2.2.2.1 e1).1 _ hmem; omega)).symm
                                    | (have hz3 := hz2 (by assumption)
                                       have hh : Mhead x := ⟨by omega, by omega, by omega, by omega, by omega, hz3.1, hz3.2.1, hz3.2.2.1, hz3.2.2.2⟩
                                       have hi9 : i = p.en := by omega
                                       rw [hi9, List.take_of_length_le (by omega)] at hok
                                       have hee : mof x.k = 1 → 1 ≤ x.es.length ∧ x.es.length ≤ 4 := fun e => by omega
                                       first
                                       | exact congrArg Value.bool (decide_eq_decide.2 ((sound_iff' hh hee hok).trans ⟨fun q => by omega, fun q => ⟨by omega, by assumption, by omega, by assumption, by omega, by omega⟩⟩)).symm
                                       | exact congrArg Value.bool (decide_eq_false (fun q => absurd ((sound_iff' hh hee hok).1 q).2.1 (by assumption))).symm
                                       | exact congrArg Value.bool (decide_eq_false (fun q => absurd ((sound_iff' hh hee hok).1 q).2.2.2.1 (by assumption))).symm
                                       | exact congrArg Value.bool (decide_eq_false (fun q => by have := (sound_iff' hh hee hok).1 q; omega)).symm)
                                  · skip
                                    refine St_skip ?_
                                    refine Jm_block_normal (Jm_seq ?_)
                                    refine St_region ?_
                                    refine Ls_run (run_move rfl) rfl ?_
                                    refine Ls_run (run_add rfl rfl (w64 (by omega))) rfl ?_
                                    refine Ls_run (run_assign rfl) rfl ?_
                                    refine Ls_nil ?_
                                    refine Jm_round (i + 1) ?_ ?_ ?_
                                    · rw [hEn53]; exact (subE_cons rfl (subE_cons rfl subE_nil))
                                    · skip
                                      rw [hIv54]
                                      refine ⟨hs, by omega, fun y hy => ?_⟩
                                      rw [take_snoc3 (d := 0) (by omega)] at hy
                                      rcases List.mem_append.1 hy with q | q
                                      · exact hok y q
                                      · simp only [List.mem_singleton] at q; subst q; omega
                                    · skip
                                      rw [hms55, hms55]
                                      omega
                              · skip
                                refine St_exit ?_
                                refine Jm_then_exit (Jm_then_exit (Jm_block_same (Jm_seq ?_)))
                                refine St_seq ?_
                                refine St_region ?_
                                refine Ls_run (run_as (run_field Try.underlying26 rfl inf23 (by decide) rfl) (show _ = Value.pointer (some ⟨b2, 7, none⟩) from rfl)) rfl ?_
                                refine Ls_run (run_load sc23 rfl (hs.blk_at 0 rfl 7 rfl)) rfl ?_
                                refine Ls_run (run_len Try.underlying23 rfl) rfl ?_
                                refine Ls_run (run_leq rfl rfl) rfl ?_
                                refine Ls_run (run_move rfl) rfl ?_
                                refine Ls_partP (t := 126) rfl (fun h67 => ?_) (fun h67 => ?_)
                                · skip
                                  refine Ls_on rfl rfl ?_
                                  refine Ls_run (run_as (run_field Try.underlying26 rfl inf23 (by decide) rfl) (show _ = Value.pointer (some ⟨b2, 7, none⟩) from rfl)) rfl ?_
                                  refine Ls_on rfl rfl ?_
                                  refine Ls_run (run_load sc23 rfl (hs.blk_at 0 rfl 7 rfl)) rfl ?_
                                  refine Ls_on rfl rfl ?_
                                  refine Ls_call Try.func75 nm75 rfl rfl (rRising_c wr p.kA p.kn p.kc x.ks (hm.k.inB hs) hzk) rfl ?_
                                  rintro v68 w69 ⟨rfl, hsQ70⟩
                                  replace hs := hs.trans hsQ70
                                  refine Ls_run (run_pick_t rfl rfl) rfl ?_
                                  refine Ls_run (run_move rfl) rfl ?_
                                  refine Ls_partP (t := 131) rfl (fun h71 => ?_) (fun h71 => ?_)
                                  · skip
                                    refine Ls_on rfl rfl ?_
                                    refine Ls_run (run_as (run_field Try.underlying26 rfl inf24 (by decide) rfl) (show _ = Value.pointer (some ⟨b2, 8, none⟩) from rfl)) rfl ?_
                                    refine Ls_on rfl rfl ?_
                                    refine Ls_run (run_load sc24 rfl (hs.blk_at 0 rfl 8 rfl)) rfl ?_
                                    refine Ls_on rfl rfl ?_
                                    refine Ls_run (run_len Try.underlying24 rfl) rfl ?_
                                    refine Ls_on rfl rfl ?_
                                    refine Ls_run (run_leq rfl rfl) rfl ?_
                                    refine Ls_run (run_pick_t rfl rfl) rfl ?_
                                    refine Ls_run (run_move rfl) rfl ?_
                                    refine Ls_partP (t := 137) rfl (fun h72 => ?_) (fun h72 => ?_)
                                    · skip
                                      refine Ls_on rfl rfl ?_
                                      refine Ls_run (run_as (run_field Try.underlying26 rfl inf24 (by decide) rfl) (show _ = Value.pointer (some ⟨b2, 8, none⟩) from rfl)) rfl ?_
                                      refine Ls_on rfl rfl ?_
                                      refine Ls_run (run_load sc24 rfl (hs.blk_at 0 rfl 8 rfl)) rfl ?_
                                      refine Ls_on rfl rfl ?_
                                      refine Ls_call Try.func76 nm76 rfl rfl (rfSound_c w69 p.pA p.pn p.pc x.ps (hm.p.inB hs) hzp) rfl ?_
                                      rintro v73 w74 ⟨rfl, hsQ75⟩
                                      replace hs := hs.trans hsQ75
                                      refine Ls_run (run_pick_t rfl rfl) rfl ?_
                                      refine Ls_run (run_move rfl) rfl ?_
                                      refine Ls_partP (t := 142) rfl (fun h76 => ?_) (fun h76 => ?_)
                                      · skip
                                        refine Ls_on rfl rfl ?_
                                        refine Ls_run (run_as (run_field Try.underlying26 rfl inf3 (by decide) rfl) (show _ = Value.pointer (some ⟨b2, 5, none⟩) from rfl)) rfl ?_
                                        refine Ls_on rfl rfl ?_
                                        refine Ls_run (run_load sc3 rfl (hs.blk_at 0 rfl 5 rfl)) rfl ?_
                                        refine Ls_on rfl rfl ?_
                                        refine Ls_run (run_geq rfl rfl) rfl ?_
                                        refine Ls_run (run_pick_t rfl rfl) rfl ?_
                                        refine Ls_run (run_move rfl) rfl ?_
                                        refine Ls_partP (t := 147) rfl (fun h77 => ?_) (fun h77 => ?_)
                                        · skip
                                          refine Ls_on rfl rfl ?_
                                          refine Ls_run (run_as (run_field Try.underlying26 rfl inf3 (by decide) rfl) (show _ = Value.pointer (some ⟨b2, 5, none⟩) from rfl)) rfl ?_
                                          refine Ls_on rfl rfl ?_
                                          refine Ls_run (run_load sc3 rfl (hs.blk_at 0 rfl 5 rfl)) rfl ?_
                                          refine Ls_on rfl rfl ?_
                                          refine Ls_run (run_leq rfl rfl) rfl ?_
                                          refine Ls_run (run_pick_t rfl rfl) rfl ?_
                                          refine Ls_run (run_assign rfl) rfl ?_
                                          refine Ls_nil ?_
                                          refine Jm_seq ?_
                                          refine St_ret ?_
                                          refine Jm_ret1 rfl rfl ?_
                                          refine ⟨_, rfl, ?_, hs.forget⟩
                                          first
                                          | exact congrArg Value.bool (decide_eq_false (fun q => by have := sound_num q; omega)).symm
                                          | exact congrArg Value.bool (decide_eq_false (hz1 (by assumption))).symm
                                          | exact congrArg Value.bool (decide_eq_false (fun q => by have h8 := sound_num q; have e1 : mof x.k = 1 := (by omega); have h9 := (q.2.2.2.2.2.1 e1).1 _ hmem; omega)).symm
                                          | (have hz3 := hz2 (by assumption)
                                             have hh : Mhead x := ⟨by omega, by omega, by omega, by omega, by omega, hz3.1, hz3.2.1, hz3.2.2.1, hz3.2.2.2⟩
                                             have hi9 : i = p.en := by omega
                                             rw [hi9, List.take_of_length_le (by omega)] at hok
                                             have hee : mof x.k = 1 → 1 ≤ x.es.length ∧ x.es.length ≤ 4 := fun e => by omega
                                             first
                                             | exact congrArg Value.bool (decide_eq_decide.2 ((sound_iff' hh hee hok).trans ⟨fun q => by omega, fun q => ⟨by omega, by assumption, by omega, by assumption, by omega, by omega⟩⟩)).symm
                                             | exact congrArg Value.bool (decide_eq_false (fun q => absurd ((sound_iff' hh hee hok).1 q).2.1 (by assumption))).symm
                                             | exact congrArg Value.bool (decide_eq_false (fun q => absurd ((sound_iff' hh hee hok).1 q).2.2.2.1 (by assumption))).symm
                                             | exact congrArg Value.bool (decide_eq_false (fun q => by have := (sound_iff' hh hee hok).1 q; omega)).symm)
                                        · skip
                                          refine Ls_off rfl rfl rfl rfl ?_
                                          refine Ls_off rfl rfl rfl rfl ?_
                                          refine Ls_off rfl rfl rfl rfl ?_
                                          refine Ls_run (run_pick_f rfl rfl) rfl ?_
                                          refine Ls_run (run_assign rfl) rfl ?_
                                          refine Ls_nil ?_
                                          refine Jm_seq ?_
                                          refine St_ret ?_
                                          refine Jm_ret1 rfl rfl ?_
                                          refine ⟨_, rfl, ?_, hs.forget⟩
                                          first
                                          | exact congrArg Value.bool (decide_eq_false (fun q => by have := sound_num q; omega)).symm
                                          | exact congrArg Value.bool (decide_eq_false (hz1 (by assumption))).symm
                                          | exact congrArg Value.bool (decide_eq_false (fun q => by have h8 := sound_num q; have e1 : mof x.k = 1 := (by omega); have h9 := (q.2.2.2.2.2.1 e1).1 _ hmem; omega)).symm
                                          | (have hz3 := hz2 (by assumption)
                                             have hh : Mhead x := ⟨by omega, by omega, by omega, by omega, by omega, hz3.1, hz3.2.1, hz3.2.2.1, hz3.2.2.2⟩
                                             have hi9 : i = p.en := by omega
                                             rw [hi9, List.take_of_length_le (by omega)] at hok
                                             have hee : mof x.k = 1 → 1 ≤ x.es.length ∧ x.es.length ≤ 4 := fun e => by omega
                                             first
                                             | exact congrArg Value.bool (decide_eq_decide.2 ((sound_iff' hh hee hok).trans ⟨fun q => by omega, fun q => ⟨by omega, by assumption, by omega, by assumption, by omega, by omega⟩⟩)).symm
                                             | exact congrArg Value.bool (decide_eq_false (fun q => absurd ((sound_iff' hh hee hok).1 q).2.1 (by assumption))).symm
                                             | exact congrArg Value.bool (decide_eq_false (fun q => absurd ((sound_iff' hh hee hok).1 q).2.2.2.1 (by assumption))).symm
                                             | exact congrArg Value.bool (decide_eq_false (fun q => by have := (sound_iff' hh hee hok).1 q; omega)).symm)
                                      · skip
                                        refine Ls_off rfl rfl rfl rfl ?_
                                        refine Ls_off rfl rfl rfl rfl ?_
                                        refine Ls_off rfl rfl rfl rfl ?_
                                        refine Ls_run (run_pick_f rfl rfl) rfl ?_
                                        refine Ls_run (run_move rfl) rfl ?_
                                        refine Ls_off rfl rfl rfl rfl ?_
                                        refine Ls_off rfl rfl rfl rfl ?_
                                        refine Ls_off rfl rfl rfl rfl ?_
                                        refine Ls_run (run_pick_f rfl rfl) rfl ?_
                                        refine Ls_run (run_assign rfl) rfl ?_
                                        refine Ls_nil ?_
                                        refine Jm_seq ?_
                                        refine St_ret ?_
                                        refine Jm_ret1 rfl rfl ?_
                                        refine ⟨_, rfl, ?_, hs.forget⟩
                                        first
                                        | exact congrArg Value.bool (decide_eq_false (fun q => by have := sound_num q; omega)).symm
                                        | exact congrArg Value.bool (decide_eq_false (hz1 (by assumption))).symm
                                        | exact congrArg Value.bool (decide_eq_false (fun q => by have h8 := sound_num q; have e1 : mof x.k = 1 := (by omega); have h9 := (q.2.2.2.2.2.1 e1).1 _ hmem; omega)).symm
                                        | (have hz3 := hz2 (by assumption)
                                           have hh : Mhead x := ⟨by omega, by omega, by omega, by omega, by omega, hz3.1, hz3.2.1, hz3.2.2.1, hz3.2.2.2⟩
                                           have hi9 : i = p.en := by omega
                                           rw [hi9, List.take_of_length_le (by omega)] at hok
                                           have hee : mof x.k = 1 → 1 ≤ x.es.length ∧ x.es.length ≤ 4 := fun e => by omega
                                           first
                                           | exact congrArg Value.bool (decide_eq_decide.2 ((sound_iff' hh hee hok).trans ⟨fun q => by omega, fun q => ⟨by omega, by assumption, by omega, by assumption, by omega, by omega⟩⟩)).symm
                                           | exact congrArg Value.bool (decide_eq_false (fun q => absurd ((sound_iff' hh hee hok).1 q).2.1 (by assumption))).symm
                                           | exact congrArg Value.bool (decide_eq_false (fun q => absurd ((sound_iff' hh hee hok).1 q).2.2.2.1 (by assumption))).symm
                                           | exact congrArg Value.bool (decide_eq_false (fun q => by have := (sound_iff' hh hee hok).1 q; omega)).symm)
                                    · skip
                                      refine Ls_off rfl rfl rfl rfl ?_
                                      refine Ls_off rfl rfl rfl rfl ?_
                                      refine Ls_off rfl rfl rfl rfl ?_
                                      refine Ls_run (run_pick_f rfl rfl) rfl ?_
                                      refine Ls_run (run_move rfl) rfl ?_
                                      refine Ls_off rfl rfl rfl rfl ?_
                                      refine Ls_off rfl rfl rfl rfl ?_
                                      refine Ls_off rfl rfl rfl rfl ?_
                                      refine Ls_run (run_pick_f rfl rfl) rfl ?_
                                      refine Ls_run (run_move rfl) rfl ?_
                                      refine Ls_off rfl rfl rfl rfl ?_
                                      refine Ls_off rfl rfl rfl rfl ?_
                                      refine Ls_off rfl rfl rfl rfl ?_
                                      refine Ls_run (run_pick_f rfl rfl) rfl ?_
                                      refine Ls_run (run_assign rfl) rfl ?_
                                      refine Ls_nil ?_
                                      refine Jm_seq ?_
                                      refine St_ret ?_
                                      refine Jm_ret1 rfl rfl ?_
                                      refine ⟨_, rfl, ?_, hs.forget⟩
                                      first
                                      | exact congrArg Value.bool (decide_eq_false (fun q => by have := sound_num q; omega)).symm
                                      | exact congrArg Value.bool (decide_eq_false (hz1 (by assumption))).symm
                                      | exact congrArg Value.bool (decide_eq_false (fun q => by have h8 := sound_num q; have e1 : mof x.k = 1 := (by omega); have h9 := (q.2.2.2.2.2.1 e1).1 _ hmem; omega)).symm
                                      | (have hz3 := hz2 (by assumption)
                                         have hh : Mhead x := ⟨by omega, by omega, by omega, by omega, by omega, hz3.1, hz3.2.1, hz3.2.2.1, hz3.2.2.2⟩
                                         have hi9 : i = p.en := by omega
                                         rw [hi9, List.take_of_length_le (by omega)] at hok
                                         have hee : mof x.k = 1 → 1 ≤ x.es.length ∧ x.es.length ≤ 4 := fun e => by omega
                                         first
                                         | exact congrArg Value.bool (decide_eq_decide.2 ((sound_iff' hh hee hok).trans ⟨fun q => by omega, fun q => ⟨by omega, by assumption, by omega, by assumption, by omega, by omega⟩⟩)).symm
                                         | exact congrArg Value.bool (decide_eq_false (fun q => absurd ((sound_iff' hh hee hok).1 q).2.1 (by assumption))).symm
                                         | exact congrArg Value.bool (decide_eq_false (fun q => absurd ((sound_iff' hh hee hok).1 q).2.2.2.1 (by assumption))).symm
                                         | exact congrArg Value.bool (decide_eq_false (fun q => by have := (sound_iff' hh hee hok).1 q; omega)).symm)
                                  · skip
                                    refine Ls_off rfl rfl rfl rfl ?_
                                    refine Ls_off rfl rfl rfl rfl ?_
                                    refine Ls_off rfl rfl rfl rfl ?_
                                    refine Ls_off rfl rfl rfl rfl ?_
                                    refine Ls_run (run_pick_f rfl rfl) rfl ?_
                                    refine Ls_run (run_move rfl) rfl ?_
                                    refine Ls_off rfl rfl rfl rfl ?_
                                    refine Ls_off rfl rfl rfl rfl ?_
                                    refine Ls_off rfl rfl rfl rfl ?_
                                    refine Ls_run (run_pick_f rfl rfl) rfl ?_
                                    refine Ls_run (run_move rfl) rfl ?_
                                    refine Ls_off rfl rfl rfl rfl ?_
                                    refine Ls_off rfl rfl rfl rfl ?_
                                    refine Ls_off rfl rfl rfl rfl ?_
                                    refine Ls_run (run_pick_f rfl rfl) rfl ?_
                                    refine Ls_run (run_move rfl) rfl ?_
                                    refine Ls_off rfl rfl rfl rfl ?_
                                    refine Ls_off rfl rfl rfl rfl ?_
                                    refine Ls_off rfl rfl rfl rfl ?_
                                    refine Ls_run (run_pick_f rfl rfl) rfl ?_
                                    refine Ls_run (run_assign rfl) rfl ?_
                                    refine Ls_nil ?_
                                    refine Jm_seq ?_
                                    refine St_ret ?_
                                    refine Jm_ret1 rfl rfl ?_
                                    refine ⟨_, rfl, ?_, hs.forget⟩
                                    first
                                    | exact congrArg Value.bool (decide_eq_false (fun q => by have := sound_num q; omega)).symm
                                    | exact congrArg Value.bool (decide_eq_false (hz1 (by assumption))).symm
                                    | exact congrArg Value.bool (decide_eq_false (fun q => by have h8 := sound_num q; have e1 : mof x.k = 1 := (by omega); have h9 := (q.2.2.2.2.2.1 e1).1 _ hmem; omega)).symm
                                    | (have hz3 := hz2 (by assumption)
                                       have hh : Mhead x := ⟨by omega, by omega, by omega, by omega, by omega, hz3.1, hz3.2.1, hz3.2.2.1, hz3.2.2.2⟩
                                       have hi9 : i = p.en := by omega
                                       rw [hi9, List.take_of_length_le (by omega)] at hok
                                       have hee : mof x.k = 1 → 1 ≤ x.es.length ∧ x.es.length ≤ 4 := fun e => by omega
                                       first
                                       | exact congrArg Value.bool (decide_eq_decide.2 ((sound_iff' hh hee hok).trans ⟨fun q => by omega, fun q => ⟨by omega, by assumption, by omega, by assumption, by omega, by omega⟩⟩)).symm
                                       | exact congrArg Value.bool (decide_eq_false (fun q => absurd ((sound_iff' hh hee hok).1 q).2.1 (by assumption))).symm
                                       | exact congrArg Value.bool (decide_eq_false (fun q => absurd ((sound_iff' hh hee hok).1 q).2.2.2.1 (by assumption))).symm
                                       | exact congrArg Value.bool (decide_eq_false (fun q => by have := (sound_iff' hh hee hok).1 q; omega)).symm)
                                · skip
                                  refine Ls_off rfl rfl rfl rfl ?_
                                  refine Ls_off rfl rfl rfl rfl ?_
                                  refine Ls_off rfl rfl rfl rfl ?_
                                  refine Ls_run (run_pick_f rfl rfl) rfl ?_
                                  refine Ls_run (run_move rfl) rfl ?_
                                  refine Ls_off rfl rfl rfl rfl ?_
                                  refine Ls_off rfl rfl rfl rfl ?_
                                  refine Ls_off rfl rfl rfl rfl ?_
                                  refine Ls_off rfl rfl rfl rfl ?_
                                  refine Ls_run (run_pick_f rfl rfl) rfl ?_
                                  refine Ls_run (run_move rfl) rfl ?_
                                  refine Ls_off rfl rfl rfl rfl ?_
                                  refine Ls_off rfl rfl rfl rfl ?_
                                  refine Ls_off rfl rfl rfl rfl ?_
                                  refine Ls_run (run_pick_f rfl rfl) rfl ?_
                                  refine Ls_run (run_move rfl) rfl ?_
                                  refine Ls_off rfl rfl rfl rfl ?_
                                  refine Ls_off rfl rfl rfl rfl ?_
                                  refine Ls_off rfl rfl rfl rfl ?_
                                  refine Ls_run (run_pick_f rfl rfl) rfl ?_
                                  refine Ls_run (run_move rfl) rfl ?_
                                  refine Ls_off rfl rfl rfl rfl ?_
                                  refine Ls_off rfl rfl rfl rfl ?_
                                  refine Ls_off rfl rfl rfl rfl ?_
                                  refine Ls_run (run_pick_f rfl rfl) rfl ?_
                                  refine Ls_run (run_assign rfl) rfl ?_
                                  refine Ls_nil ?_
                                  refine Jm_seq ?_
                                  refine St_ret ?_
                                  refine Jm_ret1 rfl rfl ?_
                                  refine ⟨_, rfl, ?_, hs.forget⟩
                                  first
                                  | exact congrArg Value.bool (decide_eq_false (fun q => by have := sound_num q; omega)).symm
                                  | exact congrArg Value.bool (decide_eq_false (hz1 (by assumption))).symm
                                  | exact congrArg Value.bool (decide_eq_false (fun q => by have h8 := sound_num q; have e1 : mof x.k = 1 := (by omega); have h9 := (q.2.2.2.2.2.1 e1).1 _ hmem; omega)).symm
                                  | (have hz3 := hz2 (by assumption)
                                     have hh : Mhead x := ⟨by omega, by omega, by omega, by omega, by omega, hz3.1, hz3.2.1, hz3.2.2.1, hz3.2.2.2⟩
                                     have hi9 : i = p.en := by omega
                                     rw [hi9, List.take_of_length_le (by omega)] at hok
                                     have hee : mof x.k = 1 → 1 ≤ x.es.length ∧ x.es.length ≤ 4 := fun e => by omega
                                     first
                                     | exact congrArg Value.bool (decide_eq_decide.2 ((sound_iff' hh hee hok).trans ⟨fun q => by omega, fun q => ⟨by omega, by assumption, by omega, by assumption, by omega, by omega⟩⟩)).symm
                                     | exact congrArg Value.bool (decide_eq_false (fun q => absurd ((sound_iff' hh hee hok).1 q).2.1 (by assumption))).symm
                                     | exact congrArg Value.bool (decide_eq_false (fun q => absurd ((sound_iff' hh hee hok).1 q).2.2.2.1 (by assumption))).symm
                                     | exact congrArg Value.bool (decide_eq_false (fun q => by have := (sound_iff' hh hee hok).1 q; omega)).symm)
                        · skip
                          refine Ls_off rfl rfl rfl rfl ?_
                          refine Ls_off rfl rfl rfl rfl ?_
                          refine Ls_off rfl rfl rfl rfl ?_
                          refine Ls_off rfl rfl rfl rfl ?_
                          refine Ls_off rfl rfl rfl rfl ?_
                          refine Ls_off' rfl rfl rfl ?_
                          refine Ls_off' rfl rfl rfl ?_
                          refine Ls_off' rfl rfl rfl ?_
                          refine Ls_off' rfl rfl rfl ?_
                          refine Ls_off rfl rfl rfl rfl ?_
                          refine Ls_run (run_pick_f rfl rfl) rfl ?_
                          refine Ls_nil ?_
                          refine Jm_seq ?_
                          refine St_iff rfl ?_
                          refine St_skip ?_
                          refine Jm_seq ?_
                          refine St_seq ?_
                          refine St_seq ?_
                          refine St_region ?_
                          refine Ls_run (run_assign rfl) rfl ?_
                          refine Ls_nil ?_
                          refine Jm_seq ?_
                          refine St_block ?_
                          obtain ⟨En79, hEn79⟩ : ∃ F : Nat → Env, ∀ (i : Nat), F i = [(1, .pointer (some ⟨b2, 0, none⟩)), (4, .int .i64 (i : Int))] := ⟨(fun (i : Nat) => [(1, .pointer (some ⟨b2, 0, none⟩)), (4, .int .i64 (i : Int))]), fun _ => rfl⟩
                          obtain ⟨Iv80, hIv80⟩ : ∃ F : Nat → World → Prop, ∀ (i : Nat) (wr : World), F i wr = (Sat w wr [Blk b2 [.int .i64 x.k, .int .i64 x.f, .int .i64 x.t, .int .i64 x.b, .int .i64 x.a, .int .i64 x.c, .slice p.eA p.en p.ec, .slice p.kA p.kn p.kc, .slice p.pA p.pn p.pc] 26] ∧ i ≤ p.en ∧ (∀ y ∈ x.es.take i, 0 ≤ y ∧ y ≤ 256)) := ⟨(fun (i : Nat) => fun (wr : World) => Sat w wr [Blk b2 [.int .i64 x.k, .int .i64 x.f, .int .i64 x.t, .int .i64 x.b, .int .i64 x.a, .int .i64 x.c, .slice p.eA p.en p.ec, .slice p.kA p.kn p.kc, .slice p.pA p.pn p.pc] 26] ∧ i ≤ p.en ∧ (∀ y ∈ x.es.take i, 0 ≤ y ∧ y ≤ 256)), fun _ _ => rfl⟩
                          obtain ⟨ms81, hms81⟩ : ∃ F : Nat → Nat, ∀ (i : Nat), F i = (p.en - i) := ⟨(fun (i : Nat) => p.en - i), fun _ => rfl⟩
                          refine St_loop En79 Iv80 ms81 (0) ?_ ?_ ?_
                          · skip
                            rw [hIv80]
                            exact ⟨hs, by omega, by simp⟩
                          · rw [hEn79]; exact (subE_cons rfl (subE_cons rfl subE_nil))
                          rintro i wr hI82
                          rw [hIv80] at hI82
                          obtain ⟨hs, hi, hok⟩ := hI82
                          refine St_eqE (hEn79 _) ?_
                          refine St_seq ?_
                          refine St_seq ?_
                          refine St_region ?_
                          refine Ls_run (run_move rfl) rfl ?_
                          refine Ls_run (run_as (run_field Try.underlying26 rfl inf22 (by decide) rfl) (show _ = Value.pointer (some ⟨b2, 6, none⟩) from rfl)) rfl ?_
                          refine Ls_run (run_load sc22 rfl (hs.blk_at 0 rfl 6 rfl)) rfl ?_
                          refine Ls_run (run_len Try.underlying22 rfl) rfl ?_
                          refine Ls_run (run_lss rfl rfl) rfl ?_
                          refine Ls_nil ?_
                          refine Jm_seq ?_
                          refine St_ifP rfl (fun h83 => ?_) (fun h83 => ?_)
                          · skip
                            refine St_skip ?_
                            refine Jm_seq ?_
                            refine St_seq ?_
                            refine St_block ?_
                            refine St_seq ?_
                            refine St_region ?_
                            refine Ls_run (run_as (run_field Try.underlying26 rfl inf22 (by decide) rfl) (show _ = Value.pointer (some ⟨b2, 6, none⟩) from rfl)) rfl ?_
                            refine Ls_run (run_load sc22 rfl (hs.blk_at 0 rfl 6 rfl)) rfl ?_
                            refine Ls_run (run_move rfl) rfl ?_
                            have hmem : x.es.getD i 0 ∈ x.es := getD_mem3 (by omega)
                            refine Ls_index (El.int .i64) (hm.e.inB hs) Try.underlying22 inf3 rfl rfl (by omega) (by omega) (show _ = x.es.getD i 0 from rfl) rfl ?_
                            intro b84 o85 hc86
                            refine Ls_run (run_load sc3 rfl (hc86 0 _ rfl)) rfl ?_
                            refine Ls_run (run_lss rfl rfl) rfl ?_
                            refine Ls_run (run_move rfl) rfl ?_
                            refine Ls_partP (t := 114) rfl (fun h87 => ?_) (fun h87 => ?_)
                            · skip
                              refine Ls_off rfl rfl rfl rfl ?_
                              refine Ls_off rfl rfl rfl rfl ?_
                              refine Ls_off rfl rfl rfl rfl ?_
                              refine Ls_off rfl rfl rfl rfl ?_
                              refine Ls_off rfl rfl rfl rfl ?_
                              refine Ls_off rfl rfl rfl rfl ?_
                              refine Ls_run (run_pick_t rfl rfl) rfl ?_
                              refine Ls_nil ?_
                              refine Jm_seq ?_
                              refine St_ift rfl ?_
                              refine St_seq ?_
                              refine St_region ?_
                              refine Ls_run (run_assign rfl) rfl ?_
                              refine Ls_nil ?_
                              refine Jm_seq ?_
                              refine St_ret ?_
                              refine Jm_block_ret (Jm_then_ret (Jm_then_ret (Jm_block_ret (Jm_then_ret  ?_))))
                              refine Jm_ret1 rfl rfl ?_
                              refine ⟨_, rfl, ?_, hs.forget⟩
                              first
                              | exact congrArg Value.bool (decide_eq_false (fun q => by have := sound_num q; omega)).symm
                              | exact congrArg Value.bool (decide_eq_false (hz1 (by assumption))).symm
                              | exact congrArg Value.bool (decide_eq_false (fun q => by have h8 := sound_num q; have e1 : mof x.k = 1 := (by omega); have h9 := (q.2.2.2.2.2.1 e1).1 _ hmem; omega)).symm
                              | (have hz3 := hz2 (by assumption)
                                 have hh : Mhead x := ⟨by omega, by omega, by omega, by omega, by omega, hz3.1, hz3.2.1, hz3.2.2.1, hz3.2.2.2⟩
                                 have hi9 : i = p.en := by omega
                                 rw [hi9, List.take_of_length_le (by omega)] at hok
                                 have hee : mof x.k = 1 → 1 ≤ x.es.length ∧ x.es.length ≤ 4 := fun e => by omega
                                 first
                                 | exact congrArg Value.bool (decide_eq_decide.2 ((sound_iff' hh hee hok).trans ⟨fun q => by omega, fun q => ⟨by omega, by assumption, by omega, by assumption, by omega, by omega⟩⟩)).symm
                                 | exact congrArg Value.bool (decide_eq_false (fun q => absurd ((sound_iff' hh hee hok).1 q).2.1 (by assumption))).symm
                                 | exact congrArg Value.bool (decide_eq_false (fun q => absurd ((sound_iff' hh hee hok).1 q).2.2.2.1 (by assumption))).symm
                                 | exact congrArg Value.bool (decide_eq_false (fun q => by have := (sound_iff' hh hee hok).1 q; omega)).symm)
                            · skip
                              refine Ls_on rfl rfl ?_
                              refine Ls_run (run_as (run_field Try.underlying26 rfl inf22 (by decide) rfl) (show _ = Value.pointer (some ⟨b2, 6, none⟩) from rfl)) rfl ?_
                              refine Ls_on rfl rfl ?_
                              refine Ls_run (run_load sc22 rfl (hs.blk_at 0 rfl 6 rfl)) rfl ?_
                              refine Ls_on rfl rfl ?_
                              refine Ls_run (run_move rfl) rfl ?_
                              refine Ls_on rfl rfl ?_
                              refine Ls_index (El.int .i64) (hm.e.inB hs) Try.underlying22 inf3 rfl rfl (by omega) (by omega) (show _ = x.es.getD i 0 from rfl) rfl ?_
                              intro b89 o90 hc91
                              refine Ls_on rfl rfl ?_
                              refine Ls_run (run_load sc3 rfl (hc91 0 _ rfl)) rfl ?_
                              refine Ls_on rfl rfl ?_
                              refine Ls_run (run_gtr rfl rfl) rfl ?_
                              refine Ls_run (run_pick_f rfl rfl) rfl ?_
                              refine Ls_nil ?_
                              refine Jm_seq ?_
                              refine St_ifP rfl (fun h92 => ?_) (fun h92 => ?_)
                              · skip
                                refine St_seq ?_
                                refine St_region ?_
                                refine Ls_run (run_assign rfl) rfl ?_
                                refine Ls_nil ?_
                                refine Jm_seq ?_
                                refine St_ret ?_
                                refine Jm_block_ret (Jm_then_ret (Jm_then_ret (Jm_block_ret (Jm_then_ret  ?_))))
                                refine Jm_ret1 rfl rfl ?_
                                refine ⟨_, rfl, ?_, hs.forget⟩
                                first
                                | exact congrArg Value.bool (decide_eq_false (fun q => by have := sound_num q; omega)).symm
                                | exact congrArg Value.bool (decide_eq_false (hz1 (by assumption))).symm
                                | exact congrArg Value.bool (decide_eq_false (fun q => by have h8 := sound_num q; have e1 : mof x.k = 1 := (by omega); have h9 := (q.2.2.2.2.2.1 e1).1 _ hmem; omega)).symm
                                | (have hz3 := hz2 (by assumption)
                                   have hh : Mhead x := ⟨by omega, by omega, by omega, by omega, by omega, hz3.1, hz3.2.1, hz3.2.2.1, hz3.2.2.2⟩
                                   have hi9 : i = p.en := by omega
                                   rw [hi9, List.take_of_length_le (by omega)] at hok
                                   have hee : mof x.k = 1 → 1 ≤ x.es.length ∧ x.es.length ≤ 4 := fun e => by omega
                                   first
                                   | exact congrArg Value.bool (decide_eq_decide.2 ((sound_iff' hh hee hok).trans ⟨fun q => by omega, fun q => ⟨by omega, by assumption, by omega, by assumption, by omega, by omega⟩⟩)).symm
                                   | exact congrArg Value.bool (decide_eq_false (fun q => absurd ((sound_iff' hh hee hok).1 q).2.1 (by assumption))).symm
                                   | exact congrArg Value.bool (decide_eq_false (fun q => absurd ((sound_iff' hh hee hok).1 q).2.2.2.1 (by assumption))).symm
                                   | exact congrArg Value.bool (decide_eq_false (fun q => by have := (sound_iff' hh hee hok).1 q; omega)).symm)
                              · skip
                                refine St_skip ?_
                                refine Jm_block_normal (Jm_seq ?_)
                                refine St_region ?_
                                refine Ls_run (run_move rfl) rfl ?_
                                refine Ls_run (run_add rfl rfl (w64 (by omega))) rfl ?_
                                refine Ls_run (run_assign rfl) rfl ?_
                                refine Ls_nil ?_
                                refine Jm_round (i + 1) ?_ ?_ ?_
                                · rw [hEn79]; exact (subE_cons rfl (subE_cons rfl subE_nil))
                                · skip
                                  rw [hIv80]
                                  refine ⟨hs, by omega, fun y hy => ?_⟩
                                  rw [take_snoc3 (d := 0) (by omega)] at hy
                                  rcases List.mem_append.1 hy with q | q
                                  · exact hok y q
                                  · simp only [List.mem_singleton] at q; subst q; omega
                                · skip
                                  rw [hms81, hms81]
                                  omega
                          · skip
                            refine St_exit ?_
                            refine Jm_then_exit (Jm_then_exit (Jm_block_same (Jm_seq ?_)))
                            refine St_seq ?_
                            refine St_region ?_
                            refine Ls_run (run_as (run_field Try.underlying26 rfl inf23 (by decide) rfl) (show _ = Value.pointer (some ⟨b2, 7, none⟩) from rfl)) rfl ?_
                            refine Ls_run (run_load sc23 rfl (hs.blk_at 0 rfl 7 rfl)) rfl ?_
                            refine Ls_run (run_len Try.underlying23 rfl) rfl ?_
                            refine Ls_run (run_leq rfl rfl) rfl ?_
                            refine Ls_run (run_move rfl) rfl ?_
                            refine Ls_partP (t := 126) rfl (fun h93 => ?_) (fun h93 => ?_)
                            · skip
                              refine Ls_on rfl rfl ?_
                              refine Ls_run (run_as (run_field Try.underlying26 rfl inf23 (by decide) rfl) (show _ = Value.pointer (some ⟨b2, 7, none⟩) from rfl)) rfl ?_
                              refine Ls_on rfl rfl ?_
                              refine Ls_run (run_load sc23 rfl (hs.blk_at 0 rfl 7 rfl)) rfl ?_
                              refine Ls_on rfl rfl ?_
                              refine Ls_call Try.func75 nm75 rfl rfl (rRising_c wr p.kA p.kn p.kc x.ks (hm.k.inB hs) hzk) rfl ?_
                              rintro v94 w95 ⟨rfl, hsQ96⟩
                              replace hs := hs.trans hsQ96
                              refine Ls_run (run_pick_t rfl rfl) rfl ?_
                              refine Ls_run (run_move rfl) rfl ?_
                              refine Ls_partP (t := 131) rfl (fun h97 => ?_) (fun h97 => ?_)
                              · skip
                                refine Ls_on rfl rfl ?_
                                refine Ls_run (run_as (run_field Try.underlying26 rfl inf24 (by decide) rfl) (show _ = Value.pointer (some ⟨b2, 8, none⟩) from rfl)) rfl ?_
                                refine Ls_on rfl rfl ?_
                                refine Ls_run (run_load sc24 rfl (hs.blk_at 0 rfl 8 rfl)) rfl ?_
                                refine Ls_on rfl rfl ?_
                                refine Ls_run (run_len Try.underlying24 rfl) rfl ?_
                                refine Ls_on rfl rfl ?_
                                refine Ls_run (run_leq rfl rfl) rfl ?_
                                refine Ls_run (run_pick_t rfl rfl) rfl ?_
                                refine Ls_run (run_move rfl) rfl ?_
                                refine Ls_partP (t := 137) rfl (fun h98 => ?_) (fun h98 => ?_)
                                · skip
                                  refine Ls_on rfl rfl ?_
                                  refine Ls_run (run_as (run_field Try.underlying26 rfl inf24 (by decide) rfl) (show _ = Value.pointer (some ⟨b2, 8, none⟩) from rfl)) rfl ?_
                                  refine Ls_on rfl rfl ?_
                                  refine Ls_run (run_load sc24 rfl (hs.blk_at 0 rfl 8 rfl)) rfl ?_
                                  refine Ls_on rfl rfl ?_
                                  refine Ls_call Try.func76 nm76 rfl rfl (rfSound_c w95 p.pA p.pn p.pc x.ps (hm.p.inB hs) hzp) rfl ?_
                                  rintro v99 w100 ⟨rfl, hsQ101⟩
                                  replace hs := hs.trans hsQ101
                                  refine Ls_run (run_pick_t rfl rfl) rfl ?_
                                  refine Ls_run (run_move rfl) rfl ?_
                                  refine Ls_partP (t := 142) rfl (fun h102 => ?_) (fun h102 => ?_)
                                  · skip
                                    refine Ls_on rfl rfl ?_
                                    refine Ls_run (run_as (run_field Try.underlying26 rfl inf3 (by decide) rfl) (show _ = Value.pointer (some ⟨b2, 5, none⟩) from rfl)) rfl ?_
                                    refine Ls_on rfl rfl ?_
                                    refine Ls_run (run_load sc3 rfl (hs.blk_at 0 rfl 5 rfl)) rfl ?_
                                    refine Ls_on rfl rfl ?_
                                    refine Ls_run (run_geq rfl rfl) rfl ?_
                                    refine Ls_run (run_pick_t rfl rfl) rfl ?_
                                    refine Ls_run (run_move rfl) rfl ?_
                                    refine Ls_partP (t := 147) rfl (fun h103 => ?_) (fun h103 => ?_)
                                    · skip
                                      refine Ls_on rfl rfl ?_
                                      refine Ls_run (run_as (run_field Try.underlying26 rfl inf3 (by decide) rfl) (show _ = Value.pointer (some ⟨b2, 5, none⟩) from rfl)) rfl ?_
                                      refine Ls_on rfl rfl ?_
                                      refine Ls_run (run_load sc3 rfl (hs.blk_at 0 rfl 5 rfl)) rfl ?_
                                      refine Ls_on rfl rfl ?_
                                      refine Ls_run (run_leq rfl rfl) rfl ?_
                                      refine Ls_run (run_pick_t rfl rfl) rfl ?_
                                      refine Ls_run (run_assign rfl) rfl ?_
                                      refine Ls_nil ?_
                                      refine Jm_seq ?_
                                      refine St_ret ?_
                                      refine Jm_ret1 rfl rfl ?_
                                      refine ⟨_, rfl, ?_, hs.forget⟩
                                      first
                                      | exact congrArg Value.bool (decide_eq_false (fun q => by have := sound_num q; omega)).symm
                                      | exact congrArg Value.bool (decide_eq_false (hz1 (by assumption))).symm
                                      | exact congrArg Value.bool (decide_eq_false (fun q => by have h8 := sound_num q; have e1 : mof x.k = 1 := (by omega); have h9 := (q.2.2.2.2.2.1 e1).1 _ hmem; omega)).symm
                                      | (have hz3 := hz2 (by assumption)
                                         have hh : Mhead x := ⟨by omega, by omega, by omega, by omega, by omega, hz3.1, hz3.2.1, hz3.2.2.1, hz3.2.2.2⟩
                                         have hi9 : i = p.en := by omega
                                         rw [hi9, List.take_of_length_le (by omega)] at hok
                                         have hee : mof x.k = 1 → 1 ≤ x.es.length ∧ x.es.length ≤ 4 := fun e => by omega
                                         first
                                         | exact congrArg Value.bool (decide_eq_decide.2 ((sound_iff' hh hee hok).trans ⟨fun q => by omega, fun q => ⟨by omega, by assumption, by omega, by assumption, by omega, by omega⟩⟩)).symm
                                         | exact congrArg Value.bool (decide_eq_false (fun q => absurd ((sound_iff' hh hee hok).1 q).2.1 (by assumption))).symm
                                         | exact congrArg Value.bool (decide_eq_false (fun q => absurd ((sound_iff' hh hee hok).1 q).2.2.2.1 (by assumption))).symm
                                         | exact congrArg Value.bool (decide_eq_false (fun q => by have := (sound_iff' hh hee hok).1 q; omega)).symm)
                                    · skip
                                      refine Ls_off rfl rfl rfl rfl ?_
                                      refine Ls_off rfl rfl rfl rfl ?_
                                      refine Ls_off rfl rfl rfl rfl ?_
                                      refine Ls_run (run_pick_f rfl rfl) rfl ?_
                                      refine Ls_run (run_assign rfl) rfl ?_
                                      refine Ls_nil ?_
                                      refine Jm_seq ?_
                                      refine St_ret ?_
                                      refine Jm_ret1 rfl rfl ?_
                                      refine ⟨_, rfl, ?_, hs.forget⟩
                                      first
                                      | exact congrArg Value.bool (decide_eq_false (fun q => by have := sound_num q; omega)).symm
                                      | exact congrArg Value.bool (decide_eq_false (hz1 (by assumption))).symm
                                      | exact congrArg Value.bool (decide_eq_false (fun q => by have h8 := sound_num q; have e1 : mof x.k = 1 := (by omega); have h9 := (q.2.2.2.2.2.1 e1).1 _ hmem; omega)).symm
                                      | (have hz3 := hz2 (by assumption)
                                         have hh : Mhead x := ⟨by omega, by omega, by omega, by omega, by omega, hz3.1, hz3.2.1, hz3.2.2.1, hz3.2.2.2⟩
                                         have hi9 : i = p.en := by omega
                                         rw [hi9, List.take_of_length_le (by omega)] at hok
                                         have hee : mof x.k = 1 → 1 ≤ x.es.length ∧ x.es.length ≤ 4 := fun e => by omega
                                         first
                                         | exact congrArg Value.bool (decide_eq_decide.2 ((sound_iff' hh hee hok).trans ⟨fun q => by omega, fun q => ⟨by omega, by assumption, by omega, by assumption, by omega, by omega⟩⟩)).symm
                                         | exact congrArg Value.bool (decide_eq_false (fun q => absurd ((sound_iff' hh hee hok).1 q).2.1 (by assumption))).symm
                                         | exact congrArg Value.bool (decide_eq_false (fun q => absurd ((sound_iff' hh hee hok).1 q).2.2.2.1 (by assumption))).symm
                                         | exact congrArg Value.bool (decide_eq_false (fun q => by have := (sound_iff' hh hee hok).1 q; omega)).symm)
                                  · skip
                                    refine Ls_off rfl rfl rfl rfl ?_
                                    refine Ls_off rfl rfl rfl rfl ?_
                                    refine Ls_off rfl rfl rfl rfl ?_
                                    refine Ls_run (run_pick_f rfl rfl) rfl ?_
                                    refine Ls_run (run_move rfl) rfl ?_
                                    refine Ls_off rfl rfl rfl rfl ?_
                                    refine Ls_off rfl rfl rfl rfl ?_
                                    refine Ls_off rfl rfl rfl rfl ?_
                                    refine Ls_run (run_pick_f rfl rfl) rfl ?_
                                    refine Ls_run (run_assign rfl) rfl ?_
                                    refine Ls_nil ?_
                                    refine Jm_seq ?_
                                    refine St_ret ?_
                                    refine Jm_ret1 rfl rfl ?_
                                    refine ⟨_, rfl, ?_, hs.forget⟩
                                    first
                                    | exact congrArg Value.bool (decide_eq_false (fun q => by have := sound_num q; omega)).symm
                                    | exact congrArg Value.bool (decide_eq_false (hz1 (by assumption))).symm
                                    | exact congrArg Value.bool (decide_eq_false (fun q => by have h8 := sound_num q; have e1 : mof x.k = 1 := (by omega); have h9 := (q.2.2.2.2.2.1 e1).1 _ hmem; omega)).symm
                                    | (have hz3 := hz2 (by assumption)
                                       have hh : Mhead x := ⟨by omega, by omega, by omega, by omega, by omega, hz3.1, hz3.2.1, hz3.2.2.1, hz3.2.2.2⟩
                                       have hi9 : i = p.en := by omega
                                       rw [hi9, List.take_of_length_le (by omega)] at hok
                                       have hee : mof x.k = 1 → 1 ≤ x.es.length ∧ x.es.length ≤ 4 := fun e => by omega
                                       first
                                       | exact congrArg Value.bool (decide_eq_decide.2 ((sound_iff' hh hee hok).trans ⟨fun q => by omega, fun q => ⟨by omega, by assumption, by omega, by assumption, by omega, by omega⟩⟩)).symm
                                       | exact congrArg Value.bool (decide_eq_false (fun q => absurd ((sound_iff' hh hee hok).1 q).2.1 (by assumption))).symm
                                       | exact congrArg Value.bool (decide_eq_false (fun q => absurd ((sound_iff' hh hee hok).1 q).2.2.2.1 (by assumption))).symm
                                       | exact congrArg Value.bool (decide_eq_false (fun q => by have := (sound_iff' hh hee hok).1 q; omega)).symm)
                                · skip
                                  refine Ls_off rfl rfl rfl rfl ?_
                                  refine Ls_off rfl rfl rfl rfl ?_
                                  refine Ls_off rfl rfl rfl rfl ?_
                                  refine Ls_run (run_pick_f rfl rfl) rfl ?_
                                  refine Ls_run (run_move rfl) rfl ?_
                                  refine Ls_off rfl rfl rfl rfl ?_
                                  refine Ls_off rfl rfl rfl rfl ?_
                                  refine Ls_off rfl rfl rfl rfl ?_
                                  refine Ls_run (run_pick_f rfl rfl) rfl ?_
                                  refine Ls_run (run_move rfl) rfl ?_
                                  refine Ls_off rfl rfl rfl rfl ?_
                                  refine Ls_off rfl rfl rfl rfl ?_
                                  refine Ls_off rfl rfl rfl rfl ?_
                                  refine Ls_run (run_pick_f rfl rfl) rfl ?_
                                  refine Ls_run (run_assign rfl) rfl ?_
                                  refine Ls_nil ?_
                                  refine Jm_seq ?_
                                  refine St_ret ?_
                                  refine Jm_ret1 rfl rfl ?_
                                  refine ⟨_, rfl, ?_, hs.forget⟩
                                  first
                                  | exact congrArg Value.bool (decide_eq_false (fun q => by have := sound_num q; omega)).symm
                                  | exact congrArg Value.bool (decide_eq_false (hz1 (by assumption))).symm
                                  | exact congrArg Value.bool (decide_eq_false (fun q => by have h8 := sound_num q; have e1 : mof x.k = 1 := (by omega); have h9 := (q.2.2.2.2.2.1 e1).1 _ hmem; omega)).symm
                                  | (have hz3 := hz2 (by assumption)
                                     have hh : Mhead x := ⟨by omega, by omega, by omega, by omega, by omega, hz3.1, hz3.2.1, hz3.2.2.1, hz3.2.2.2⟩
                                     have hi9 : i = p.en := by omega
                                     rw [hi9, List.take_of_length_le (by omega)] at hok
                                     have hee : mof x.k = 1 → 1 ≤ x.es.length ∧ x.es.length ≤ 4 := fun e => by omega
                                     first
                                     | exact congrArg Value.bool (decide_eq_decide.2 ((sound_iff' hh hee hok).trans ⟨fun q => by omega, fun q => ⟨by omega, by assumption, by omega, by assumption, by omega, by omega⟩⟩)).symm
                                     | exact congrArg Value.bool (decide_eq_false (fun q => absurd ((sound_iff' hh hee hok).1 q).2.1 (by assumption))).symm
                                     | exact congrArg Value.bool (decide_eq_false (fun q => absurd ((sound_iff' hh hee hok).1 q).2.2.2.1 (by assumption))).symm
                                     | exact congrArg Value.bool (decide_eq_false (fun q => by have := (sound_iff' hh hee hok).1 q; omega)).symm)
                              · skip
                                refine Ls_off rfl rfl rfl rfl ?_
                                refine Ls_off rfl rfl rfl rfl ?_
                                refine Ls_off rfl rfl rfl rfl ?_
                                refine Ls_off rfl rfl rfl rfl ?_
                                refine Ls_run (run_pick_f rfl rfl) rfl ?_
                                refine Ls_run (run_move rfl) rfl ?_
                                refine Ls_off rfl rfl rfl rfl ?_
                                refine Ls_off rfl rfl rfl rfl ?_
                                refine Ls_off rfl rfl rfl rfl ?_
                                refine Ls_run (run_pick_f rfl rfl) rfl ?_
                                refine Ls_run (run_move rfl) rfl ?_
                                refine Ls_off rfl rfl rfl rfl ?_
                                refine Ls_off rfl rfl rfl rfl ?_
                                refine Ls_off rfl rfl rfl rfl ?_
                                refine Ls_run (run_pick_f rfl rfl) rfl ?_
                                refine Ls_run (run_move rfl) rfl ?_
                                refine Ls_off rfl rfl rfl rfl ?_
                                refine Ls_off rfl rfl rfl rfl ?_
                                refine Ls_off rfl rfl rfl rfl ?_
                                refine Ls_run (run_pick_f rfl rfl) rfl ?_
                                refine Ls_run (run_assign rfl) rfl ?_
                                refine Ls_nil ?_
                                refine Jm_seq ?_
                                refine St_ret ?_
                                refine Jm_ret1 rfl rfl ?_
                                refine ⟨_, rfl, ?_, hs.forget⟩
                                first
                                | exact congrArg Value.bool (decide_eq_false (fun q => by have := sound_num q; omega)).symm
                                | exact congrArg Value.bool (decide_eq_false (hz1 (by assumption))).symm
                                | exact congrArg Value.bool (decide_eq_false (fun q => by have h8 := sound_num q; have e1 : mof x.k = 1 := (by omega); have h9 := (q.2.2.2.2.2.1 e1).1 _ hmem; omega)).symm
                                | (have hz3 := hz2 (by assumption)
                                   have hh : Mhead x := ⟨by omega, by omega, by omega, by omega, by omega, hz3.1, hz3.2.1, hz3.2.2.1, hz3.2.2.2⟩
                                   have hi9 : i = p.en := by omega
                                   rw [hi9, List.take_of_length_le (by omega)] at hok
                                   have hee : mof x.k = 1 → 1 ≤ x.es.length ∧ x.es.length ≤ 4 := fun e => by omega
                                   first
                                   | exact congrArg Value.bool (decide_eq_decide.2 ((sound_iff' hh hee hok).trans ⟨fun q => by omega, fun q => ⟨by omega, by assumption, by omega, by assumption, by omega, by omega⟩⟩)).symm
                                   | exact congrArg Value.bool (decide_eq_false (fun q => absurd ((sound_iff' hh hee hok).1 q).2.1 (by assumption))).symm
                                   | exact congrArg Value.bool (decide_eq_false (fun q => absurd ((sound_iff' hh hee hok).1 q).2.2.2.1 (by assumption))).symm
                                   | exact congrArg Value.bool (decide_eq_false (fun q => by have := (sound_iff' hh hee hok).1 q; omega)).symm)
                            · skip
                              refine Ls_off rfl rfl rfl rfl ?_
                              refine Ls_off rfl rfl rfl rfl ?_
                              refine Ls_off rfl rfl rfl rfl ?_
                              refine Ls_run (run_pick_f rfl rfl) rfl ?_
                              refine Ls_run (run_move rfl) rfl ?_
                              refine Ls_off rfl rfl rfl rfl ?_
                              refine Ls_off rfl rfl rfl rfl ?_
                              refine Ls_off rfl rfl rfl rfl ?_
                              refine Ls_off rfl rfl rfl rfl ?_
                              refine Ls_run (run_pick_f rfl rfl) rfl ?_
                              refine Ls_run (run_move rfl) rfl ?_
                              refine Ls_off rfl rfl rfl rfl ?_
                              refine Ls_off rfl rfl rfl rfl ?_
                              refine Ls_off rfl rfl rfl rfl ?_
                              refine Ls_run (run_pick_f rfl rfl) rfl ?_
                              refine Ls_run (run_move rfl) rfl ?_
                              refine Ls_off rfl rfl rfl rfl ?_
                              refine Ls_off rfl rfl rfl rfl ?_
                              refine Ls_off rfl rfl rfl rfl ?_
                              refine Ls_run (run_pick_f rfl rfl) rfl ?_
                              refine Ls_run (run_move rfl) rfl ?_
                              refine Ls_off rfl rfl rfl rfl ?_
                              refine Ls_off rfl rfl rfl rfl ?_
                              refine Ls_off rfl rfl rfl rfl ?_
                              refine Ls_run (run_pick_f rfl rfl) rfl ?_
                              refine Ls_run (run_assign rfl) rfl ?_
                              refine Ls_nil ?_
                              refine Jm_seq ?_
                              refine St_ret ?_
                              refine Jm_ret1 rfl rfl ?_
                              refine ⟨_, rfl, ?_, hs.forget⟩
                              first
                              | exact congrArg Value.bool (decide_eq_false (fun q => by have := sound_num q; omega)).symm
                              | exact congrArg Value.bool (decide_eq_false (hz1 (by assumption))).symm
                              | exact congrArg Value.bool (decide_eq_false (fun q => by have h8 := sound_num q; have e1 : mof x.k = 1 := (by omega); have h9 := (q.2.2.2.2.2.1 e1).1 _ hmem; omega)).symm
                              | (have hz3 := hz2 (by assumption)
                                 have hh : Mhead x := ⟨by omega, by omega, by omega, by omega, by omega, hz3.1, hz3.2.1, hz3.2.2.1, hz3.2.2.2⟩
                                 have hi9 : i = p.en := by omega
                                 rw [hi9, List.take_of_length_le (by omega)] at hok
                                 have hee : mof x.k = 1 → 1 ≤ x.es.length ∧ x.es.length ≤ 4 := fun e => by omega
                                 first
                                 | exact congrArg Value.bool (decide_eq_decide.2 ((sound_iff' hh hee hok).trans ⟨fun q => by omega, fun q => ⟨by omega, by assumption, by omega, by assumption, by omega, by omega⟩⟩)).symm
                                 | exact congrArg Value.bool (decide_eq_false (fun q => absurd ((sound_iff' hh hee hok).1 q).2.1 (by assumption))).symm
                                 | exact congrArg Value.bool (decide_eq_false (fun q => absurd ((sound_iff' hh hee hok).1 q).2.2.2.1 (by assumption))).symm
                                 | exact congrArg Value.bool (decide_eq_false (fun q => by have := (sound_iff' hh hee hok).1 q; omega)).symm)
end Go.Proofs.Ytipkfdeiallifaa.Lg
