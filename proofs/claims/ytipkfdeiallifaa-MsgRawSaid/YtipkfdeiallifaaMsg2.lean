/-
  Sound, the reference's Sound, and whether two messages are the same. By program (gen/msg2.py).
-/
import Derived.Test.YtipkfdeiallifaaMsg1
set_option linter.unusedVariables false
set_option linter.unusedSimpArgs false
namespace Go.Proofs.Ytipkfdeiallifaa.Lg
open Go Go.RowKit Go.Proofs.Ytipkfdeiallifaa.WirePure
theorem tf : ¬ (true = false) := by simp
theorem ft : ¬ (false = true) := by simp
theorem sound_num {x : MC} (h : Msound x) : mof x.k ≠ 0 ∧ (0 ≤ x.f ∧ x.f ≤ 8) ∧ (0 ≤ x.t ∧ x.t ≤ 8) ∧ (1 ≤ x.b ∧ x.b ≤ 1099511627776) ∧ (1 ≤ x.a ∧ x.a ≤ 1099511627776) ∧
    (mof x.k = 1 ∨ x.es.length = 0) ∧ (x.es.length ≤ 4) ∧ (mof x.k ≠ 1 ∨ 1 ≤ x.es.length) ∧ (mof x.k = 2 ∨ x.ks.length = 0) ∧ x.ks.length ≤ 64 ∧ (mof x.k = 3 ∨ x.ps.length = 0) ∧ x.ps.length ≤ 64 ∧ (mof x.k = 4 ∨ x.c = 0) ∧ (0 ≤ x.c ∧ x.c ≤ 1000) := by
  obtain ⟨h0, hf, ht, hb, ha, h1, n1, h2, n2, h3, n3, h4, n4⟩ := h
  have e1 : mof x.k = 1 → 1 ≤ x.es.length ∧ x.es.length ≤ 4 := fun q => (h1 q).2
  have e2 : mof x.k = 2 → x.ks.length ≤ 64 := fun q => (h2 q).1
  have e3 : mof x.k = 3 → x.ps.length ≤ 64 := fun q => (h3 q).1
  have m1 : mof x.k ≠ 1 → x.es.length = 0 := fun q => by rw [n1 q]; rfl
  have m2 : mof x.k ≠ 2 → x.ks.length = 0 := fun q => by rw [n2 q]; rfl
  have m3 : mof x.k ≠ 3 → x.ps.length = 0 := fun q => by rw [n3 q]; rfl
  refine ⟨h0, hf, ht, hb, ha, ?_, ?_, ?_, ?_, ?_, ?_, ?_, ?_, ?_⟩
  all_goals omega
def Mhead (x : MC) : Prop := mof x.k ≠ 0 ∧ (0 ≤ x.f ∧ x.f ≤ 8) ∧ (0 ≤ x.t ∧ x.t ≤ 8) ∧ (1 ≤ x.b ∧ x.b ≤ 1099511627776) ∧ (1 ≤ x.a ∧ x.a ≤ 1099511627776) ∧
    (mof x.k = 1 ∨ x.es.length = 0) ∧ (mof x.k = 2 ∨ x.ks.length = 0) ∧ (mof x.k = 3 ∨ x.ps.length = 0) ∧ (mof x.k = 4 ∨ x.c = 0)
theorem sound_iff {x : MC} (h : Mhead x) : Msound x ↔ (mof x.k = 1 → endsOk x.es) ∧ (mof x.k = 2 → x.ks.length ≤ 64 ∧ risesOk x.ks) ∧ (mof x.k = 3 → x.ps.length ≤ 64 ∧ pairsOk x.ps) ∧ (mof x.k = 4 → 0 ≤ x.c ∧ x.c ≤ 1000) := by
  obtain ⟨h0, hf, ht, hb, ha, m1, m2, m3, m4⟩ := h
  refine ⟨fun q => ?_, fun q => by
    obtain ⟨q1, q2, q3, q4⟩ := q
    exact ⟨h0, hf, ht, hb, ha, q1, fun q => List.length_eq_zero_iff.1 (by omega), q2, fun q => List.length_eq_zero_iff.1 (by omega), q3, fun q => List.length_eq_zero_iff.1 (by omega), q4, fun q => by omega⟩⟩
  obtain ⟨_, _, _, _, _, h1, _, h2, _, h3, _, h4, _⟩ := q
  exact ⟨h1, h2, h3, h4⟩
theorem endsOk_iff {l : List Int} : endsOk l ↔ (∀ y ∈ l, 0 ≤ y ∧ y ≤ 256) ∧ 1 ≤ l.length ∧ l.length ≤ 4 := Iff.rfl
theorem rises_nil {l : List Int} (h : l.length = 0) : risesOk l := fun i hi => by omega
theorem pairs_nil {l : List Pr} (h : l.length = 0) : pairsOk l := ⟨fun y hy => by rw [List.length_eq_zero_iff.1 h] at hy; simp at hy, fun i hi => by omega⟩
/-- The reference's way to say it. -/
theorem sound_iff' {x : MC} (h : Mhead x) (h1 : mof x.k = 1 → 1 ≤ x.es.length ∧ x.es.length ≤ 4) (h2 : ∀ y ∈ x.es, 0 ≤ y ∧ y ≤ 256) : Msound x ↔ x.ks.length ≤ 64 ∧ risesOk x.ks ∧ x.ps.length ≤ 64 ∧ pairsOk x.ps ∧ 0 ≤ x.c ∧ x.c ≤ 1000 := by
  rw [sound_iff h]
  obtain ⟨h0, hf, ht, hb, ha, m1, m2, m3, m4⟩ := h
  have hr := mof_range x.k
  constructor
  · rintro ⟨_, q2, q3, q4⟩
    refine ⟨?_, ?_, ?_, ?_, ?_⟩
    · by_cases e : mof x.k = 2
      · exact (q2 e).1
      · omega
    · by_cases e : mof x.k = 2
      · exact (q2 e).2
      · exact rises_nil (by omega)
    · by_cases e : mof x.k = 3
      · exact (q3 e).1
      · omega
    · by_cases e : mof x.k = 3
      · exact (q3 e).2
      · exact pairs_nil (by omega)
    · omega
  · rintro ⟨q1, q2, q3, q4, q5⟩
    exact ⟨fun e => ⟨h2, h1 e⟩, fun e => ⟨q1, q2⟩, fun e => ⟨q3, q4⟩, fun e => q5⟩
set_option maxRecDepth 100000 in
set_option maxHeartbeats 1000000 in
theorem Sound_c (w : World) (x : MC) (p : MP) (hm : MRd w x p) (hze : p.en ≤ 9223372036854775807) (hzk : p.kn ≤ 9223372036854775807) (hzp : p.pn ≤ 9223372036854775807) :
    Calls Try.prog 18 [.agg #[.int .i64 x.k, .int .i64 x.f, .int .i64 x.t, .int .i64 x.b, .int .i64 x.a, .int .i64 x.c, .slice p.eA p.en p.ec, .slice p.kA p.kn p.kc, .slice p.pA p.pn p.pc]].toArray w (Ret (fun v' w' => v' = .bool (decide (Msound x)) ∧ Sat w w' [])) := by
  have hs := Sat.start w
  have hen := hm.en
  have hkn := hm.kn
  have hpn := hm.pn
  have hmr := mof_range x.k
  refine Calls_body Try.func18 rfl rfl rfl (envE_cons (i := 0) (v := .agg #[.int .i64 x.k, .int .i64 x.f, .int .i64 x.t, .int .i64 x.b, .int .i64 x.a, .int .i64 x.c, .slice p.eA p.en p.ec, .slice p.kA p.kn p.kc, .slice p.pA p.pn p.pc]) rfl envE_nil) ?_
  refine St_seq ?_
  refine St_region ?_
  refine Ls_box hs rfl rfl ?_
  intro b2 w1 hs
  refine Ls_run (run_assign rfl) rfl ?_
  refine Ls_nil ?_
  refine Jm_seq ?_
  refine St_seq ?_
  refine St_region ?_
  refine Ls_run (run_as (run_field Try.underlying26 rfl inf3 (by decide) rfl) (show _ = Value.pointer (some ⟨b2, 0, none⟩) from rfl)) rfl ?_
  refine Ls_run (run_load sc3 rfl (hs.blk_at 0 rfl 0 rfl)) rfl ?_
  refine Ls_call Try.func63 nm63 rfl rfl (of_c w1 x.k) rfl ?_
  rintro v3 w4 ⟨rfl, rfl⟩
  refine Ls_run (run_assign rfl) rfl ?_
  refine Ls_nil ?_
  refine Jm_seq ?_
  refine St_seq ?_
  refine St_block ?_
  refine St_seq ?_
  refine St_region ?_
  refine Ls_run (run_move rfl) rfl ?_
  refine Ls_run (run_eql rfl rfl) rfl ?_
  refine Ls_run (run_move rfl) rfl ?_
  refine Ls_partP (t := 10) rfl (fun h5 => ?_) (fun h5 => ?_)
  · skip
    refine Ls_off rfl rfl rfl rfl ?_
    refine Ls_off rfl rfl rfl rfl ?_
    refine Ls_off rfl rfl rfl rfl ?_
    refine Ls_off rfl rfl rfl rfl ?_
    refine Ls_run (run_pick_t rfl rfl) rfl ?_
    refine Ls_run (run_move rfl) rfl ?_
    refine Ls_off rfl rfl rfl rfl ?_
    refine Ls_off rfl rfl rfl rfl ?_
    refine Ls_off rfl rfl rfl rfl ?_
    refine Ls_off rfl rfl rfl rfl ?_
    refine Ls_run (run_pick_t rfl rfl) rfl ?_
    refine Ls_run (run_assign rfl) rfl ?_
    refine Ls_nil ?_
    refine Jm_seq ?_
    refine St_ift rfl ?_
    refine St_seq ?_
    refine St_region ?_
    refine Ls_run (run_assign rfl) rfl ?_
    refine Ls_nil ?_
    refine Jm_seq ?_
    refine St_ret ?_
    refine Jm_block_ret (Jm_then_ret  ?_)
    refine Jm_ret1 rfl rfl ?_
    refine ⟨_, rfl, ?_, hs.forget⟩
    first
    | exact congrArg Value.bool (decide_eq_false (fun q => by have := sound_num q; omega)).symm
    | exact congrArg Value.bool (decide_eq_false (hz1 (by assumption))).symm
    | (have hz3 := hz2 (by assumption)
       have hh : Mhead x := ⟨by omega, by omega, by omega, by omega, by omega, hz3.1, hz3.2.1, hz3.2.2.1, hz3.2.2.2⟩
       refine congrArg Value.bool (decide_eq_decide.2 ?_)
       rw [sound_iff hh]
       first
       | exact ⟨fun q => ⟨fun _ => q, fun e => by omega, fun e => by omega, fun e => by omega⟩, fun q => q.1 (by omega)⟩
       | exact ⟨fun q => ⟨fun e => by omega, fun _ => ⟨by omega, q⟩, fun e => by omega, fun e => by omega⟩, fun q => (q.2.1 (by omega)).2⟩
       | exact ⟨fun q => ⟨fun e => by omega, fun e => by omega, fun _ => ⟨by omega, q⟩, fun e => by omega⟩, fun q => (q.2.2.1 (by omega)).2⟩
       | exact ⟨fun q => ⟨fun e => by omega, fun e => by omega, fun e => by omega, fun _ => q⟩, fun q => q.2.2.2 (by omega)⟩)
  · skip
    refine Ls_on rfl rfl ?_
    refine Ls_run (run_as (run_field Try.underlying26 rfl inf3 (by decide) rfl) (show _ = Value.pointer (some ⟨b2, 1, none⟩) from rfl)) rfl ?_
    refine Ls_on rfl rfl ?_
    refine Ls_run (run_load sc3 rfl (hs.blk_at 0 rfl 1 rfl)) rfl ?_
    refine Ls_on rfl rfl ?_
    refine Ls_call Try.func71 nm71 rfl rfl (within_c w1 0 x.f 8) rfl ?_
    rintro v7 w9 ⟨rfl, rfl⟩
    refine Ls_on rfl rfl ?_
    refine Ls_run (run_not rfl) rfl ?_
    refine Ls_run (run_pick_f rfl rfl) rfl ?_
    refine Ls_run (run_move rfl) rfl ?_
    refine Ls_partN (t := 16) rfl (fun h10 => ?_) (fun h10 => ?_)
    · skip
      refine Ls_off rfl rfl rfl rfl ?_
      refine Ls_off rfl rfl rfl rfl ?_
      refine Ls_off rfl rfl rfl rfl ?_
      refine Ls_off rfl rfl rfl rfl ?_
      refine Ls_run (run_pick_t rfl rfl) rfl ?_
      refine Ls_run (run_assign rfl) rfl ?_
      refine Ls_nil ?_
      refine Jm_seq ?_
      refine St_ift rfl ?_
      refine St_seq ?_
      refine St_region ?_
      refine Ls_run (run_assign rfl) rfl ?_
      refine Ls_nil ?_
      refine Jm_seq ?_
      refine St_ret ?_
      refine Jm_block_ret (Jm_then_ret  ?_)
      refine Jm_ret1 rfl rfl ?_
      refine ⟨_, rfl, ?_, hs.forget⟩
      first
      | exact congrArg Value.bool (decide_eq_false (fun q => by have := sound_num q; omega)).symm
      | exact congrArg Value.bool (decide_eq_false (hz1 (by assumption))).symm
      | (have hz3 := hz2 (by assumption)
         have hh : Mhead x := ⟨by omega, by omega, by omega, by omega, by omega, hz3.1, hz3.2.1, hz3.2.2.1, hz3.2.2.2⟩
         refine congrArg Value.bool (decide_eq_decide.2 ?_)
         rw [sound_iff hh]
         first
         | exact ⟨fun q => ⟨fun _ => q, fun e => by omega, fun e => by omega, fun e => by omega⟩, fun q => q.1 (by omega)⟩
         | exact ⟨fun q => ⟨fun e => by omega, fun _ => ⟨by omega, q⟩, fun e => by omega, fun e => by omega⟩, fun q => (q.2.1 (by omega)).2⟩
         | exact ⟨fun q => ⟨fun e => by omega, fun e => by omega, fun _ => ⟨by omega, q⟩, fun e => by omega⟩, fun q => (q.2.2.1 (by omega)).2⟩
         | exact ⟨fun q => ⟨fun e => by omega, fun e => by omega, fun e => by omega, fun _ => q⟩, fun q => q.2.2.2 (by omega)⟩)
    · skip
      refine Ls_on rfl rfl ?_
      refine Ls_run (run_as (run_field Try.underlying26 rfl inf3 (by decide) rfl) (show _ = Value.pointer (some ⟨b2, 2, none⟩) from rfl)) rfl ?_
      refine Ls_on rfl rfl ?_
      refine Ls_run (run_load sc3 rfl (hs.blk_at 0 rfl 2 rfl)) rfl ?_
      refine Ls_on rfl rfl ?_
      refine Ls_call Try.func71 nm71 rfl rfl (within_c w1 0 x.t 8) rfl ?_
      rintro v12 w13 ⟨rfl, rfl⟩
      refine Ls_on rfl rfl ?_
      refine Ls_run (run_not rfl) rfl ?_
      refine Ls_run (run_pick_f rfl rfl) rfl ?_
      refine Ls_run (run_assign rfl) rfl ?_
      refine Ls_nil ?_
      refine Jm_seq ?_
      refine St_ifN rfl (fun h14 => ?_) (fun h14 => ?_)
      · skip
        refine St_seq ?_
        refine St_region ?_
        refine Ls_run (run_assign rfl) rfl ?_
        refine Ls_nil ?_
        refine Jm_seq ?_
        refine St_ret ?_
        refine Jm_block_ret (Jm_then_ret  ?_)
        refine Jm_ret1 rfl rfl ?_
        refine ⟨_, rfl, ?_, hs.forget⟩
        first
        | exact congrArg Value.bool (decide_eq_false (fun q => by have := sound_num q; omega)).symm
        | exact congrArg Value.bool (decide_eq_false (hz1 (by assumption))).symm
        | (have hz3 := hz2 (by assumption)
           have hh : Mhead x := ⟨by omega, by omega, by omega, by omega, by omega, hz3.1, hz3.2.1, hz3.2.2.1, hz3.2.2.2⟩
           refine congrArg Value.bool (decide_eq_decide.2 ?_)
           rw [sound_iff hh]
           first
           | exact ⟨fun q => ⟨fun _ => q, fun e => by omega, fun e => by omega, fun e => by omega⟩, fun q => q.1 (by omega)⟩
           | exact ⟨fun q => ⟨fun e => by omega, fun _ => ⟨by omega, q⟩, fun e => by omega, fun e => by omega⟩, fun q => (q.2.1 (by omega)).2⟩
           | exact ⟨fun q => ⟨fun e => by omega, fun e => by omega, fun _ => ⟨by omega, q⟩, fun e => by omega⟩, fun q => (q.2.2.1 (by omega)).2⟩
           | exact ⟨fun q => ⟨fun e => by omega, fun e => by omega, fun e => by omega, fun _ => q⟩, fun q => q.2.2.2 (by omega)⟩)
      · skip
        refine St_seq ?_
        refine St_region ?_
        refine Ls_run (run_as (run_field Try.underlying26 rfl inf3 (by decide) rfl) (show _ = Value.pointer (some ⟨b2, 3, none⟩) from rfl)) rfl ?_
        refine Ls_run (run_load sc3 rfl (hs.blk_at 0 rfl 3 rfl)) rfl ?_
        refine Ls_call Try.func71 nm71 rfl rfl (within_c w1 1 x.b 1099511627776) rfl ?_
        rintro v15 w16 ⟨rfl, rfl⟩
        refine Ls_run (run_not rfl) rfl ?_
        refine Ls_run (run_move rfl) rfl ?_
        refine Ls_partN (t := 27) rfl (fun h17 => ?_) (fun h17 => ?_)
        · skip
          refine Ls_off rfl rfl rfl rfl ?_
          refine Ls_off rfl rfl rfl rfl ?_
          refine Ls_off rfl rfl rfl rfl ?_
          refine Ls_off rfl rfl rfl rfl ?_
          refine Ls_run (run_pick_t rfl rfl) rfl ?_
          refine Ls_run (run_assign rfl) rfl ?_
          refine Ls_nil ?_
          refine Jm_seq ?_
          refine St_ift rfl ?_
          refine St_seq ?_
          refine St_region ?_
          refine Ls_run (run_assign rfl) rfl ?_
          refine Ls_nil ?_
          refine Jm_seq ?_
          refine St_ret ?_
          refine Jm_block_ret (Jm_then_ret  ?_)
          refine Jm_ret1 rfl rfl ?_
          refine ⟨_, rfl, ?_, hs.forget⟩
          first
          | exact congrArg Value.bool (decide_eq_false (fun q => by have := sound_num q; omega)).symm
          | exact congrArg Value.bool (decide_eq_false (hz1 (by assumption))).symm
          | (have hz3 := hz2 (by assumption)
             have hh : Mhead x := ⟨by omega, by omega, by omega, by omega, by omega, hz3.1, hz3.2.1, hz3.2.2.1, hz3.2.2.2⟩
             refine congrArg Value.bool (decide_eq_decide.2 ?_)
             rw [sound_iff hh]
             first
             | exact ⟨fun q => ⟨fun _ => q, fun e => by omega, fun e => by omega, fun e => by omega⟩, fun q => q.1 (by omega)⟩
             | exact ⟨fun q => ⟨fun e => by omega, fun _ => ⟨by omega, q⟩, fun e => by omega, fun e => by omega⟩, fun q => (q.2.1 (by omega)).2⟩
             | exact ⟨fun q => ⟨fun e => by omega, fun e => by omega, fun _ => ⟨by omega, q⟩, fun e => by omega⟩, fun q => (q.2.2.1 (by omega)).2⟩
             | exact ⟨fun q => ⟨fun e => by omega, fun e => by omega, fun e => by omega, fun _ => q⟩, fun q => q.2.2.2 (by omega)⟩)
        · skip
          refine Ls_on rfl rfl ?_
          refine Ls_run (run_as (run_field Try.underlying26 rfl inf3 (by decide) rfl) (show _ = Value.pointer (some ⟨b2, 4, none⟩) from rfl)) rfl ?_
          refine Ls_on rfl rfl ?_
          refine Ls_run (run_load sc3 rfl (hs.blk_at 0 rfl 4 rfl)) rfl ?_
          refine Ls_on rfl rfl ?_
          refine Ls_call Try.func71 nm71 rfl rfl (within_c w1 1 x.a 1099511627776) rfl ?_
          rintro v19 w20 ⟨rfl, rfl⟩
          refine Ls_on rfl rfl ?_
          refine Ls_run (run_not rfl) rfl ?_
          refine Ls_run (run_pick_f rfl rfl) rfl ?_
          refine Ls_run (run_assign rfl) rfl ?_
          refine Ls_nil ?_
          refine Jm_seq ?_
          refine St_ifN rfl (fun h21 => ?_) (fun h21 => ?_)
          · skip
            refine St_seq ?_
            refine St_region ?_
            refine Ls_run (run_assign rfl) rfl ?_
            refine Ls_nil ?_
            refine Jm_seq ?_
            refine St_ret ?_
            refine Jm_block_ret (Jm_then_ret  ?_)
            refine Jm_ret1 rfl rfl ?_
            refine ⟨_, rfl, ?_, hs.forget⟩
            first
            | exact congrArg Value.bool (decide_eq_false (fun q => by have := sound_num q; omega)).symm
            | exact congrArg Value.bool (decide_eq_false (hz1 (by assumption))).symm
            | (have hz3 := hz2 (by assumption)
               have hh : Mhead x := ⟨by omega, by omega, by omega, by omega, by omega, hz3.1, hz3.2.1, hz3.2.2.1, hz3.2.2.2⟩
               refine congrArg Value.bool (decide_eq_decide.2 ?_)
               rw [sound_iff hh]
               first
               | exact ⟨fun q => ⟨fun _ => q, fun e => by omega, fun e => by omega, fun e => by omega⟩, fun q => q.1 (by omega)⟩
               | exact ⟨fun q => ⟨fun e => by omega, fun _ => ⟨by omega, q⟩, fun e => by omega, fun e => by omega⟩, fun q => (q.2.1 (by omega)).2⟩
               | exact ⟨fun q => ⟨fun e => by omega, fun e => by omega, fun _ => ⟨by omega, q⟩, fun e => by omega⟩, fun q => (q.2.2.1 (by omega)).2⟩
               | exact ⟨fun q => ⟨fun e => by omega, fun e => by omega, fun e => by omega, fun _ => q⟩, fun q => q.2.2.2 (by omega)⟩)
          · skip
            refine St_seq ?_
            refine St_seq ?_
            refine St_region ?_
            refine Ls_run (run_move rfl) rfl ?_
            refine Ls_run (run_neq rfl rfl) rfl ?_
            refine Ls_run (run_move rfl) rfl ?_
            refine Ls_partP (t := 36) rfl (fun h22 => ?_) (fun h22 => ?_)
            · skip
              refine Ls_on rfl rfl ?_
              refine Ls_run (run_as (run_field Try.underlying26 rfl inf22 (by decide) rfl) (show _ = Value.pointer (some ⟨b2, 6, none⟩) from rfl)) rfl ?_
              refine Ls_on rfl rfl ?_
              refine Ls_run (run_load sc22 rfl (hs.blk_at 0 rfl 6 rfl)) rfl ?_
              refine Ls_on rfl rfl ?_
              refine Ls_run (run_len Try.underlying22 rfl) rfl ?_
              refine Ls_on rfl rfl ?_
              refine Ls_run (run_gtr rfl rfl) rfl ?_
              refine Ls_run (run_pick_t rfl rfl) rfl ?_
              refine Ls_run (run_assign rfl) rfl ?_
              refine Ls_nil ?_
              refine Jm_seq ?_
              obtain ⟨En23, hEn23⟩ : ∃ F : Bool → Env, ∀ (z : Bool), F z = [(1, .pointer (some ⟨b2, 0, none⟩)), (3, .int .i64 (mof x.k)), (33, .bool z)] := ⟨(fun (z : Bool) => [(1, .pointer (some ⟨b2, 0, none⟩)), (3, .int .i64 (mof x.k)), (33, .bool z)]), fun _ => rfl⟩
              obtain ⟨Iv24, hIv24⟩ : ∃ F : Bool → World → Prop, ∀ (z : Bool) (w25 : World), F z w25 = (Sat w w25 [Blk b2 [.int .i64 x.k, .int .i64 x.f, .int .i64 x.t, .int .i64 x.b, .int .i64 x.a, .int .i64 x.c, .slice p.eA p.en p.ec, .slice p.kA p.kn p.kc, .slice p.pA p.pn p.pc] 26] ∧ (z = true → ¬ Msound x) ∧ (z = false → (mof x.k = 1 ∨ x.es.length = 0) ∧ (mof x.k = 2 ∨ x.ks.length = 0) ∧ (mof x.k = 3 ∨ x.ps.length = 0) ∧ (mof x.k = 4 ∨ x.c = 0))) := ⟨(fun (z : Bool) => fun (w25 : World) => Sat w w25 [Blk b2 [.int .i64 x.k, .int .i64 x.f, .int .i64 x.t, .int .i64 x.b, .int .i64 x.a, .int .i64 x.c, .slice p.eA p.en p.ec, .slice p.kA p.kn p.kc, .slice p.pA p.pn p.pc] 26] ∧ (z = true → ¬ Msound x) ∧ (z = false → (mof x.k = 1 ∨ x.es.length = 0) ∧ (mof x.k = 2 ∨ x.ks.length = 0) ∧ (mof x.k = 3 ∨ x.ps.length = 0) ∧ (mof x.k = 4 ∨ x.c = 0))), fun _ _ => rfl⟩
              refine St_join En23 Iv24 ?_ ?_
              · skip
                refine St_ifPK rfl (fun h26 => ?_) (fun h26 => ?_)
                · skip
                  refine St_skip ?_
                  refine Jm_join true ?_ ?_
                  · rw [hEn23]; exact (subE_cons rfl (subE_cons rfl (subE_cons rfl subE_nil)))
                  · skip
                    rw [hIv24]
                    first
                    | exact ⟨hs, fun _ q => by have := sound_num q; omega, (fun h => absurd h tf)⟩
                    | exact ⟨hs, hz1, hz2⟩
                    | exact ⟨hs, (fun h => absurd h ft), fun _ => ⟨by omega, by omega, by omega, by omega⟩⟩
                    | exact ⟨hs, fun h q => by have h2 := of_decide_eq_true h; have := sound_num q; omega, fun h => by have h2 := of_decide_eq_false h; exact ⟨by omega, by omega, by omega, by omega⟩⟩
                    | (refine ⟨hs, (fun h => absurd h ft), fun _ => ?_⟩; exact ⟨by omega, by omega, by omega, by omega⟩)
                · skip
                  refine St_seq ?_
                  refine St_region ?_
                  refine Ls_run (run_move rfl) rfl ?_
                  refine Ls_run (run_neq rfl rfl) rfl ?_
                  refine Ls_run (run_move rfl) rfl ?_
                  refine Ls_partP (t := 44) rfl (fun h27 => ?_) (fun h27 => ?_)
                  · skip
                    refine Ls_on rfl rfl ?_
                    refine Ls_run (run_as (run_field Try.underlying26 rfl inf23 (by decide) rfl) (show _ = Value.pointer (some ⟨b2, 7, none⟩) from rfl)) rfl ?_
                    refine Ls_on rfl rfl ?_
                    refine Ls_run (run_load sc23 rfl (hs.blk_at 0 rfl 7 rfl)) rfl ?_
                    refine Ls_on rfl rfl ?_
                    refine Ls_run (run_len Try.underlying23 rfl) rfl ?_
                    refine Ls_on rfl rfl ?_
                    refine Ls_run (run_gtr rfl rfl) rfl ?_
                    refine Ls_run (run_pick_t rfl rfl) rfl ?_
                    refine Ls_run (run_assign rfl) rfl ?_
                    refine Ls_nil ?_
                    refine Jm_seq ?_
                    obtain ⟨En28, hEn28⟩ : ∃ F : Bool → Env, ∀ (z : Bool), F z = [(1, .pointer (some ⟨b2, 0, none⟩)), (3, .int .i64 (mof x.k)), (33, .bool z)] := ⟨(fun (z : Bool) => [(1, .pointer (some ⟨b2, 0, none⟩)), (3, .int .i64 (mof x.k)), (33, .bool z)]), fun _ => rfl⟩
                    obtain ⟨Iv29, hIv29⟩ : ∃ F : Bool → World → Prop, ∀ (z : Bool) (w30 : World), F z w30 = (Sat w w30 [Blk b2 [.int .i64 x.k, .int .i64 x.f, .int .i64 x.t, .int .i64 x.b, .int .i64 x.a, .int .i64 x.c, .slice p.eA p.en p.ec, .slice p.kA p.kn p.kc, .slice p.pA p.pn p.pc] 26] ∧ (z = true → ¬ Msound x) ∧ (z = false → (mof x.k = 1 ∨ x.es.length = 0) ∧ (mof x.k = 2 ∨ x.ks.length = 0) ∧ (mof x.k = 3 ∨ x.ps.length = 0) ∧ (mof x.k = 4 ∨ x.c = 0))) := ⟨(fun (z : Bool) => fun (w30 : World) => Sat w w30 [Blk b2 [.int .i64 x.k, .int .i64 x.f, .int .i64 x.t, .int .i64 x.b, .int .i64 x.a, .int .i64 x.c, .slice p.eA p.en p.ec, .slice p.kA p.kn p.kc, .slice p.pA p.pn p.pc] 26] ∧ (z = true → ¬ Msound x) ∧ (z = false → (mof x.k = 1 ∨ x.es.length = 0) ∧ (mof x.k = 2 ∨ x.ks.length = 0) ∧ (mof x.k = 3 ∨ x.ps.length = 0) ∧ (mof x.k = 4 ∨ x.c = 0))), fun _ _ => rfl⟩
                    refine St_join En28 Iv29 ?_ ?_
                    · skip
                      refine St_ifPK rfl (fun h31 => ?_) (fun h31 => ?_)
                      · skip
                        refine St_skip ?_
                        refine Jm_join true ?_ ?_
                        · rw [hEn28]; exact (subE_cons rfl (subE_cons rfl (subE_cons rfl subE_nil)))
                        · skip
                          rw [hIv29]
                          first
                          | exact ⟨hs, fun _ q => by have := sound_num q; omega, (fun h => absurd h tf)⟩
                          | exact ⟨hs, hz1, hz2⟩
                          | exact ⟨hs, (fun h => absurd h ft), fun _ => ⟨by omega, by omega, by omega, by omega⟩⟩
                          | exact ⟨hs, fun h q => by have h2 := of_decide_eq_true h; have := sound_num q; omega, fun h => by have h2 := of_decide_eq_false h; exact ⟨by omega, by omega, by omega, by omega⟩⟩
                          | (refine ⟨hs, (fun h => absurd h ft), fun _ => ?_⟩; exact ⟨by omega, by omega, by omega, by omega⟩)
                      · skip
                        refine St_seq ?_
                        refine St_region ?_
                        refine Ls_run (run_move rfl) rfl ?_
                        refine Ls_run (run_neq rfl rfl) rfl ?_
                        refine Ls_run (run_move rfl) rfl ?_
                        refine Ls_partP (t := 52) rfl (fun h32 => ?_) (fun h32 => ?_)
                        · skip
                          refine Ls_on rfl rfl ?_
                          refine Ls_run (run_as (run_field Try.underlying26 rfl inf24 (by decide) rfl) (show _ = Value.pointer (some ⟨b2, 8, none⟩) from rfl)) rfl ?_
                          refine Ls_on rfl rfl ?_
                          refine Ls_run (run_load sc24 rfl (hs.blk_at 0 rfl 8 rfl)) rfl ?_
                          refine Ls_on rfl rfl ?_
                          refine Ls_run (run_len Try.underlying24 rfl) rfl ?_
                          refine Ls_on rfl rfl ?_
                          refine Ls_run (run_gtr rfl rfl) rfl ?_
                          refine Ls_run (run_pick_t rfl rfl) rfl ?_
                          refine Ls_run (run_assign rfl) rfl ?_
                          refine Ls_nil ?_
                          refine Jm_seq ?_
                          obtain ⟨En33, hEn33⟩ : ∃ F : Bool → Env, ∀ (z : Bool), F z = [(1, .pointer (some ⟨b2, 0, none⟩)), (3, .int .i64 (mof x.k)), (33, .bool z)] := ⟨(fun (z : Bool) => [(1, .pointer (some ⟨b2, 0, none⟩)), (3, .int .i64 (mof x.k)), (33, .bool z)]), fun _ => rfl⟩
                          obtain ⟨Iv34, hIv34⟩ : ∃ F : Bool → World → Prop, ∀ (z : Bool) (w35 : World), F z w35 = (Sat w w35 [Blk b2 [.int .i64 x.k, .int .i64 x.f, .int .i64 x.t, .int .i64 x.b, .int .i64 x.a, .int .i64 x.c, .slice p.eA p.en p.ec, .slice p.kA p.kn p.kc, .slice p.pA p.pn p.pc] 26] ∧ (z = true → ¬ Msound x) ∧ (z = false → (mof x.k = 1 ∨ x.es.length = 0) ∧ (mof x.k = 2 ∨ x.ks.length = 0) ∧ (mof x.k = 3 ∨ x.ps.length = 0) ∧ (mof x.k = 4 ∨ x.c = 0))) := ⟨(fun (z : Bool) => fun (w35 : World) => Sat w w35 [Blk b2 [.int .i64 x.k, .int .i64 x.f, .int .i64 x.t, .int .i64 x.b, .int .i64 x.a, .int .i64 x.c, .slice p.eA p.en p.ec, .slice p.kA p.kn p.kc, .slice p.pA p.pn p.pc] 26] ∧ (z = true → ¬ Msound x) ∧ (z = false → (mof x.k = 1 ∨ x.es.length = 0) ∧ (mof x.k = 2 ∨ x.ks.length = 0) ∧ (mof x.k = 3 ∨ x.ps.length = 0) ∧ (mof x.k = 4 ∨ x.c = 0))), fun _ _ => rfl⟩
                          refine St_join En33 Iv34 ?_ ?_
                          · skip
                            refine St_ifPK rfl (fun h36 => ?_) (fun h36 => ?_)
                            · skip
                              refine St_skip ?_
                              refine Jm_join true ?_ ?_
                              · rw [hEn33]; exact (subE_cons rfl (subE_cons rfl (subE_cons rfl subE_nil)))
                              · skip
                                rw [hIv34]
                                first
                                | exact ⟨hs, fun _ q => by have := sound_num q; omega, (fun h => absurd h tf)⟩
                                | exact ⟨hs, hz1, hz2⟩
                                | exact ⟨hs, (fun h => absurd h ft), fun _ => ⟨by omega, by omega, by omega, by omega⟩⟩
                                | exact ⟨hs, fun h q => by have h2 := of_decide_eq_true h; have := sound_num q; omega, fun h => by have h2 := of_decide_eq_false h; exact ⟨by omega, by omega, by omega, by omega⟩⟩
                                | (refine ⟨hs, (fun h => absurd h ft), fun _ => ?_⟩; exact ⟨by omega, by omega, by omega, by omega⟩)
                            · skip
                              refine St_region ?_
                              refine Ls_run (run_move rfl) rfl ?_
                              refine Ls_run (run_neq rfl rfl) rfl ?_
                              refine Ls_run (run_move rfl) rfl ?_
                              refine Ls_partP (t := 60) rfl (fun h37 => ?_) (fun h37 => ?_)
                              · skip
                                refine Ls_on rfl rfl ?_
                                refine Ls_run (run_as (run_field Try.underlying26 rfl inf3 (by decide) rfl) (show _ = Value.pointer (some ⟨b2, 5, none⟩) from rfl)) rfl ?_
                                refine Ls_on rfl rfl ?_
                                refine Ls_run (run_load sc3 rfl (hs.blk_at 0 rfl 5 rfl)) rfl ?_
                                refine Ls_on rfl rfl ?_
                                refine Ls_run (run_neq rfl rfl) rfl ?_
                                refine Ls_run (run_pick_t rfl rfl) rfl ?_
                                refine Ls_run (run_assign rfl) rfl ?_
                                refine Ls_nil ?_
                                refine Jm_join (decide (x.c ≠ 0)) ?_ ?_
                                · rw [hEn33]; exact (subE_cons rfl (subE_cons rfl (subE_cons rfl subE_nil)))
                                · skip
                                  rw [hIv34]
                                  first
                                  | exact ⟨hs, fun _ q => by have := sound_num q; omega, (fun h => absurd h tf)⟩
                                  | exact ⟨hs, hz1, hz2⟩
                                  | exact ⟨hs, (fun h => absurd h ft), fun _ => ⟨by omega, by omega, by omega, by omega⟩⟩
                                  | exact ⟨hs, fun h q => by have h2 := of_decide_eq_true h; have := sound_num q; omega, fun h => by have h2 := of_decide_eq_false h; exact ⟨by omega, by omega, by omega, by omega⟩⟩
                                  | (refine ⟨hs, (fun h => absurd h ft), fun _ => ?_⟩; exact ⟨by omega, by omega, by omega, by omega⟩)
                              · skip
                                refine Ls_off rfl rfl rfl rfl ?_
                                refine Ls_off rfl rfl rfl rfl ?_
                                refine Ls_off rfl rfl rfl rfl ?_
                                refine Ls_run (run_pick_f rfl rfl) rfl ?_
                                refine Ls_run (run_assign rfl) rfl ?_
                                refine Ls_nil ?_
                                refine Jm_join false ?_ ?_
                                · rw [hEn33]; exact (subE_cons rfl (subE_cons rfl (subE_cons rfl subE_nil)))
                                · skip
                                  rw [hIv34]
                                  first
                                  | exact ⟨hs, fun _ q => by have := sound_num q; omega, (fun h => absurd h tf)⟩
                                  | exact ⟨hs, hz1, hz2⟩
                                  | exact ⟨hs, (fun h => absurd h ft), fun _ => ⟨by omega, by omega, by omega, by omega⟩⟩
                                  | exact ⟨hs, fun h q => by have h2 := of_decide_eq_true h; have := sound_num q; omega, fun h => by have h2 := of_decide_eq_false h; exact ⟨by omega, by omega, by omega, by omega⟩⟩
                                  | (refine ⟨hs, (fun h => absurd h ft), fun _ => ?_⟩; exact ⟨by omega, by omega, by omega, by omega⟩)
                          · skip
                            rintro z w35 hI38
                            rw [hIv34] at hI38
                            obtain ⟨hs, hz1, hz2⟩ := hI38
                            refine Jm_eqE (hEn33 _) ?_
                            refine Jm_join z ?_ ?_
                            · rw [hEn28]; exact (subE_cons rfl (subE_cons rfl (subE_cons rfl subE_nil)))
                            · skip
                              rw [hIv29]
                              first
                              | exact ⟨hs, fun _ q => by have := sound_num q; omega, (fun h => absurd h tf)⟩
                              | exact ⟨hs, hz1, hz2⟩
                              | exact ⟨hs, (fun h => absurd h ft), fun _ => ⟨by omega, by omega, by omega, by omega⟩⟩
                              | exact ⟨hs, fun h q => by have h2 := of_decide_eq_true h; have := sound_num q; omega, fun h => by have h2 := of_decide_eq_false h; exact ⟨by omega, by omega, by omega, by omega⟩⟩
                              | (refine ⟨hs, (fun h => absurd h ft), fun _ => ?_⟩; exact ⟨by omega, by omega, by omega, by omega⟩)
                        · skip
                          refine Ls_off rfl rfl rfl rfl ?_
                          refine Ls_off rfl rfl rfl rfl ?_
                          refine Ls_off rfl rfl rfl rfl ?_
                          refine Ls_off rfl rfl rfl rfl ?_
                          refine Ls_run (run_pick_f rfl rfl) rfl ?_
                          refine Ls_run (run_assign rfl) rfl ?_
                          refine Ls_nil ?_
                          refine Jm_seq ?_
                          obtain ⟨En39, hEn39⟩ : ∃ F : Bool → Env, ∀ (z : Bool), F z = [(1, .pointer (some ⟨b2, 0, none⟩)), (3, .int .i64 (mof x.k)), (33, .bool z)] := ⟨(fun (z : Bool) => [(1, .pointer (some ⟨b2, 0, none⟩)), (3, .int .i64 (mof x.k)), (33, .bool z)]), fun _ => rfl⟩
                          obtain ⟨Iv40, hIv40⟩ : ∃ F : Bool → World → Prop, ∀ (z : Bool) (w41 : World), F z w41 = (Sat w w41 [Blk b2 [.int .i64 x.k, .int .i64 x.f, .int .i64 x.t, .int .i64 x.b, .int .i64 x.a, .int .i64 x.c, .slice p.eA p.en p.ec, .slice p.kA p.kn p.kc, .slice p.pA p.pn p.pc] 26] ∧ (z = true → ¬ Msound x) ∧ (z = false → (mof x.k = 1 ∨ x.es.length = 0) ∧ (mof x.k = 2 ∨ x.ks.length = 0) ∧ (mof x.k = 3 ∨ x.ps.length = 0) ∧ (mof x.k = 4 ∨ x.c = 0))) := ⟨(fun (z : Bool) => fun (w41 : World) => Sat w w41 [Blk b2 [.int .i64 x.k, .int .i64 x.f, .int .i64 x.t, .int .i64 x.b, .int .i64 x.a, .int .i64 x.c, .slice p.eA p.en p.ec, .slice p.kA p.kn p.kc, .slice p.pA p.pn p.pc] 26] ∧ (z = true → ¬ Msound x) ∧ (z = false → (mof x.k = 1 ∨ x.es.length = 0) ∧ (mof x.k = 2 ∨ x.ks.length = 0) ∧ (mof x.k = 3 ∨ x.ps.length = 0) ∧ (mof x.k = 4 ∨ x.c = 0))), fun _ _ => rfl⟩
                          refine St_join En39 Iv40 ?_ ?_
                          · skip
                            refine St_iff rfl ?_
                            refine St_region ?_
                            refine Ls_run (run_move rfl) rfl ?_
                            refine Ls_run (run_neq rfl rfl) rfl ?_
                            refine Ls_run (run_move rfl) rfl ?_
                            refine Ls_partP (t := 60) rfl (fun h43 => ?_) (fun h43 => ?_)
                            · skip
                              refine Ls_on rfl rfl ?_
                              refine Ls_run (run_as (run_field Try.underlying26 rfl inf3 (by decide) rfl) (show _ = Value.pointer (some ⟨b2, 5, none⟩) from rfl)) rfl ?_
                              refine Ls_on rfl rfl ?_
                              refine Ls_run (run_load sc3 rfl (hs.blk_at 0 rfl 5 rfl)) rfl ?_
                              refine Ls_on rfl rfl ?_
                              refine Ls_run (run_neq rfl rfl) rfl ?_
                              refine Ls_run (run_pick_t rfl rfl) rfl ?_
                              refine Ls_run (run_assign rfl) rfl ?_
                              refine Ls_nil ?_
                              refine Jm_join (decide (x.c ≠ 0)) ?_ ?_
                              · rw [hEn39]; exact (subE_cons rfl (subE_cons rfl (subE_cons rfl subE_nil)))
                              · skip
                                rw [hIv40]
                                first
                                | exact ⟨hs, fun _ q => by have := sound_num q; omega, (fun h => absurd h tf)⟩
                                | exact ⟨hs, hz1, hz2⟩
                                | exact ⟨hs, (fun h => absurd h ft), fun _ => ⟨by omega, by omega, by omega, by omega⟩⟩
                                | exact ⟨hs, fun h q => by have h2 := of_decide_eq_true h; have := sound_num q; omega, fun h => by have h2 := of_decide_eq_false h; exact ⟨by omega, by omega, by omega, by omega⟩⟩
                                | (refine ⟨hs, (fun h => absurd h ft), fun _ => ?_⟩; exact ⟨by omega, by omega, by omega, by omega⟩)
                            · skip
                              refine Ls_off rfl rfl rfl rfl ?_
                              refine Ls_off rfl rfl rfl rfl ?_
                              refine Ls_off rfl rfl rfl rfl ?_
                              refine Ls_run (run_pick_f rfl rfl) rfl ?_
                              refine Ls_run (run_assign rfl) rfl ?_
                              refine Ls_nil ?_
                              refine Jm_join false ?_ ?_
                              · rw [hEn39]; exact (subE_cons rfl (subE_cons rfl (subE_cons rfl subE_nil)))
                              · skip
                                rw [hIv40]
                                first
                                | exact ⟨hs, fun _ q => by have := sound_num q; omega, (fun h => absurd h tf)⟩
                                | exact ⟨hs, hz1, hz2⟩
                                | exact ⟨hs, (fun h => absurd h ft), fun _ => ⟨by omega, by omega, by omega, by omega⟩⟩
                                | exact ⟨hs, fun h q => by have h2 := of_decide_eq_true h; have := sound_num q; omega, fun h => by have h2 := of_decide_eq_false h; exact ⟨by omega, by omega, by omega, by omega⟩⟩
                                | (refine ⟨hs, (fun h => absurd h ft), fun _ => ?_⟩; exact ⟨by omega, by omega, by omega, by omega⟩)
                          · skip
                            rintro z w41 hI44
                            rw [hIv40] at hI44
                            obtain ⟨hs, hz1, hz2⟩ := hI44
                            refine Jm_eqE (hEn39 _) ?_
                            refine Jm_join z ?_ ?_
                            · rw [hEn28]; exact (subE_cons rfl (subE_cons rfl (subE_cons rfl subE_nil)))
                            · skip
                              rw [hIv29]
                              first
                              | exact ⟨hs, fun _ q => by have := sound_num q; omega, (fun h => absurd h tf)⟩
                              | exact ⟨hs, hz1, hz2⟩
                              | exact ⟨hs, (fun h => absurd h ft), fun _ => ⟨by omega, by omega, by omega, by omega⟩⟩
                              | exact ⟨hs, fun h q => by have h2 := of_decide_eq_true h; have := sound_num q; omega, fun h => by have h2 := of_decide_eq_false h; exact ⟨by omega, by omega, by omega, by omega⟩⟩
                              | (refine ⟨hs, (fun h => absurd h ft), fun _ => ?_⟩; exact ⟨by omega, by omega, by omega, by omega⟩)
                    · skip
                      rintro z w30 hI45
                      rw [hIv29] at hI45
                      obtain ⟨hs, hz1, hz2⟩ := hI45
                      refine Jm_eqE (hEn28 _) ?_
                      refine Jm_join z ?_ ?_
                      · rw [hEn23]; exact (subE_cons rfl (subE_cons rfl (subE_cons rfl subE_nil)))
                      · skip
                        rw [hIv24]
                        first
                        | exact ⟨hs, fun _ q => by have := sound_num q; omega, (fun h => absurd h tf)⟩
                        | exact ⟨hs, hz1, hz2⟩
                        | exact ⟨hs, (fun h => absurd h ft), fun _ => ⟨by omega, by omega, by omega, by omega⟩⟩
                        | exact ⟨hs, fun h q => by have h2 := of_decide_eq_true h; have := sound_num q; omega, fun h => by have h2 := of_decide_eq_false h; exact ⟨by omega, by omega, by omega, by omega⟩⟩
                        | (refine ⟨hs, (fun h => absurd h ft), fun _ => ?_⟩; exact ⟨by omega, by omega, by omega, by omega⟩)
                  · skip
                    refine Ls_off rfl rfl rfl rfl ?_
                    refine Ls_off rfl rfl rfl rfl ?_
                    refine Ls_off rfl rfl rfl rfl ?_
                    refine Ls_off rfl rfl rfl rfl ?_
                    refine Ls_run (run_pick_f rfl rfl) rfl ?_
                    refine Ls_run (run_assign rfl) rfl ?_
                    refine Ls_nil ?_
                    refine Jm_seq ?_
                    obtain ⟨En46, hEn46⟩ : ∃ F : Bool → Env, ∀ (z : Bool), F z = [(1, .pointer (some ⟨b2, 0, none⟩)), (3, .int .i64 (mof x.k)), (33, .bool z)] := ⟨(fun (z : Bool) => [(1, .pointer (some ⟨b2, 0, none⟩)), (3, .int .i64 (mof x.k)), (33, .bool z)]), fun _ => rfl⟩
                    obtain ⟨Iv47, hIv47⟩ : ∃ F : Bool → World → Prop, ∀ (z : Bool) (w48 : World), F z w48 = (Sat w w48 [Blk b2 [.int .i64 x.k, .int .i64 x.f, .int .i64 x.t, .int .i64 x.b, .int .i64 x.a, .int .i64 x.c, .slice p.eA p.en p.ec, .slice p.kA p.kn p.kc, .slice p.pA p.pn p.pc] 26] ∧ (z = true → ¬ Msound x) ∧ (z = false → (mof x.k = 1 ∨ x.es.length = 0) ∧ (mof x.k = 2 ∨ x.ks.length = 0) ∧ (mof x.k = 3 ∨ x.ps.length = 0) ∧ (mof x.k = 4 ∨ x.c = 0))) := ⟨(fun (z : Bool) => fun (w48 : World) => Sat w w48 [Blk b2 [.int .i64 x.k, .int .i64 x.f, .int .i64 x.t, .int .i64 x.b, .int .i64 x.a, .int .i64 x.c, .slice p.eA p.en p.ec, .slice p.kA p.kn p.kc, .slice p.pA p.pn p.pc] 26] ∧ (z = true → ¬ Msound x) ∧ (z = false → (mof x.k = 1 ∨ x.es.length = 0) ∧ (mof x.k = 2 ∨ x.ks.length = 0) ∧ (mof x.k = 3 ∨ x.ps.length = 0) ∧ (mof x.k = 4 ∨ x.c = 0))), fun _ _ => rfl⟩
                    refine St_join En46 Iv47 ?_ ?_
                    · skip
                      refine St_iff rfl ?_
                      refine St_seq ?_
                      refine St_region ?_
                      refine Ls_run (run_move rfl) rfl ?_
                      refine Ls_run (run_neq rfl rfl) rfl ?_
                      refine Ls_run (run_move rfl) rfl ?_
                      refine Ls_partP (t := 52) rfl (fun h50 => ?_) (fun h50 => ?_)
                      · skip
                        refine Ls_on rfl rfl ?_
                        refine Ls_run (run_as (run_field Try.underlying26 rfl inf24 (by decide) rfl) (show _ = Value.pointer (some ⟨b2, 8, none⟩) from rfl)) rfl ?_
                        refine Ls_on rfl rfl ?_
                        refine Ls_run (run_load sc24 rfl (hs.blk_at 0 rfl 8 rfl)) rfl ?_
                        refine Ls_on rfl rfl ?_
                        refine Ls_run (run_len Try.underlying24 rfl) rfl ?_
                        refine Ls_on rfl rfl ?_
                        refine Ls_run (run_gtr rfl rfl) rfl ?_
                        refine Ls_run (run_pick_t rfl rfl) rfl ?_
                        refine Ls_run (run_assign rfl) rfl ?_
                        refine Ls_nil ?_
                        refine Jm_seq ?_
                        obtain ⟨En51, hEn51⟩ : ∃ F : Bool → Env, ∀ (z : Bool), F z = [(1, .pointer (some ⟨b2, 0, none⟩)), (3, .int .i64 (mof x.k)), (33, .bool z)] := ⟨(fun (z : Bool) => [(1, .pointer (some ⟨b2, 0, none⟩)), (3, .int .i64 (mof x.k)), (33, .bool z)]), fun _ => rfl⟩
                        obtain ⟨Iv52, hIv52⟩ : ∃ F : Bool → World → Prop, ∀ (z : Bool) (w53 : World), F z w53 = (Sat w w53 [Blk b2 [.int .i64 x.k, .int .i64 x.f, .int .i64 x.t, .int .i64 x.b, .int .i64 x.a, .int .i64 x.c, .slice p.eA p.en p.ec, .slice p.kA p.kn p.kc, .slice p.pA p.pn p.pc] 26] ∧ (z = true → ¬ Msound x) ∧ (z = false → (mof x.k = 1 ∨ x.es.length = 0) ∧ (mof x.k = 2 ∨ x.ks.length = 0) ∧ (mof x.k = 3 ∨ x.ps.length = 0) ∧ (mof x.k = 4 ∨ x.c = 0))) := ⟨(fun (z : Bool) => fun (w53 : World) => Sat w w53 [Blk b2 [.int .i64 x.k, .int .i64 x.f, .int .i64 x.t, .int .i64 x.b, .int .i64 x.a, .int .i64 x.c, .slice p.eA p.en p.ec, .slice p.kA p.kn p.kc, .slice p.pA p.pn p.pc] 26] ∧ (z = true → ¬ Msound x) ∧ (z = false → (mof x.k = 1 ∨ x.es.length = 0) ∧ (mof x.k = 2 ∨ x.ks.length = 0) ∧ (mof x.k = 3 ∨ x.ps.length = 0) ∧ (mof x.k = 4 ∨ x.c = 0))), fun _ _ => rfl⟩
                        refine St_join En51 Iv52 ?_ ?_
                        · skip
                          refine St_ifPK rfl (fun h54 => ?_) (fun h54 => ?_)
                          · skip
                            refine St_skip ?_
                            refine Jm_join true ?_ ?_
                            · rw [hEn51]; exact (subE_cons rfl (subE_cons rfl (subE_cons rfl subE_nil)))
                            · skip
                              rw [hIv52]
                              first
                              | exact ⟨hs, fun _ q => by have := sound_num q; omega, (fun h => absurd h tf)⟩
                              | exact ⟨hs, hz1, hz2⟩
                              | exact ⟨hs, (fun h => absurd h ft), fun _ => ⟨by omega, by omega, by omega, by omega⟩⟩
                              | exact ⟨hs, fun h q => by have h2 := of_decide_eq_true h; have := sound_num q; omega, fun h => by have h2 := of_decide_eq_false h; exact ⟨by omega, by omega, by omega, by omega⟩⟩
                              | (refine ⟨hs, (fun h => absurd h ft), fun _ => ?_⟩; exact ⟨by omega, by omega, by omega, by omega⟩)
                          · skip
                            refine St_region ?_
                            refine Ls_run (run_move rfl) rfl ?_
                            refine Ls_run (run_neq rfl rfl) rfl ?_
                            refine Ls_run (run_move rfl) rfl ?_
                            refine Ls_partP (t := 60) rfl (fun h55 => ?_) (fun h55 => ?_)
                            · skip
                              refine Ls_on rfl rfl ?_
                              refine Ls_run (run_as (run_field Try.underlying26 rfl inf3 (by decide) rfl) (show _ = Value.pointer (some ⟨b2, 5, none⟩) from rfl)) rfl ?_
                              refine Ls_on rfl rfl ?_
                              refine Ls_run (run_load sc3 rfl (hs.blk_at 0 rfl 5 rfl)) rfl ?_
                              refine Ls_on rfl rfl ?_
                              refine Ls_run (run_neq rfl rfl) rfl ?_
                              refine Ls_run (run_pick_t rfl rfl) rfl ?_
                              refine Ls_run (run_assign rfl) rfl ?_
                              refine Ls_nil ?_
                              refine Jm_join (decide (x.c ≠ 0)) ?_ ?_
                              · rw [hEn51]; exact (subE_cons rfl (subE_cons rfl (subE_cons rfl subE_nil)))
                              · skip
                                rw [hIv52]
                                first
                                | exact ⟨hs, fun _ q => by have := sound_num q; omega, (fun h => absurd h tf)⟩
                                | exact ⟨hs, hz1, hz2⟩
                                | exact ⟨hs, (fun h => absurd h ft), fun _ => ⟨by omega, by omega, by omega, by omega⟩⟩
                                | exact ⟨hs, fun h q => by have h2 := of_decide_eq_true h; have := sound_num q; omega, fun h => by have h2 := of_decide_eq_false h; exact ⟨by omega, by omega, by omega, by omega⟩⟩
                                | (refine ⟨hs, (fun h => absurd h ft), fun _ => ?_⟩; exact ⟨by omega, by omega, by omega, by omega⟩)
                            · skip
                              refine Ls_off rfl rfl rfl rfl ?_
                              refine Ls_off rfl rfl rfl rfl ?_
                              refine Ls_off rfl rfl rfl rfl ?_
                              refine Ls_run (run_pick_f rfl rfl) rfl ?_
                              refine Ls_run (run_assign rfl) rfl ?_
                              refine Ls_nil ?_
                              refine Jm_join false ?_ ?_
                              · rw [hEn51]; exact (subE_cons rfl (subE_cons rfl (subE_cons rfl subE_nil)))
                              · skip
                                rw [hIv52]
                                first
                                | exact ⟨hs, fun _ q => by have := sound_num q; omega, (fun h => absurd h tf)⟩
                                | exact ⟨hs, hz1, hz2⟩
                                | exact ⟨hs, (fun h => absurd h ft), fun _ => ⟨by omega, by omega, by omega, by omega⟩⟩
                                | exact ⟨hs, fun h q => by have h2 := of_decide_eq_true h; have := sound_num q; omega, fun h => by have h2 := of_decide_eq_false h; exact ⟨by omega, by omega, by omega, by omega⟩⟩
                                | (refine ⟨hs, (fun h => absurd h ft), fun _ => ?_⟩; exact ⟨by omega, by omega, by omega, by omega⟩)
                        · skip
                          rintro z w53 hI56
                          rw [hIv52] at hI56
                          obtain ⟨hs, hz1, hz2⟩ := hI56
                          refine Jm_eqE (hEn51 _) ?_
                          refine Jm_join z ?_ ?_
                          · rw [hEn46]; exact (subE_cons rfl (subE_cons rfl (subE_cons rfl subE_nil)))
                          · skip
                            rw [hIv47]
                            first
                            | exact ⟨hs, fun _ q => by have := sound_num q; omega, (fun h => absurd h tf)⟩
                            | exact ⟨hs, hz1, hz2⟩
                            | exact ⟨hs, (fun h => absurd h ft), fun _ => ⟨by omega, by omega, by omega, by omega⟩⟩
                            | exact ⟨hs, fun h q => by have h2 := of_decide_eq_true h; have := sound_num q; omega, fun h => by have h2 := of_decide_eq_false h; exact ⟨by omega, by omega, by omega, by omega⟩⟩
                            | (refine ⟨hs, (fun h => absurd h ft), fun _ => ?_⟩; exact ⟨by omega, by omega, by omega, by omega⟩)
                      · skip
                        refine Ls_off rfl rfl rfl rfl ?_
                        refine Ls_off rfl rfl rfl rfl ?_
                        refine Ls_off rfl rfl rfl rfl ?_
                        refine Ls_off rfl rfl rfl rfl ?_
                        refine Ls_run (run_pick_f rfl rfl) rfl ?_
                        refine Ls_run (run_assign rfl) rfl ?_
                        refine Ls_nil ?_
                        refine Jm_seq ?_
                        obtain ⟨En57, hEn57⟩ : ∃ F : Bool → Env, ∀ (z : Bool), F z = [(1, .pointer (some ⟨b2, 0, none⟩)), (3, .int .i64 (mof x.k)), (33, .bool z)] := ⟨(fun (z : Bool) => [(1, .pointer (some ⟨b2, 0, none⟩)), (3, .int .i64 (mof x.k)), (33, .bool z)]), fun _ => rfl⟩
                        obtain ⟨Iv58, hIv58⟩ : ∃ F : Bool → World → Prop, ∀ (z : Bool) (w59 : World), F z w59 = (Sat w w59 [Blk b2 [.int .i64 x.k, .int .i64 x.f, .int .i64 x.t, .int .i64 x.b, .int .i64 x.a, .int .i64 x.c, .slice p.eA p.en p.ec, .slice p.kA p.kn p.kc, .slice p.pA p.pn p.pc] 26] ∧ (z = true → ¬ Msound x) ∧ (z = false → (mof x.k = 1 ∨ x.es.length = 0) ∧ (mof x.k = 2 ∨ x.ks.length = 0) ∧ (mof x.k = 3 ∨ x.ps.length = 0) ∧ (mof x.k = 4 ∨ x.c = 0))) := ⟨(fun (z : Bool) => fun (w59 : World) => Sat w w59 [Blk b2 [.int .i64 x.k, .int .i64 x.f, .int .i64 x.t, .int .i64 x.b, .int .i64 x.a, .int .i64 x.c, .slice p.eA p.en p.ec, .slice p.kA p.kn p.kc, .slice p.pA p.pn p.pc] 26] ∧ (z = true → ¬ Msound x) ∧ (z = false → (mof x.k = 1 ∨ x.es.length = 0) ∧ (mof x.k = 2 ∨ x.ks.length = 0) ∧ (mof x.k = 3 ∨ x.ps.length = 0) ∧ (mof x.k = 4 ∨ x.c = 0))), fun _ _ => rfl⟩
                        refine St_join En57 Iv58 ?_ ?_
                        · skip
                          refine St_iff rfl ?_
                          refine St_region ?_
                          refine Ls_run (run_move rfl) rfl ?_
                          refine Ls_run (run_neq rfl rfl) rfl ?_
                          refine Ls_run (run_move rfl) rfl ?_
                          refine Ls_partP (t := 60) rfl (fun h61 => ?_) (fun h61 => ?_)
                          · skip
                            refine Ls_on rfl rfl ?_
                            refine Ls_run (run_as (run_field Try.underlying26 rfl inf3 (by decide) rfl) (show _ = Value.pointer (some ⟨b2, 5, none⟩) from rfl)) rfl ?_
                            refine Ls_on rfl rfl ?_
                            refine Ls_run (run_load sc3 rfl (hs.blk_at 0 rfl 5 rfl)) rfl ?_
                            refine Ls_on rfl rfl ?_
                            refine Ls_run (run_neq rfl rfl) rfl ?_
                            refine Ls_run (run_pick_t rfl rfl) rfl ?_
                            refine Ls_run (run_assign rfl) rfl ?_
                            refine Ls_nil ?_
                            refine Jm_join (decide (x.c ≠ 0)) ?_ ?_
                            · rw [hEn57]; exact (subE_cons rfl (subE_cons rfl (subE_cons rfl subE_nil)))
                            · skip
                              rw [hIv58]
                              first
                              | exact ⟨hs, fun _ q => by have := sound_num q; omega, (fun h => absurd h tf)⟩
                              | exact ⟨hs, hz1, hz2⟩
                              | exact ⟨hs, (fun h => absurd h ft), fun _ => ⟨by omega, by omega, by omega, by omega⟩⟩
                              | exact ⟨hs, fun h q => by have h2 := of_decide_eq_true h; have := sound_num q; omega, fun h => by have h2 := of_decide_eq_false h; exact ⟨by omega, by omega, by omega, by omega⟩⟩
                              | (refine ⟨hs, (fun h => absurd h ft), fun _ => ?_⟩; exact ⟨by omega, by omega, by omega, by omega⟩)
                          · skip
                            refine Ls_off rfl rfl rfl rfl ?_
                            refine Ls_off rfl rfl rfl rfl ?_
                            refine Ls_off rfl rfl rfl rfl ?_
                            refine Ls_run (run_pick_f rfl rfl) rfl ?_
                            refine Ls_run (run_assign rfl) rfl ?_
                            refine Ls_nil ?_
                            refine Jm_join false ?_ ?_
                            · rw [hEn57]; exact (subE_cons rfl (subE_cons rfl (subE_cons rfl subE_nil)))
                            · skip
                              rw [hIv58]
                              first
                              | exact ⟨hs, fun _ q => by have := sound_num q; omega, (fun h => absurd h tf)⟩
                              | exact ⟨hs, hz1, hz2⟩
                              | exact ⟨hs, (fun h => absurd h ft), fun _ => ⟨by omega, by omega, by omega, by omega⟩⟩
                              | exact ⟨hs, fun h q => by have h2 := of_decide_eq_true h; have := sound_num q; omega, fun h => by have h2 := of_decide_eq_false h; exact ⟨by omega, by omega, by omega, by omega⟩⟩
                              | (refine ⟨hs, (fun h => absurd h ft), fun _ => ?_⟩; exact ⟨by omega, by omega, by omega, by omega⟩)
                        · skip
                          rintro z w59 hI62
                          rw [hIv58] at hI62
                          obtain ⟨hs, hz1, hz2⟩ := hI62
                          refine Jm_eqE (hEn57 _) ?_
                          refine Jm_join z ?_ ?_
                          · rw [hEn46]; exact (subE_cons rfl (subE_cons rfl (subE_cons rfl subE_nil)))
                          · skip
                            rw [hIv47]
                            first
                            | exact ⟨hs, fun _ q => by have := sound_num q; omega, (fun h => absurd h tf)⟩
                            | exact ⟨hs, hz1, hz2⟩
                            | exact ⟨hs, (fun h => absurd h ft), fun _ => ⟨by omega, by omega, by omega, by omega⟩⟩
                            | exact ⟨hs, fun h q => by have h2 := of_decide_eq_true h; have := sound_num q; omega, fun h => by have h2 := of_decide_eq_false h; exact ⟨by omega, by omega, by omega, by omega⟩⟩
                            | (refine ⟨hs, (fun h => absurd h ft), fun _ => ?_⟩; exact ⟨by omega, by omega, by omega, by omega⟩)
                    · skip
                      rintro z w48 hI63
                      rw [hIv47] at hI63
                      obtain ⟨hs, hz1, hz2⟩ := hI63
                      refine Jm_eqE (hEn46 _) ?_
                      refine Jm_join z ?_ ?_
                      · rw [hEn23]; exact (subE_cons rfl (subE_cons rfl (subE_cons rfl subE_nil)))
                      · skip
                        rw [hIv24]
                        first
                        | exact ⟨hs, fun _ q => by have := sound_num q; omega, (fun h => absurd h tf)⟩
                        | exact ⟨hs, hz1, hz2⟩
                        | exact ⟨hs, (fun h => absurd h ft), fun _ => ⟨by omega, by omega, by omega, by omega⟩⟩
                        | exact ⟨hs, fun h q => by have h2 := of_decide_eq_true h; have := sound_num q; omega, fun h => by have h2 := of_decide_eq_false h; exact ⟨by omega, by omega, by omega, by omega⟩⟩
                        | (refine ⟨hs, (fun h => absurd h ft), fun _ => ?_⟩; exact ⟨by omega, by omega, by omega, by omega⟩)
              · skip
                rintro z w25 hI64
                rw [hIv24] at hI64
                obtain ⟨hs, hz1, hz2⟩ := hI64
                refine Jm_eqE (hEn23 _) ?_
                refine Jm_seq ?_
                refine St_ifK rfl (fun h65 => ?_) (fun h65 => ?_)
                · skip
                  refine St_seq ?_
                  refine St_region ?_
                  refine Ls_run (run_assign rfl) rfl ?_
                  refine Ls_nil ?_
                  refine Jm_seq ?_
                  refine St_ret ?_
                  refine Jm_block_ret (Jm_then_ret  ?_)
                  refine Jm_ret1 rfl rfl ?_
                  refine ⟨_, rfl, ?_, hs.forget⟩
                  first
                  | exact congrArg Value.bool (decide_eq_false (fun q => by have := sound_num q; omega)).symm
                  | exact congrArg Value.bool (decide_eq_false (hz1 (by assumption))).symm
                  | (have hz3 := hz2 (by assumption)
                     have hh : Mhead x := ⟨by omega, by omega, by omega, by omega, by omega, hz3.1, hz3.2.1, hz3.2.2.1, hz3.2.2.2⟩
                     refine congrArg Value.bool (decide_eq_decide.2 ?_)
                     rw [sound_iff hh]
                     first
                     | exact ⟨fun q => ⟨fun _ => q, fun e => by omega, fun e => by omega, fun e => by omega⟩, fun q => q.1 (by omega)⟩
                     | exact ⟨fun q => ⟨fun e => by omega, fun _ => ⟨by omega, q⟩, fun e => by omega, fun e => by omega⟩, fun q => (q.2.1 (by omega)).2⟩
                     | exact ⟨fun q => ⟨fun e => by omega, fun e => by omega, fun _ => ⟨by omega, q⟩, fun e => by omega⟩, fun q => (q.2.2.1 (by omega)).2⟩
                     | exact ⟨fun q => ⟨fun e => by omega, fun e => by omega, fun e => by omega, fun _ => q⟩, fun q => q.2.2.2 (by omega)⟩)
                · skip
                  refine St_skip ?_
                  refine Jm_block_normal (Jm_seq ?_)
                  refine St_seq ?_
                  refine St_seq ?_
                  refine St_region ?_
                  refine Ls_run (run_move rfl) rfl ?_
                  refine Ls_nil ?_
                  refine Jm_seq ?_
                  refine St_block ?_
                  refine St_seq ?_
                  refine St_region ?_
                  refine Ls_run (run_eql rfl rfl) rfl ?_
                  refine Ls_run (run_assign rfl) rfl ?_
                  refine Ls_nil ?_
                  refine Jm_seq ?_
                  refine St_ifP rfl (fun h66 => ?_) (fun h66 => ?_)
                  · skip
                    refine St_seq ?_
                    refine St_region ?_
                    refine Ls_run (run_as (run_field Try.underlying26 rfl inf22 (by decide) rfl) (show _ = Value.pointer (some ⟨b2, 6, none⟩) from rfl)) rfl ?_
                    refine Ls_run (run_load sc22 rfl (hs.blk_at 0 rfl 6 rfl)) rfl ?_
                    refine Ls_call Try.func72 nm72 rfl rfl (isEnds_c w25 p.eA p.en p.ec x.es (hm.e.inB hs) hze) rfl ?_
                    rintro v67 w68 ⟨rfl, rfl⟩
                    refine Ls_run (run_assign rfl) rfl ?_
                    refine Ls_nil ?_
                    refine Jm_seq ?_
                    refine St_ret ?_
                    refine Jm_block_ret (Jm_then_ret  ?_)
                    refine Jm_ret1 rfl rfl ?_
                    refine ⟨_, rfl, ?_, hs.forget⟩
                    first
                    | exact congrArg Value.bool (decide_eq_false (fun q => by have := sound_num q; omega)).symm
                    | exact congrArg Value.bool (decide_eq_false (hz1 (by assumption))).symm
                    | (have hz3 := hz2 (by assumption)
                       have hh : Mhead x := ⟨by omega, by omega, by omega, by omega, by omega, hz3.1, hz3.2.1, hz3.2.2.1, hz3.2.2.2⟩
                       refine congrArg Value.bool (decide_eq_decide.2 ?_)
                       rw [sound_iff hh]
                       first
                       | exact ⟨fun q => ⟨fun _ => q, fun e => by omega, fun e => by omega, fun e => by omega⟩, fun q => q.1 (by omega)⟩
                       | exact ⟨fun q => ⟨fun e => by omega, fun _ => ⟨by omega, q⟩, fun e => by omega, fun e => by omega⟩, fun q => (q.2.1 (by omega)).2⟩
                       | exact ⟨fun q => ⟨fun e => by omega, fun e => by omega, fun _ => ⟨by omega, q⟩, fun e => by omega⟩, fun q => (q.2.2.1 (by omega)).2⟩
                       | exact ⟨fun q => ⟨fun e => by omega, fun e => by omega, fun e => by omega, fun _ => q⟩, fun q => q.2.2.2 (by omega)⟩)
                  · skip
                    refine St_seq ?_
                    refine St_region ?_
                    refine Ls_run (run_eql rfl rfl) rfl ?_
                    refine Ls_run (run_assign rfl) rfl ?_
                    refine Ls_nil ?_
                    refine Jm_seq ?_
                    refine St_ifP rfl (fun h69 => ?_) (fun h69 => ?_)
                    · skip
                      refine St_seq ?_
                      refine St_region ?_
                      refine Ls_run (run_as (run_field Try.underlying26 rfl inf23 (by decide) rfl) (show _ = Value.pointer (some ⟨b2, 7, none⟩) from rfl)) rfl ?_
                      refine Ls_run (run_load sc23 rfl (hs.blk_at 0 rfl 7 rfl)) rfl ?_
                      refine Ls_run (run_len Try.underlying23 rfl) rfl ?_
                      refine Ls_run (run_leq rfl rfl) rfl ?_
                      refine Ls_run (run_move rfl) rfl ?_
                      refine Ls_partP (t := 77) rfl (fun h70 => ?_) (fun h70 => ?_)
                      · skip
                        refine Ls_on rfl rfl ?_
                        refine Ls_run (run_as (run_field Try.underlying26 rfl inf23 (by decide) rfl) (show _ = Value.pointer (some ⟨b2, 7, none⟩) from rfl)) rfl ?_
                        refine Ls_on rfl rfl ?_
                        refine Ls_run (run_load sc23 rfl (hs.blk_at 0 rfl 7 rfl)) rfl ?_
                        refine Ls_on rfl rfl ?_
                        refine Ls_call Try.func73 nm73 rfl rfl (Rising_c w25 p.kA p.kn p.kc x.ks (hm.k.inB hs) hzk) rfl ?_
                        rintro v71 w72 ⟨rfl, rfl⟩
                        refine Ls_run (run_pick_t rfl rfl) rfl ?_
                        refine Ls_run (run_assign rfl) rfl ?_
                        refine Ls_nil ?_
                        refine Jm_seq ?_
                        refine St_ret ?_
                        refine Jm_block_ret (Jm_then_ret  ?_)
                        refine Jm_ret1 rfl rfl ?_
                        refine ⟨_, rfl, ?_, hs.forget⟩
                        first
                        | exact congrArg Value.bool (decide_eq_false (fun q => by have := sound_num q; omega)).symm
                        | exact congrArg Value.bool (decide_eq_false (hz1 (by assumption))).symm
                        | (have hz3 := hz2 (by assumption)
                           have hh : Mhead x := ⟨by omega, by omega, by omega, by omega, by omega, hz3.1, hz3.2.1, hz3.2.2.1, hz3.2.2.2⟩
                           refine congrArg Value.bool (decide_eq_decide.2 ?_)
                           rw [sound_iff hh]
                           first
                           | exact ⟨fun q => ⟨fun _ => q, fun e => by omega, fun e => by omega, fun e => by omega⟩, fun q => q.1 (by omega)⟩
                           | exact ⟨fun q => ⟨fun e => by omega, fun _ => ⟨by omega, q⟩, fun e => by omega, fun e => by omega⟩, fun q => (q.2.1 (by omega)).2⟩
                           | exact ⟨fun q => ⟨fun e => by omega, fun e => by omega, fun _ => ⟨by omega, q⟩, fun e => by omega⟩, fun q => (q.2.2.1 (by omega)).2⟩
                           | exact ⟨fun q => ⟨fun e => by omega, fun e => by omega, fun e => by omega, fun _ => q⟩, fun q => q.2.2.2 (by omega)⟩)
                      · skip
                        refine Ls_off rfl rfl rfl rfl ?_
                        refine Ls_off rfl rfl rfl rfl ?_
                        refine Ls_off rfl rfl rfl rfl ?_
                        refine Ls_run (run_pick_f rfl rfl) rfl ?_
                        refine Ls_run (run_assign rfl) rfl ?_
                        refine Ls_nil ?_
                        refine Jm_seq ?_
                        refine St_ret ?_
                        refine Jm_block_ret (Jm_then_ret  ?_)
                        refine Jm_ret1 rfl rfl ?_
                        refine ⟨_, rfl, ?_, hs.forget⟩
                        first
                        | exact congrArg Value.bool (decide_eq_false (fun q => by have := sound_num q; omega)).symm
                        | exact congrArg Value.bool (decide_eq_false (hz1 (by assumption))).symm
                        | (have hz3 := hz2 (by assumption)
                           have hh : Mhead x := ⟨by omega, by omega, by omega, by omega, by omega, hz3.1, hz3.2.1, hz3.2.2.1, hz3.2.2.2⟩
                           refine congrArg Value.bool (decide_eq_decide.2 ?_)
                           rw [sound_iff hh]
                           first
                           | exact ⟨fun q => ⟨fun _ => q, fun e => by omega, fun e => by omega, fun e => by omega⟩, fun q => q.1 (by omega)⟩
                           | exact ⟨fun q => ⟨fun e => by omega, fun _ => ⟨by omega, q⟩, fun e => by omega, fun e => by omega⟩, fun q => (q.2.1 (by omega)).2⟩
                           | exact ⟨fun q => ⟨fun e => by omega, fun e => by omega, fun _ => ⟨by omega, q⟩, fun e => by omega⟩, fun q => (q.2.2.1 (by omega)).2⟩
                           | exact ⟨fun q => ⟨fun e => by omega, fun e => by omega, fun e => by omega, fun _ => q⟩, fun q => q.2.2.2 (by omega)⟩)
                    · skip
                      refine St_seq ?_
                      refine St_region ?_
                      refine Ls_run (run_eql rfl rfl) rfl ?_
                      refine Ls_run (run_assign rfl) rfl ?_
                      refine Ls_nil ?_
                      refine Jm_seq ?_
                      refine St_ifP rfl (fun h73 => ?_) (fun h73 => ?_)
                      · skip
                        refine St_seq ?_
                        refine St_region ?_
                        refine Ls_run (run_as (run_field Try.underlying26 rfl inf24 (by decide) rfl) (show _ = Value.pointer (some ⟨b2, 8, none⟩) from rfl)) rfl ?_
                        refine Ls_run (run_load sc24 rfl (hs.blk_at 0 rfl 8 rfl)) rfl ?_
                        refine Ls_run (run_len Try.underlying24 rfl) rfl ?_
                        refine Ls_run (run_leq rfl rfl) rfl ?_
                        refine Ls_run (run_move rfl) rfl ?_
                        refine Ls_partP (t := 88) rfl (fun h74 => ?_) (fun h74 => ?_)
                        · skip
                          refine Ls_on rfl rfl ?_
                          refine Ls_run (run_as (run_field Try.underlying26 rfl inf24 (by decide) rfl) (show _ = Value.pointer (some ⟨b2, 8, none⟩) from rfl)) rfl ?_
                          refine Ls_on rfl rfl ?_
                          refine Ls_run (run_load sc24 rfl (hs.blk_at 0 rfl 8 rfl)) rfl ?_
                          refine Ls_on rfl rfl ?_
                          refine Ls_call Try.func74 nm74 rfl rfl (fSound_c w25 p.pA p.pn p.pc x.ps (hm.p.inB hs) hzp) rfl ?_
                          rintro v75 w76 ⟨rfl, hsQ77⟩
                          replace hs := hs.trans hsQ77
                          refine Ls_run (run_pick_t rfl rfl) rfl ?_
                          refine Ls_run (run_assign rfl) rfl ?_
                          refine Ls_nil ?_
                          refine Jm_seq ?_
                          refine St_ret ?_
                          refine Jm_block_ret (Jm_then_ret  ?_)
                          refine Jm_ret1 rfl rfl ?_
                          refine ⟨_, rfl, ?_, hs.forget⟩
                          first
                          | exact congrArg Value.bool (decide_eq_false (fun q => by have := sound_num q; omega)).symm
                          | exact congrArg Value.bool (decide_eq_false (hz1 (by assumption))).symm
                          | (have hz3 := hz2 (by assumption)
                             have hh : Mhead x := ⟨by omega, by omega, by omega, by omega, by omega, hz3.1, hz3.2.1, hz3.2.2.1, hz3.2.2.2⟩
                             refine congrArg Value.bool (decide_eq_decide.2 ?_)
                             rw [sound_iff hh]
                             first
                             | exact ⟨fun q => ⟨fun _ => q, fun e => by omega, fun e => by omega, fun e => by omega⟩, fun q => q.1 (by omega)⟩
                             | exact ⟨fun q => ⟨fun e => by omega, fun _ => ⟨by omega, q⟩, fun e => by omega, fun e => by omega⟩, fun q => (q.2.1 (by omega)).2⟩
                             | exact ⟨fun q => ⟨fun e => by omega, fun e => by omega, fun _ => ⟨by omega, q⟩, fun e => by omega⟩, fun q => (q.2.2.1 (by omega)).2⟩
                             | exact ⟨fun q => ⟨fun e => by omega, fun e => by omega, fun e => by omega, fun _ => q⟩, fun q => q.2.2.2 (by omega)⟩)
                        · skip
                          refine Ls_off rfl rfl rfl rfl ?_
                          refine Ls_off rfl rfl rfl rfl ?_
                          refine Ls_off rfl rfl rfl rfl ?_
                          refine Ls_run (run_pick_f rfl rfl) rfl ?_
                          refine Ls_run (run_assign rfl) rfl ?_
                          refine Ls_nil ?_
                          refine Jm_seq ?_
                          refine St_ret ?_
                          refine Jm_block_ret (Jm_then_ret  ?_)
                          refine Jm_ret1 rfl rfl ?_
                          refine ⟨_, rfl, ?_, hs.forget⟩
                          first
                          | exact congrArg Value.bool (decide_eq_false (fun q => by have := sound_num q; omega)).symm
                          | exact congrArg Value.bool (decide_eq_false (hz1 (by assumption))).symm
                          | (have hz3 := hz2 (by assumption)
                             have hh : Mhead x := ⟨by omega, by omega, by omega, by omega, by omega, hz3.1, hz3.2.1, hz3.2.2.1, hz3.2.2.2⟩
                             refine congrArg Value.bool (decide_eq_decide.2 ?_)
                             rw [sound_iff hh]
                             first
                             | exact ⟨fun q => ⟨fun _ => q, fun e => by omega, fun e => by omega, fun e => by omega⟩, fun q => q.1 (by omega)⟩
                             | exact ⟨fun q => ⟨fun e => by omega, fun _ => ⟨by omega, q⟩, fun e => by omega, fun e => by omega⟩, fun q => (q.2.1 (by omega)).2⟩
                             | exact ⟨fun q => ⟨fun e => by omega, fun e => by omega, fun _ => ⟨by omega, q⟩, fun e => by omega⟩, fun q => (q.2.2.1 (by omega)).2⟩
                             | exact ⟨fun q => ⟨fun e => by omega, fun e => by omega, fun e => by omega, fun _ => q⟩, fun q => q.2.2.2 (by omega)⟩)
                      · skip
                        refine St_skip ?_
                        refine Jm_block_normal (Jm_seq ?_)
                        refine St_seq ?_
                        refine St_region ?_
                        refine Ls_run (run_as (run_field Try.underlying26 rfl inf3 (by decide) rfl) (show _ = Value.pointer (some ⟨b2, 5, none⟩) from rfl)) rfl ?_
                        refine Ls_run (run_load sc3 rfl (hs.blk_at 0 rfl 5 rfl)) rfl ?_
                        refine Ls_call Try.func71 nm71 rfl rfl (within_c w25 0 x.c 1000) rfl ?_
                        rintro v78 w79 ⟨rfl, rfl⟩
                        refine Ls_run (run_assign rfl) rfl ?_
                        refine Ls_nil ?_
                        refine Jm_seq ?_
                        refine St_ret ?_
                        refine Jm_ret1 rfl rfl ?_
                        refine ⟨_, rfl, ?_, hs.forget⟩
                        first
                        | exact congrArg Value.bool (decide_eq_false (fun q => by have := sound_num q; omega)).symm
                        | exact congrArg Value.bool (decide_eq_false (hz1 (by assumption))).symm
                        | (have hz3 := hz2 (by assumption)
                           have hh : Mhead x := ⟨by omega, by omega, by omega, by omega, by omega, hz3.1, hz3.2.1, hz3.2.2.1, hz3.2.2.2⟩
                           refine congrArg Value.bool (decide_eq_decide.2 ?_)
                           rw [sound_iff hh]
                           first
                           | exact ⟨fun q => ⟨fun _ => q, fun e => by omega, fun e => by omega, fun e => by omega⟩, fun q => q.1 (by omega)⟩
                           | exact ⟨fun q => ⟨fun e => by omega, fun _ => ⟨by omega, q⟩, fun e => by omega, fun e => by omega⟩, fun q => (q.2.1 (by omega)).2⟩
                           | exact ⟨fun q => ⟨fun e => by omega, fun e => by omega, fun _ => ⟨by omega, q⟩, fun e => by omega⟩, fun q => (q.2.2.1 (by omega)).2⟩
                           | exact ⟨fun q => ⟨fun e => by omega, fun e => by omega, fun e => by omega, fun _ => q⟩, fun q => q.2.2.2 (by omega)⟩)
            · skip
              refine Ls_off rfl rfl rfl rfl ?_
              refine Ls_off rfl rfl rfl rfl ?_
              refine Ls_off rfl rfl rfl rfl ?_
              refine Ls_off rfl rfl rfl rfl ?_
              refine Ls_run (run_pick_f rfl rfl) rfl ?_
              refine Ls_run (run_assign rfl) rfl ?_
              refine Ls_nil ?_
              refine Jm_seq ?_
              obtain ⟨En80, hEn80⟩ : ∃ F : Bool → Env, ∀ (z : Bool), F z = [(1, .pointer (some ⟨b2, 0, none⟩)), (3, .int .i64 (mof x.k)), (33, .bool z)] := ⟨(fun (z : Bool) => [(1, .pointer (some ⟨b2, 0, none⟩)), (3, .int .i64 (mof x.k)), (33, .bool z)]), fun _ => rfl⟩
              obtain ⟨Iv81, hIv81⟩ : ∃ F : Bool → World → Prop, ∀ (z : Bool) (w82 : World), F z w82 = (Sat w w82 [Blk b2 [.int .i64 x.k, .int .i64 x.f, .int .i64 x.t, .int .i64 x.b, .int .i64 x.a, .int .i64 x.c, .slice p.eA p.en p.ec, .slice p.kA p.kn p.kc, .slice p.pA p.pn p.pc] 26] ∧ (z = true → ¬ Msound x) ∧ (z = false → (mof x.k = 1 ∨ x.es.length = 0) ∧ (mof x.k = 2 ∨ x.ks.length = 0) ∧ (mof x.k = 3 ∨ x.ps.length = 0) ∧ (mof x.k = 4 ∨ x.c = 0))) := ⟨(fun (z : Bool) => fun (w82 : World) => Sat w w82 [Blk b2 [.int .i64 x.k, .int .i64 x.f, .int .i64 x.t, .int .i64 x.b, .int .i64 x.a, .int .i64 x.c, .slice p.eA p.en p.ec, .slice p.kA p.kn p.kc, .slice p.pA p.pn p.pc] 26] ∧ (z = true → ¬ Msound x) ∧ (z = false → (mof x.k = 1 ∨ x.es.length = 0) ∧ (mof x.k = 2 ∨ x.ks.length = 0) ∧ (mof x.k = 3 ∨ x.ps.length = 0) ∧ (mof x.k = 4 ∨ x.c = 0))), fun _ _ => rfl⟩
              refine St_join En80 Iv81 ?_ ?_
              · skip
                refine St_iff rfl ?_
                refine St_seq ?_
                refine St_region ?_
                refine Ls_run (run_move rfl) rfl ?_
                refine Ls_run (run_neq rfl rfl) rfl ?_
                refine Ls_run (run_move rfl) rfl ?_
                refine Ls_partP (t := 44) rfl (fun h84 => ?_) (fun h84 => ?_)
                · skip
                  refine Ls_on rfl rfl ?_
                  refine Ls_run (run_as (run_field Try.underlying26 rfl inf23 (by decide) rfl) (show _ = Value.pointer (some ⟨b2, 7, none⟩) from rfl)) rfl ?_
                  refine Ls_on rfl rfl ?_
                  refine Ls_run (run_load sc23 rfl (hs.blk_at 0 rfl 7 rfl)) rfl ?_
                  refine Ls_on rfl rfl ?_
                  refine Ls_run (run_len Try.underlying23 rfl) rfl ?_
                  refine Ls_on rfl rfl ?_
                  refine Ls_run (run_gtr rfl rfl) rfl ?_
                  refine Ls_run (run_pick_t rfl rfl) rfl ?_
                  refine Ls_run (run_assign rfl) rfl ?_
                  refine Ls_nil ?_
                  refine Jm_seq ?_
                  obtain ⟨En85, hEn85⟩ : ∃ F : Bool → Env, ∀ (z : Bool), F z = [(1, .pointer (some ⟨b2, 0, none⟩)), (3, .int .i64 (mof x.k)), (33, .bool z)] := ⟨(fun (z : Bool) => [(1, .pointer (some ⟨b2, 0, none⟩)), (3, .int .i64 (mof x.k)), (33, .bool z)]), fun _ => rfl⟩
                  obtain ⟨Iv86, hIv86⟩ : ∃ F : Bool → World → Prop, ∀ (z : Bool) (w87 : World), F z w87 = (Sat w w87 [Blk b2 [.int .i64 x.k, .int .i64 x.f, .int .i64 x.t, .int .i64 x.b, .int .i64 x.a, .int .i64 x.c, .slice p.eA p.en p.ec, .slice p.kA p.kn p.kc, .slice p.pA p.pn p.pc] 26] ∧ (z = true → ¬ Msound x) ∧ (z = false → (mof x.k = 1 ∨ x.es.length = 0) ∧ (mof x.k = 2 ∨ x.ks.length = 0) ∧ (mof x.k = 3 ∨ x.ps.length = 0) ∧ (mof x.k = 4 ∨ x.c = 0))) := ⟨(fun (z : Bool) => fun (w87 : World) => Sat w w87 [Blk b2 [.int .i64 x.k, .int .i64 x.f, .int .i64 x.t, .int .i64 x.b, .int .i64 x.a, .int .i64 x.c, .slice p.eA p.en p.ec, .slice p.kA p.kn p.kc, .slice p.pA p.pn p.pc] 26] ∧ (z = true → ¬ Msound x) ∧ (z = false → (mof x.k = 1 ∨ x.es.length = 0) ∧ (mof x.k = 2 ∨ x.ks.length = 0) ∧ (mof x.k = 3 ∨ x.ps.length = 0) ∧ (mof x.k = 4 ∨ x.c = 0))), fun _ _ => rfl⟩
                  refine St_join En85 Iv86 ?_ ?_
                  · skip
                    refine St_ifPK rfl (fun h88 => ?_) (fun h88 => ?_)
                    · skip
                      refine St_skip ?_
                      refine Jm_join true ?_ ?_
                      · rw [hEn85]; exact (subE_cons rfl (subE_cons rfl (subE_cons rfl subE_nil)))
                      · skip
                        rw [hIv86]
                        first
                        | exact ⟨hs, fun _ q => by have := sound_num q; omega, (fun h => absurd h tf)⟩
                        | exact ⟨hs, hz1, hz2⟩
                        | exact ⟨hs, (fun h => absurd h ft), fun _ => ⟨by omega, by omega, by omega, by omega⟩⟩
                        | exact ⟨hs, fun h q => by have h2 := of_decide_eq_true h; have := sound_num q; omega, fun h => by have h2 := of_decide_eq_false h; exact ⟨by omega, by omega, by omega, by omega⟩⟩
                        | (refine ⟨hs, (fun h => absurd h ft), fun _ => ?_⟩; exact ⟨by omega, by omega, by omega, by omega⟩)
                    · skip
                      refine St_seq ?_
                      refine St_region ?_
                      refine Ls_run (run_move rfl) rfl ?_
                      refine Ls_run (run_neq rfl rfl) rfl ?_
                      refine Ls_run (run_move rfl) rfl ?_
                      refine Ls_partP (t := 52) rfl (fun h89 => ?_) (fun h89 => ?_)
                      · skip
                        refine Ls_on rfl rfl ?_
                        refine Ls_run (run_as (run_field Try.underlying26 rfl inf24 (by decide) rfl) (show _ = Value.pointer (some ⟨b2, 8, none⟩) from rfl)) rfl ?_
                        refine Ls_on rfl rfl ?_
                        refine Ls_run (run_load sc24 rfl (hs.blk_at 0 rfl 8 rfl)) rfl ?_
                        refine Ls_on rfl rfl ?_
                        refine Ls_run (run_len Try.underlying24 rfl) rfl ?_
                        refine Ls_on rfl rfl ?_
                        refine Ls_run (run_gtr rfl rfl) rfl ?_
                        refine Ls_run (run_pick_t rfl rfl) rfl ?_
                        refine Ls_run (run_assign rfl) rfl ?_
                        refine Ls_nil ?_
                        refine Jm_seq ?_
                        obtain ⟨En90, hEn90⟩ : ∃ F : Bool → Env, ∀ (z : Bool), F z = [(1, .pointer (some ⟨b2, 0, none⟩)), (3, .int .i64 (mof x.k)), (33, .bool z)] := ⟨(fun (z : Bool) => [(1, .pointer (some ⟨b2, 0, none⟩)), (3, .int .i64 (mof x.k)), (33, .bool z)]), fun _ => rfl⟩
                        obtain ⟨Iv91, hIv91⟩ : ∃ F : Bool → World → Prop, ∀ (z : Bool) (w92 : World), F z w92 = (Sat w w92 [Blk b2 [.int .i64 x.k, .int .i64 x.f, .int .i64 x.t, .int .i64 x.b, .int .i64 x.a, .int .i64 x.c, .slice p.eA p.en p.ec, .slice p.kA p.kn p.kc, .slice p.pA p.pn p.pc] 26] ∧ (z = true → ¬ Msound x) ∧ (z = false → (mof x.k = 1 ∨ x.es.length = 0) ∧ (mof x.k = 2 ∨ x.ks.length = 0) ∧ (mof x.k = 3 ∨ x.ps.length = 0) ∧ (mof x.k = 4 ∨ x.c = 0))) := ⟨(fun (z : Bool) => fun (w92 : World) => Sat w w92 [Blk b2 [.int .i64 x.k, .int .i64 x.f, .int .i64 x.t, .int .i64 x.b, .int .i64 x.a, .int .i64 x.c, .slice p.eA p.en p.ec, .slice p.kA p.kn p.kc, .slice p.pA p.pn p.pc] 26] ∧ (z = true → ¬ Msound x) ∧ (z = false → (mof x.k = 1 ∨ x.es.length = 0) ∧ (mof x.k = 2 ∨ x.ks.length = 0) ∧ (mof x.k = 3 ∨ x.ps.length = 0) ∧ (mof x.k = 4 ∨ x.c = 0))), fun _ _ => rfl⟩
                        refine St_join En90 Iv91 ?_ ?_
                        · skip
                          refine St_ifPK rfl (fun h93 => ?_) (fun h93 => ?_)
                          · skip
                            refine St_skip ?_
                            refine Jm_join true ?_ ?_
                            · rw [hEn90]; exact (subE_cons rfl (subE_cons rfl (subE_cons rfl subE_nil)))
                            · skip
                              rw [hIv91]
                              first
                              | exact ⟨hs, fun _ q => by have := sound_num q; omega, (fun h => absurd h tf)⟩
                              | exact ⟨hs, hz1, hz2⟩
                              | exact ⟨hs, (fun h => absurd h ft), fun _ => ⟨by omega, by omega, by omega, by omega⟩⟩
                              | exact ⟨hs, fun h q => by have h2 := of_decide_eq_true h; have := sound_num q; omega, fun h => by have h2 := of_decide_eq_false h; exact ⟨by omega, by omega, by omega, by omega⟩⟩
                              | (refine ⟨hs, (fun h => absurd h ft), fun _ => ?_⟩; exact ⟨by omega, by omega, by omega, by omega⟩)
                          · skip
                            refine St_region ?_
                            refine Ls_run (run_move rfl) rfl ?_
                            refine Ls_run (run_neq rfl rfl) rfl ?_
                            refine Ls_run (run_move rfl) rfl ?_
                            refine Ls_partP (t := 60) rfl (fun h94 => ?_) (fun h94 => ?_)
                            · skip
                              refine Ls_on rfl rfl ?_
                              refine Ls_run (run_as (run_field Try.underlying26 rfl inf3 (by decide) rfl) (show _ = Value.pointer (some ⟨b2, 5, none⟩) from rfl)) rfl ?_
                              refine Ls_on rfl rfl ?_
                              refine Ls_run (run_load sc3 rfl (hs.blk_at 0 rfl 5 rfl)) rfl ?_
                              refine Ls_on rfl rfl ?_
                              refine Ls_run (run_neq rfl rfl) rfl ?_
                              refine Ls_run (run_pick_t rfl rfl) rfl ?_
                              refine Ls_run (run_assign rfl) rfl ?_
                              refine Ls_nil ?_
                              refine Jm_join (decide (x.c ≠ 0)) ?_ ?_
                              · rw [hEn90]; exact (subE_cons rfl (subE_cons rfl (subE_cons rfl subE_nil)))
                              · skip
                                rw [hIv91]
                                first
                                | exact ⟨hs, fun _ q => by have := sound_num q; omega, (fun h => absurd h tf)⟩
                                | exact ⟨hs, hz1, hz2⟩
                                | exact ⟨hs, (fun h => absurd h ft), fun _ => ⟨by omega, by omega, by omega, by omega⟩⟩
                                | exact ⟨hs, fun h q => by have h2 := of_decide_eq_true h; have := sound_num q; omega, fun h => by have h2 := of_decide_eq_false h; exact ⟨by omega, by omega, by omega, by omega⟩⟩
                                | (refine ⟨hs, (fun h => absurd h ft), fun _ => ?_⟩; exact ⟨by omega, by omega, by omega, by omega⟩)
                            · skip
                              refine Ls_off rfl rfl rfl rfl ?_
                              refine Ls_off rfl rfl rfl rfl ?_
                              refine Ls_off rfl rfl rfl rfl ?_
                              refine Ls_run (run_pick_f rfl rfl) rfl ?_
                              refine Ls_run (run_assign rfl) rfl ?_
                              refine Ls_nil ?_
                              refine Jm_join false ?_ ?_
                              · rw [hEn90]; exact (subE_cons rfl (subE_cons rfl (subE_cons rfl subE_nil)))
                              · skip
                                rw [hIv91]
                                first
                                | exact ⟨hs, fun _ q => by have := sound_num q; omega, (fun h => absurd h tf)⟩
                                | exact ⟨hs, hz1, hz2⟩
                                | exact ⟨hs, (fun h => absurd h ft), fun _ => ⟨by omega, by omega, by omega, by omega⟩⟩
                                | exact ⟨hs, fun h q => by have h2 := of_decide_eq_true h; have := sound_num q; omega, fun h => by have h2 := of_decide_eq_false h; exact ⟨by omega, by omega, by omega, by omega⟩⟩
                                | (refine ⟨hs, (fun h => absurd h ft), fun _ => ?_⟩; exact ⟨by omega, by omega, by omega, by omega⟩)
                        · skip
                          rintro z w92 hI95
                          rw [hIv91] at hI95
                          obtain ⟨hs, hz1, hz2⟩ := hI95
                          refine Jm_eqE (hEn90 _) ?_
                          refine Jm_join z ?_ ?_
                          · rw [hEn85]; exact (subE_cons rfl (subE_cons rfl (subE_cons rfl subE_nil)))
                          · skip
                            rw [hIv86]
                            first
                            | exact ⟨hs, fun _ q => by have := sound_num q; omega, (fun h => absurd h tf)⟩
                            | exact ⟨hs, hz1, hz2⟩
                            | exact ⟨hs, (fun h => absurd h ft), fun _ => ⟨by omega, by omega, by omega, by omega⟩⟩
                            | exact ⟨hs, fun h q => by have h2 := of_decide_eq_true h; have := sound_num q; omega, fun h => by have h2 := of_decide_eq_false h; exact ⟨by omega, by omega, by omega, by omega⟩⟩
                            | (refine ⟨hs, (fun h => absurd h ft), fun _ => ?_⟩; exact ⟨by omega, by omega, by omega, by omega⟩)
                      · skip
                        refine Ls_off rfl rfl rfl rfl ?_
                        refine Ls_off rfl rfl rfl rfl ?_
                        refine Ls_off rfl rfl rfl rfl ?_
                        refine Ls_off rfl rfl rfl rfl ?_
                        refine Ls_run (run_pick_f rfl rfl) rfl ?_
                        refine Ls_run (run_assign rfl) rfl ?_
                        refine Ls_nil ?_
                        refine Jm_seq ?_
                        obtain ⟨En96, hEn96⟩ : ∃ F : Bool → Env, ∀ (z : Bool), F z = [(1, .pointer (some ⟨b2, 0, none⟩)), (3, .int .i64 (mof x.k)), (33, .bool z)] := ⟨(fun (z : Bool) => [(1, .pointer (some ⟨b2, 0, none⟩)), (3, .int .i64 (mof x.k)), (33, .bool z)]), fun _ => rfl⟩
                        obtain ⟨Iv97, hIv97⟩ : ∃ F : Bool → World → Prop, ∀ (z : Bool) (w98 : World), F z w98 = (Sat w w98 [Blk b2 [.int .i64 x.k, .int .i64 x.f, .int .i64 x.t, .int .i64 x.b, .int .i64 x.a, .int .i64 x.c, .slice p.eA p.en p.ec, .slice p.kA p.kn p.kc, .slice p.pA p.pn p.pc] 26] ∧ (z = true → ¬ Msound x) ∧ (z = false → (mof x.k = 1 ∨ x.es.length = 0) ∧ (mof x.k = 2 ∨ x.ks.length = 0) ∧ (mof x.k = 3 ∨ x.ps.length = 0) ∧ (mof x.k = 4 ∨ x.c = 0))) := ⟨(fun (z : Bool) => fun (w98 : World) => Sat w w98 [Blk b2 [.int .i64 x.k, .int .i64 x.f, .int .i64 x.t, .int .i64 x.b, .int .i64 x.a, .int .i64 x.c, .slice p.eA p.en p.ec, .slice p.kA p.kn p.kc, .slice p.pA p.pn p.pc] 26] ∧ (z = true → ¬ Msound x) ∧ (z = false → (mof x.k = 1 ∨ x.es.length = 0) ∧ (mof x.k = 2 ∨ x.ks.length = 0) ∧ (mof x.k = 3 ∨ x.ps.length = 0) ∧ (mof x.k = 4 ∨ x.c = 0))), fun _ _ => rfl⟩
                        refine St_join En96 Iv97 ?_ ?_
                        · skip
                          refine St_iff rfl ?_
                          refine St_region ?_
                          refine Ls_run (run_move rfl) rfl ?_
                          refine Ls_run (run_neq rfl rfl) rfl ?_
                          refine Ls_run (run_move rfl) rfl ?_
                          refine Ls_partP (t := 60) rfl (fun h100 => ?_) (fun h100 => ?_)
                          · skip
                            refine Ls_on rfl rfl ?_
                            refine Ls_run (run_as (run_field Try.underlying26 rfl inf3 (by decide) rfl) (show _ = Value.pointer (some ⟨b2, 5, none⟩) from rfl)) rfl ?_
                            refine Ls_on rfl rfl ?_
                            refine Ls_run (run_load sc3 rfl (hs.blk_at 0 rfl 5 rfl)) rfl ?_
                            refine Ls_on rfl rfl ?_
                            refine Ls_run (run_neq rfl rfl) rfl ?_
                            refine Ls_run (run_pick_t rfl rfl) rfl ?_
                            refine Ls_run (run_assign rfl) rfl ?_
                            refine Ls_nil ?_
                            refine Jm_join (decide (x.c ≠ 0)) ?_ ?_
                            · rw [hEn96]; exact (subE_cons rfl (subE_cons rfl (subE_cons rfl subE_nil)))
                            · skip
                              rw [hIv97]
                              first
                              | exact ⟨hs, fun _ q => by have := sound_num q; omega, (fun h => absurd h tf)⟩
                              | exact ⟨hs, hz1, hz2⟩
                              | exact ⟨hs, (fun h => absurd h ft), fun _ => ⟨by omega, by omega, by omega, by omega⟩⟩
                              | exact ⟨hs, fun h q => by have h2 := of_decide_eq_true h; have := sound_num q; omega, fun h => by have h2 := of_decide_eq_false h; exact ⟨by omega, by omega, by omega, by omega⟩⟩
                              | (refine ⟨hs, (fun h => absurd h ft), fun _ => ?_⟩; exact ⟨by omega, by omega, by omega, by omega⟩)
                          · skip
                            refine Ls_off rfl rfl rfl rfl ?_
                            refine Ls_off rfl rfl rfl rfl ?_
                            refine Ls_off rfl rfl rfl rfl ?_
                            refine Ls_run (run_pick_f rfl rfl) rfl ?_
                            refine Ls_run (run_assign rfl) rfl ?_
                            refine Ls_nil ?_
                            refine Jm_join false ?_ ?_
                            · rw [hEn96]; exact (subE_cons rfl (subE_cons rfl (subE_cons rfl subE_nil)))
                            · skip
                              rw [hIv97]
                              first
                              | exact ⟨hs, fun _ q => by have := sound_num q; omega, (fun h => absurd h tf)⟩
                              | exact ⟨hs, hz1, hz2⟩
                              | exact ⟨hs, (fun h => absurd h ft), fun _ => ⟨by omega, by omega, by omega, by omega⟩⟩
                              | exact ⟨hs, fun h q => by have h2 := of_decide_eq_true h; have := sound_num q; omega, fun h => by have h2 := of_decide_eq_false h; exact ⟨by omega, by omega, by omega, by omega⟩⟩
                              | (refine ⟨hs, (fun h => absurd h ft), fun _ => ?_⟩; exact ⟨by omega, by omega, by omega, by omega⟩)
                        · skip
                          rintro z w98 hI101
                          rw [hIv97] at hI101
                          obtain ⟨hs, hz1, hz2⟩ := hI101
                          refine Jm_eqE (hEn96 _) ?_
                          refine Jm_join z ?_ ?_
                          · rw [hEn85]; exact (subE_cons rfl (subE_cons rfl (subE_cons rfl subE_nil)))
                          · skip
                            rw [hIv86]
                            first
                            | exact ⟨hs, fun _ q => by have := sound_num q; omega, (fun h => absurd h tf)⟩
                            | exact ⟨hs, hz1, hz2⟩
                            | exact ⟨hs, (fun h => absurd h ft), fun _ => ⟨by omega, by omega, by omega, by omega⟩⟩
                            | exact ⟨hs, fun h q => by have h2 := of_decide_eq_true h; have := sound_num q; omega, fun h => by have h2 := of_decide_eq_false h; exact ⟨by omega, by omega, by omega, by omega⟩⟩
                            | (refine ⟨hs, (fun h => absurd h ft), fun _ => ?_⟩; exact ⟨by omega, by omega, by omega, by omega⟩)
                  · skip
                    rintro z w87 hI102
                    rw [hIv86] at hI102
                    obtain ⟨hs, hz1, hz2⟩ := hI102
                    refine Jm_eqE (hEn85 _) ?_
                    refine Jm_join z ?_ ?_
                    · rw [hEn80]; exact (subE_cons rfl (subE_cons rfl (subE_cons rfl subE_nil)))
                    · skip
                      rw [hIv81]
                      first
                      | exact ⟨hs, fun _ q => by have := sound_num q; omega, (fun h => absurd h tf)⟩
                      | exact ⟨hs, hz1, hz2⟩
                      | exact ⟨hs, (fun h => absurd h ft), fun _ => ⟨by omega, by omega, by omega, by omega⟩⟩
                      | exact ⟨hs, fun h q => by have h2 := of_decide_eq_true h; have := sound_num q; omega, fun h => by have h2 := of_decide_eq_false h; exact ⟨by omega, by omega, by omega, by omega⟩⟩
                      | (refine ⟨hs, (fun h => absurd h ft), fun _ => ?_⟩; exact ⟨by omega, by omega, by omega, by omega⟩)
                · skip
                  refine Ls_off rfl rfl rfl rfl ?_
                  refine Ls_off rfl rfl rfl rfl ?_
                  refine Ls_off rfl rfl rfl rfl ?_
                  refine Ls_off rfl rfl rfl rfl ?_
                  refine Ls_run (run_pick_f rfl rfl) rfl ?_
                  refine Ls_run (run_assign rfl) rfl ?_
                  refine Ls_nil ?_
                  refine Jm_seq ?_
                  obtain ⟨En103, hEn103⟩ : ∃ F : Bool → Env, ∀ (z : Bool), F z = [(1, .pointer (some ⟨b2, 0, none⟩)), (3, .int .i64 (mof x.k)), (33, .bool z)] := ⟨(fun (z : Bool) => [(1, .pointer (some ⟨b2, 0, none⟩)), (3, .int .i64 (mof x.k)), (33, .bool z)]), fun _ => rfl⟩
                  obtain ⟨Iv104, hIv104⟩ : ∃ F : Bool → World → Prop, ∀ (z : Bool) (w105 : World), F z w105 = (Sat w w105 [Blk b2 [.int .i64 x.k, .int .i64 x.f, .int .i64 x.t, .int .i64 x.b, .int .i64 x.a, .int .i64 x.c, .slice p.eA p.en p.ec, .slice p.kA p.kn p.kc, .slice p.pA p.pn p.pc] 26] ∧ (z = true → ¬ Msound x) ∧ (z = false → (mof x.k = 1 ∨ x.es.length = 0) ∧ (mof x.k = 2 ∨ x.ks.length = 0) ∧ (mof x.k = 3 ∨ x.ps.length = 0) ∧ (mof x.k = 4 ∨ x.c = 0))) := ⟨(fun (z : Bool) => fun (w105 : World) => Sat w w105 [Blk b2 [.int .i64 x.k, .int .i64 x.f, .int .i64 x.t, .int .i64 x.b, .int .i64 x.a, .int .i64 x.c, .slice p.eA p.en p.ec, .slice p.kA p.kn p.kc, .slice p.pA p.pn p.pc] 26] ∧ (z = true → ¬ Msound x) ∧ (z = false → (mof x.k = 1 ∨ x.es.length = 0) ∧ (mof x.k = 2 ∨ x.ks.length = 0) ∧ (mof x.k = 3 ∨ x.ps.length = 0) ∧ (mof x.k = 4 ∨ x.c = 0))), fun _ _ => rfl⟩
                  refine St_join En103 Iv104 ?_ ?_
                  · skip
                    refine St_iff rfl ?_
                    refine St_seq ?_
                    refine St_region ?_
                    refine Ls_run (run_move rfl) rfl ?_
                    refine Ls_run (run_neq rfl rfl) rfl ?_
                    refine Ls_run (run_move rfl) rfl ?_
                    refine Ls_partP (t := 52) rfl (fun h107 => ?_) (fun h107 => ?_)
                    · skip
                      refine Ls_on rfl rfl ?_
                      refine Ls_run (run_as (run_field Try.underlying26 rfl inf24 (by decide) rfl) (show _ = Value.pointer (some ⟨b2, 8, none⟩) from rfl)) rfl ?_
                      refine Ls_on rfl rfl ?_
                      refine Ls_run (run_load sc24 rfl (hs.blk_at 0 rfl 8 rfl)) rfl ?_
                      refine Ls_on rfl rfl ?_
                      refine Ls_run (run_len Try.underlying24 rfl) rfl ?_
                      refine Ls_on rfl rfl ?_
                      refine Ls_run (run_gtr rfl rfl) rfl ?_
                      refine Ls_run (run_pick_t rfl rfl) rfl ?_
                      refine Ls_run (run_assign rfl) rfl ?_
                      refine Ls_nil ?_
                      refine Jm_seq ?_
                      obtain ⟨En108, hEn108⟩ : ∃ F : Bool → Env, ∀ (z : Bool), F z = [(1, .pointer (some ⟨b2, 0, none⟩)), (3, .int .i64 (mof x.k)), (33, .bool z)] := ⟨(fun (z : Bool) => [(1, .pointer (some ⟨b2, 0, none⟩)), (3, .int .i64 (mof x.k)), (33, .bool z)]), fun _ => rfl⟩
                      obtain ⟨Iv109, hIv109⟩ : ∃ F : Bool → World → Prop, ∀ (z : Bool) (w110 : World), F z w110 = (Sat w w110 [Blk b2 [.int .i64 x.k, .int .i64 x.f, .int .i64 x.t, .int .i64 x.b, .int .i64 x.a, .int .i64 x.c, .slice p.eA p.en p.ec, .slice p.kA p.kn p.kc, .slice p.pA p.pn p.pc] 26] ∧ (z = true → ¬ Msound x) ∧ (z = false → (mof x.k = 1 ∨ x.es.length = 0) ∧ (mof x.k = 2 ∨ x.ks.length = 0) ∧ (mof x.k = 3 ∨ x.ps.length = 0) ∧ (mof x.k = 4 ∨ x.c = 0))) := ⟨(fun (z : Bool) => fun (w110 : World) => Sat w w110 [Blk b2 [.int .i64 x.k, .int .i64 x.f, .int .i64 x.t, .int .i64 x.b, .int .i64 x.a, .int .i64 x.c, .slice p.eA p.en p.ec, .slice p.kA p.kn p.kc, .slice p.pA p.pn p.pc] 26] ∧ (z = true → ¬ Msound x) ∧ (z = false → (mof x.k = 1 ∨ x.es.length = 0) ∧ (mof x.k = 2 ∨ x.ks.length = 0) ∧ (mof x.k = 3 ∨ x.ps.length = 0) ∧ (mof x.k = 4 ∨ x.c = 0))), fun _ _ => rfl⟩
                      refine St_join En108 Iv109 ?_ ?_
                      · skip
                        refine St_ifPK rfl (fun h111 => ?_) (fun h111 => ?_)
                        · skip
                          refine St_skip ?_
                          refine Jm_join true ?_ ?_
                          · rw [hEn108]; exact (subE_cons rfl (subE_cons rfl (subE_cons rfl subE_nil)))
                          · skip
                            rw [hIv109]
                            first
                            | exact ⟨hs, fun _ q => by have := sound_num q; omega, (fun h => absurd h tf)⟩
                            | exact ⟨hs, hz1, hz2⟩
                            | exact ⟨hs, (fun h => absurd h ft), fun _ => ⟨by omega, by omega, by omega, by omega⟩⟩
                            | exact ⟨hs, fun h q => by have h2 := of_decide_eq_true h; have := sound_num q; omega, fun h => by have h2 := of_decide_eq_false h; exact ⟨by omega, by omega, by omega, by omega⟩⟩
                            | (refine ⟨hs, (fun h => absurd h ft), fun _ => ?_⟩; exact ⟨by omega, by omega, by omega, by omega⟩)
                        · skip
                          refine St_region ?_
                          refine Ls_run (run_move rfl) rfl ?_
                          refine Ls_run (run_neq rfl rfl) rfl ?_
                          refine Ls_run (run_move rfl) rfl ?_
                          refine Ls_partP (t := 60) rfl (fun h112 => ?_) (fun h112 => ?_)
                          · skip
                            refine Ls_on rfl rfl ?_
                            refine Ls_run (run_as (run_field Try.underlying26 rfl inf3 (by decide) rfl) (show _ = Value.pointer (some ⟨b2, 5, none⟩) from rfl)) rfl ?_
                            refine Ls_on rfl rfl ?_
                            refine Ls_run (run_load sc3 rfl (hs.blk_at 0 rfl 5 rfl)) rfl ?_
                            refine Ls_on rfl rfl ?_
                            refine Ls_run (run_neq rfl rfl) rfl ?_
                            refine Ls_run (run_pick_t rfl rfl) rfl ?_
                            refine Ls_run (run_assign rfl) rfl ?_
                            refine Ls_nil ?_
                            refine Jm_join (decide (x.c ≠ 0)) ?_ ?_
                            · rw [hEn108]; exact (subE_cons rfl (subE_cons rfl (subE_cons rfl subE_nil)))
                            · skip
                              rw [hIv109]
                              first
                              | exact ⟨hs, fun _ q => by have := sound_num q; omega, (fun h => absurd h tf)⟩
                              | exact ⟨hs, hz1, hz2⟩
                              | exact ⟨hs, (fun h => absurd h ft), fun _ => ⟨by omega, by omega, by omega, by omega⟩⟩
                              | exact ⟨hs, fun h q => by have h2 := of_decide_eq_true h; have := sound_num q; omega, fun h => by have h2 := of_decide_eq_false h; exact ⟨by omega, by omega, by omega, by omega⟩⟩
                              | (refine ⟨hs, (fun h => absurd h ft), fun _ => ?_⟩; exact ⟨by omega, by omega, by omega, by omega⟩)
                          · skip
                            refine Ls_off rfl rfl rfl rfl ?_
                            refine Ls_off rfl rfl rfl rfl ?_
                            refine Ls_off rfl rfl rfl rfl ?_
                            refine Ls_run (run_pick_f rfl rfl) rfl ?_
                            refine Ls_run (run_assign rfl) rfl ?_
                            refine Ls_nil ?_
                            refine Jm_join false ?_ ?_
                            · rw [hEn108]; exact (subE_cons rfl (subE_cons rfl (subE_cons rfl subE_nil)))
                            · skip
                              rw [hIv109]
                              first
                              | exact ⟨hs, fun _ q => by have := sound_num q; omega, (fun h => absurd h tf)⟩
                              | exact ⟨hs, hz1, hz2⟩
                              | exact ⟨hs, (fun h => absurd h ft), fun _ => ⟨by omega, by omega, by omega, by omega⟩⟩
                              | exact ⟨hs, fun h q => by have h2 := of_decide_eq_true h; have := sound_num q; omega, fun h => by have h2 := of_decide_eq_false h; exact ⟨by omega, by omega, by omega, by omega⟩⟩
                              | (refine ⟨hs, (fun h => absurd h ft), fun _ => ?_⟩; exact ⟨by omega, by omega, by omega, by omega⟩)
                      · skip
                        rintro z w110 hI113
                        rw [hIv109] at hI113
                        obtain ⟨hs, hz1, hz2⟩ := hI113
                        refine Jm_eqE (hEn108 _) ?_
                        refine Jm_join z ?_ ?_
                        · rw [hEn103]; exact (subE_cons rfl (subE_cons rfl (subE_cons rfl subE_nil)))
                        · skip
                          rw [hIv104]
                          first
                          | exact ⟨hs, fun _ q => by have := sound_num q; omega, (fun h => absurd h tf)⟩
                          | exact ⟨hs, hz1, hz2⟩
                          | exact ⟨hs, (fun h => absurd h ft), fun _ => ⟨by omega, by omega, by omega, by omega⟩⟩
                          | exact ⟨hs, fun h q => by have h2 := of_decide_eq_true h; have := sound_num q; omega, fun h => by have h2 := of_decide_eq_false h; exact ⟨by omega, by omega, by omega, by omega⟩⟩
                          | (refine ⟨hs, (fun h => absurd h ft), fun _ => ?_⟩; exact ⟨by omega, by omega, by omega, by omega⟩)
                    · skip
                      refine Ls_off rfl rfl rfl rfl ?_
                      refine Ls_off rfl rfl rfl rfl ?_
                      refine Ls_off rfl rfl rfl rfl ?_
                      refine Ls_off rfl rfl rfl rfl ?_
                      refine Ls_run (run_pick_f rfl rfl) rfl ?_
                      refine Ls_run (run_assign rfl) rfl ?_
                      refine Ls_nil ?_
                      refine Jm_seq ?_
                      obtain ⟨En114, hEn114⟩ : ∃ F : Bool → Env, ∀ (z : Bool), F z = [(1, .pointer (some ⟨b2, 0, none⟩)), (3, .int .i64 (mof x.k)), (33, .bool z)] := ⟨(fun (z : Bool) => [(1, .pointer (some ⟨b2, 0, none⟩)), (3, .int .i64 (mof x.k)), (33, .bool z)]), fun _ => rfl⟩
                      obtain ⟨Iv115, hIv115⟩ : ∃ F : Bool → World → Prop, ∀ (z : Bool) (w116 : World), F z w116 = (Sat w w116 [Blk b2 [.int .i64 x.k, .int .i64 x.f, .int .i64 x.t, .int .i64 x.b, .int .i64 x.a, .int .i64 x.c, .slice p.eA p.en p.ec, .slice p.kA p.kn p.kc, .slice p.pA p.pn p.pc] 26] ∧ (z = true → ¬ Msound x) ∧ (z = false → (mof x.k = 1 ∨ x.es.length = 0) ∧ (mof x.k = 2 ∨ x.ks.length = 0) ∧ (mof x.k = 3 ∨ x.ps.length = 0) ∧ (mof x.k = 4 ∨ x.c = 0))) := ⟨(fun (z : Bool) => fun (w116 : World) => Sat w w116 [Blk b2 [.int .i64 x.k, .int .i64 x.f, .int .i64 x.t, .int .i64 x.b, .int .i64 x.a, .int .i64 x.c, .slice p.eA p.en p.ec, .slice p.kA p.kn p.kc, .slice p.pA p.pn p.pc] 26] ∧ (z = true → ¬ Msound x) ∧ (z = false → (mof x.k = 1 ∨ x.es.length = 0) ∧ (mof x.k = 2 ∨ x.ks.length = 0) ∧ (mof x.k = 3 ∨ x.ps.length = 0) ∧ (mof x.k = 4 ∨ x.c = 0))), fun _ _ => rfl⟩
                      refine St_join En114 Iv115 ?_ ?_
                      · skip
                        refine St_iff rfl ?_
                        refine St_region ?_
                        refine Ls_run (run_move rfl) rfl ?_
                        refine Ls_run (run_neq rfl rfl) rfl ?_
                        refine Ls_run (run_move rfl) rfl ?_
                        refine Ls_partP (t := 60) rfl (fun h118 => ?_) (fun h118 => ?_)
                        · skip
                          refine Ls_on rfl rfl ?_
                          refine Ls_run (run_as (run_field Try.underlying26 rfl inf3 (by decide) rfl) (show _ = Value.pointer (some ⟨b2, 5, none⟩) from rfl)) rfl ?_
                          refine Ls_on rfl rfl ?_
                          refine Ls_run (run_load sc3 rfl (hs.blk_at 0 rfl 5 rfl)) rfl ?_
                          refine Ls_on rfl rfl ?_
                          refine Ls_run (run_neq rfl rfl) rfl ?_
                          refine Ls_run (run_pick_t rfl rfl) rfl ?_
                          refine Ls_run (run_assign rfl) rfl ?_
                          refine Ls_nil ?_
                          refine Jm_join (decide (x.c ≠ 0)) ?_ ?_
                          · rw [hEn114]; exact (subE_cons rfl (subE_cons rfl (subE_cons rfl subE_nil)))
                          · skip
                            rw [hIv115]
                            first
                            | exact ⟨hs, fun _ q => by have := sound_num q; omega, (fun h => absurd h tf)⟩
                            | exact ⟨hs, hz1, hz2⟩
                            | exact ⟨hs, (fun h => absurd h ft), fun _ => ⟨by omega, by omega, by omega, by omega⟩⟩
                            | exact ⟨hs, fun h q => by have h2 := of_decide_eq_true h; have := sound_num q; omega, fun h => by have h2 := of_decide_eq_false h; exact ⟨by omega, by omega, by omega, by omega⟩⟩
                            | (refine ⟨hs, (fun h => absurd h ft), fun _ => ?_⟩; exact ⟨by omega, by omega, by omega, by omega⟩)
                        · skip
                          refine Ls_off rfl rfl rfl rfl ?_
                          refine Ls_off rfl rfl rfl rfl ?_
                          refine Ls_off rfl rfl rfl rfl ?_
                          refine Ls_run (run_pick_f rfl rfl) rfl ?_
                          refine Ls_run (run_assign rfl) rfl ?_
                          refine Ls_nil ?_
                          refine Jm_join false ?_ ?_
                          · rw [hEn114]; exact (subE_cons rfl (subE_cons rfl (subE_cons rfl subE_nil)))
                          · skip
                            rw [hIv115]
                            first
                            | exact ⟨hs, fun _ q => by have := sound_num q; omega, (fun h => absurd h tf)⟩
                            | exact ⟨hs, hz1, hz2⟩
                            | exact ⟨hs, (fun h => absurd h ft), fun _ => ⟨by omega, by omega, by omega, by omega⟩⟩
                            | exact ⟨hs, fun h q => by have h2 := of_decide_eq_true h; have := sound_num q; omega, fun h => by have h2 := of_decide_eq_false h; exact ⟨by omega, by omega, by omega, by omega⟩⟩
                            | (refine ⟨hs, (fun h => absurd h ft), fun _ => ?_⟩; exact ⟨by omega, by omega, by omega, by omega⟩)
                      · skip
                        rintro z w116 hI119
                        rw [hIv115] at hI119
                        obtain ⟨hs, hz1, hz2⟩ := hI119
                        refine Jm_eqE (hEn114 _) ?_
                        refine Jm_join z ?_ ?_
                        · rw [hEn103]; exact (subE_cons rfl (subE_cons rfl (subE_cons rfl subE_nil)))
                        · skip
                          rw [hIv104]
                          first
                          | exact ⟨hs, fun _ q => by have := sound_num q; omega, (fun h => absurd h tf)⟩
                          | exact ⟨hs, hz1, hz2⟩
                          | exact ⟨hs, (fun h => absurd h ft), fun _ => ⟨by omega, by omega, by omega, by omega⟩⟩
                          | exact ⟨hs, fun h q => by have h2 := of_decide_eq_true h; have := sound_num q; omega, fun h => by have h2 := of_decide_eq_false h; exact ⟨by omega, by omega, by omega, by omega⟩⟩
                          | (refine ⟨hs, (fun h => absurd h ft), fun _ => ?_⟩; exact ⟨by omega, by omega, by omega, by omega⟩)
                  · skip
                    rintro z w105 hI120
                    rw [hIv104] at hI120
                    obtain ⟨hs, hz1, hz2⟩ := hI120
                    refine Jm_eqE (hEn103 _) ?_
                    refine Jm_join z ?_ ?_
                    · rw [hEn80]; exact (subE_cons rfl (subE_cons rfl (subE_cons rfl subE_nil)))
                    · skip
                      rw [hIv81]
                      first
                      | exact ⟨hs, fun _ q => by have := sound_num q; omega, (fun h => absurd h tf)⟩
                      | exact ⟨hs, hz1, hz2⟩
                      | exact ⟨hs, (fun h => absurd h ft), fun _ => ⟨by omega, by omega, by omega, by omega⟩⟩
                      | exact ⟨hs, fun h q => by have h2 := of_decide_eq_true h; have := sound_num q; omega, fun h => by have h2 := of_decide_eq_false h; exact ⟨by omega, by omega, by omega, by omega⟩⟩
                      | (refine ⟨hs, (fun h => absurd h ft), fun _ => ?_⟩; exact ⟨by omega, by omega, by omega, by omega⟩)
              · skip
                rintro z w82 hI121
                rw [hIv81] at hI121
                obtain ⟨hs, hz1, hz2⟩ := hI121
                refine Jm_eqE (hEn80 _) ?_
                refine Jm_seq ?_
                refine St_ifK rfl (fun h122 => ?_) (fun h122 => ?_)
                · skip
                  refine St_seq ?_
                  refine St_region ?_
                  refine Ls_run (run_assign rfl) rfl ?_
                  refine Ls_nil ?_
                  refine Jm_seq ?_
                  refine St_ret ?_
                  refine Jm_block_ret (Jm_then_ret  ?_)
                  refine Jm_ret1 rfl rfl ?_
                  refine ⟨_, rfl, ?_, hs.forget⟩
                  first
                  | exact congrArg Value.bool (decide_eq_false (fun q => by have := sound_num q; omega)).symm
                  | exact congrArg Value.bool (decide_eq_false (hz1 (by assumption))).symm
                  | (have hz3 := hz2 (by assumption)
                     have hh : Mhead x := ⟨by omega, by omega, by omega, by omega, by omega, hz3.1, hz3.2.1, hz3.2.2.1, hz3.2.2.2⟩
                     refine congrArg Value.bool (decide_eq_decide.2 ?_)
                     rw [sound_iff hh]
                     first
                     | exact ⟨fun q => ⟨fun _ => q, fun e => by omega, fun e => by omega, fun e => by omega⟩, fun q => q.1 (by omega)⟩
                     | exact ⟨fun q => ⟨fun e => by omega, fun _ => ⟨by omega, q⟩, fun e => by omega, fun e => by omega⟩, fun q => (q.2.1 (by omega)).2⟩
                     | exact ⟨fun q => ⟨fun e => by omega, fun e => by omega, fun _ => ⟨by omega, q⟩, fun e => by omega⟩, fun q => (q.2.2.1 (by omega)).2⟩
                     | exact ⟨fun q => ⟨fun e => by omega, fun e => by omega, fun e => by omega, fun _ => q⟩, fun q => q.2.2.2 (by omega)⟩)
                · skip
                  refine St_skip ?_
                  refine Jm_block_normal (Jm_seq ?_)
                  refine St_seq ?_
                  refine St_seq ?_
                  refine St_region ?_
                  refine Ls_run (run_move rfl) rfl ?_
                  refine Ls_nil ?_
                  refine Jm_seq ?_
                  refine St_block ?_
                  refine St_seq ?_
                  refine St_region ?_
                  refine Ls_run (run_eql rfl rfl) rfl ?_
                  refine Ls_run (run_assign rfl) rfl ?_
                  refine Ls_nil ?_
                  refine Jm_seq ?_
                  refine St_ifP rfl (fun h123 => ?_) (fun h123 => ?_)
                  · skip
                    refine St_seq ?_
                    refine St_region ?_
                    refine Ls_run (run_as (run_field Try.underlying26 rfl inf22 (by decide) rfl) (show _ = Value.pointer (some ⟨b2, 6, none⟩) from rfl)) rfl ?_
                    refine Ls_run (run_load sc22 rfl (hs.blk_at 0 rfl 6 rfl)) rfl ?_
                    refine Ls_call Try.func72 nm72 rfl rfl (isEnds_c w82 p.eA p.en p.ec x.es (hm.e.inB hs) hze) rfl ?_
                    rintro v124 w125 ⟨rfl, rfl⟩
                    refine Ls_run (run_assign rfl) rfl ?_
                    refine Ls_nil ?_
                    refine Jm_seq ?_
                    refine St_ret ?_
                    refine Jm_block_ret (Jm_then_ret  ?_)
                    refine Jm_ret1 rfl rfl ?_
                    refine ⟨_, rfl, ?_, hs.forget⟩
                    first
                    | exact congrArg Value.bool (decide_eq_false (fun q => by have := sound_num q; omega)).symm
                    | exact congrArg Value.bool (decide_eq_false (hz1 (by assumption))).symm
                    | (have hz3 := hz2 (by assumption)
                       have hh : Mhead x := ⟨by omega, by omega, by omega, by omega, by omega, hz3.1, hz3.2.1, hz3.2.2.1, hz3.2.2.2⟩
                       refine congrArg Value.bool (decide_eq_decide.2 ?_)
                       rw [sound_iff hh]
                       first
                       | exact ⟨fun q => ⟨fun _ => q, fun e => by omega, fun e => by omega, fun e => by omega⟩, fun q => q.1 (by omega)⟩
                       | exact ⟨fun q => ⟨fun e => by omega, fun _ => ⟨by omega, q⟩, fun e => by omega, fun e => by omega⟩, fun q => (q.2.1 (by omega)).2⟩
                       | exact ⟨fun q => ⟨fun e => by omega, fun e => by omega, fun _ => ⟨by omega, q⟩, fun e => by omega⟩, fun q => (q.2.2.1 (by omega)).2⟩
                       | exact ⟨fun q => ⟨fun e => by omega, fun e => by omega, fun e => by omega, fun _ => q⟩, fun q => q.2.2.2 (by omega)⟩)
                  · skip
                    refine St_seq ?_
                    refine St_region ?_
                    refine Ls_run (run_eql rfl rfl) rfl ?_
                    refine Ls_run (run_assign rfl) rfl ?_
                    refine Ls_nil ?_
                    refine Jm_seq ?_
                    refine St_ifP rfl (fun h126 => ?_) (fun h126 => ?_)
                    · skip
                      refine St_seq ?_
                      refine St_region ?_
                      refine Ls_run (run_as (run_field Try.underlying26 rfl inf23 (by decide) rfl) (show _ = Value.pointer (some ⟨b2, 7, none⟩) from rfl)) rfl ?_
                      refine Ls_run (run_load sc23 rfl (hs.blk_at 0 rfl 7 rfl)) rfl ?_
                      refine Ls_run (run_len Try.underlying23 rfl) rfl ?_
                      refine Ls_run (run_leq rfl rfl) rfl ?_
                      refine Ls_run (run_move rfl) rfl ?_
                      refine Ls_partP (t := 77) rfl (fun h127 => ?_) (fun h127 => ?_)
                      · skip
                        refine Ls_on rfl rfl ?_
                        refine Ls_run (run_as (run_field Try.underlying26 rfl inf23 (by decide) rfl) (show _ = Value.pointer (some ⟨b2, 7, none⟩) from rfl)) rfl ?_
                        refine Ls_on rfl rfl ?_
                        refine Ls_run (run_load sc23 rfl (hs.blk_at 0 rfl 7 rfl)) rfl ?_
                        refine Ls_on rfl rfl ?_
                        refine Ls_call Try.func73 nm73 rfl rfl (Rising_c w82 p.kA p.kn p.kc x.ks (hm.k.inB hs) hzk) rfl ?_
                        rintro v128 w129 ⟨rfl, rfl⟩
                        refine Ls_run (run_pick_t rfl rfl) rfl ?_
                        refine Ls_run (run_assign rfl) rfl ?_
                        refine Ls_nil ?_
                        refine Jm_seq ?_
                        refine St_ret ?_
                        refine Jm_block_ret (Jm_then_ret  ?_)
                        refine Jm_ret1 rfl rfl ?_
                        refine ⟨_, rfl, ?_, hs.forget⟩
                        first
                        | exact congrArg Value.bool (decide_eq_false (fun q => by have := sound_num q; omega)).symm
                        | exact congrArg Value.bool (decide_eq_false (hz1 (by assumption))).symm
                        | (have hz3 := hz2 (by assumption)
                           have hh : Mhead x := ⟨by omega, by omega, by omega, by omega, by omega, hz3.1, hz3.2.1, hz3.2.2.1, hz3.2.2.2⟩
                           refine congrArg Value.bool (decide_eq_decide.2 ?_)
                           rw [sound_iff hh]
                           first
                           | exact ⟨fun q => ⟨fun _ => q, fun e => by omega, fun e => by omega, fun e => by omega⟩, fun q => q.1 (by omega)⟩
                           | exact ⟨fun q => ⟨fun e => by omega, fun _ => ⟨by omega, q⟩, fun e => by omega, fun e => by omega⟩, fun q => (q.2.1 (by omega)).2⟩
                           | exact ⟨fun q => ⟨fun e => by omega, fun e => by omega, fun _ => ⟨by omega, q⟩, fun e => by omega⟩, fun q => (q.2.2.1 (by omega)).2⟩
                           | exact ⟨fun q => ⟨fun e => by omega, fun e => by omega, fun e => by omega, fun _ => q⟩, fun q => q.2.2.2 (by omega)⟩)
                      · skip
                        refine Ls_off rfl rfl rfl rfl ?_
                        refine Ls_off rfl rfl rfl rfl ?_
                        refine Ls_off rfl rfl rfl rfl ?_
                        refine Ls_run (run_pick_f rfl rfl) rfl ?_
                        refine Ls_run (run_assign rfl) rfl ?_
                        refine Ls_nil ?_
                        refine Jm_seq ?_
                        refine St_ret ?_
                        refine Jm_block_ret (Jm_then_ret  ?_)
                        refine Jm_ret1 rfl rfl ?_
                        refine ⟨_, rfl, ?_, hs.forget⟩
                        first
                        | exact congrArg Value.bool (decide_eq_false (fun q => by have := sound_num q; omega)).symm
                        | exact congrArg Value.bool (decide_eq_false (hz1 (by assumption))).symm
                        | (have hz3 := hz2 (by assumption)
                           have hh : Mhead x := ⟨by omega, by omega, by omega, by omega, by omega, hz3.1, hz3.2.1, hz3.2.2.1, hz3.2.2.2⟩
                           refine congrArg Value.bool (decide_eq_decide.2 ?_)
                           rw [sound_iff hh]
                           first
                           | exact ⟨fun q => ⟨fun _ => q, fun e => by omega, fun e => by omega, fun e => by omega⟩, fun q => q.1 (by omega)⟩
                           | exact ⟨fun q => ⟨fun e => by omega, fun _ => ⟨by omega, q⟩, fun e => by omega, fun e => by omega⟩, fun q => (q.2.1 (by omega)).2⟩
                           | exact ⟨fun q => ⟨fun e => by omega, fun e => by omega, fun _ => ⟨by omega, q⟩, fun e => by omega⟩, fun q => (q.2.2.1 (by omega)).2⟩
                           | exact ⟨fun q => ⟨fun e => by omega, fun e => by omega, fun e => by omega, fun _ => q⟩, fun q => q.2.2.2 (by omega)⟩)
                    · skip
                      refine St_seq ?_
                      refine St_region ?_
                      refine Ls_run (run_eql rfl rfl) rfl ?_
                      refine Ls_run (run_assign rfl) rfl ?_
                      refine Ls_nil ?_
                      refine Jm_seq ?_
                      refine St_ifP rfl (fun h130 => ?_) (fun h130 => ?_)
                      · skip
                        refine St_seq ?_
                        refine St_region ?_
                        refine Ls_run (run_as (run_field Try.underlying26 rfl inf24 (by decide) rfl) (show _ = Value.pointer (some ⟨b2, 8, none⟩) from rfl)) rfl ?_
                        refine Ls_run (run_load sc24 rfl (hs.blk_at 0 rfl 8 rfl)) rfl ?_
                        refine Ls_run (run_len Try.underlying24 rfl) rfl ?_
                        refine Ls_run (run_leq rfl rfl) rfl ?_
                        refine Ls_run (run_move rfl) rfl ?_
                        refine Ls_partP (t := 88) rfl (fun h131 => ?_) (fun h131 => ?_)
                        · skip
                          refine Ls_on rfl rfl ?_
                          refine Ls_run (run_as (run_field Try.underlying26 rfl inf24 (by decide) rfl) (show _ = Value.pointer (some ⟨b2, 8, none⟩) from rfl)) rfl ?_
                          refine Ls_on rfl rfl ?_
                          refine Ls_run (run_load sc24 rfl (hs.blk_at 0 rfl 8 rfl)) rfl ?_
                          refine Ls_on rfl rfl ?_
                          refine Ls_call Try.func74 nm74 rfl rfl (fSound_c w82 p.pA p.pn p.pc x.ps (hm.p.inB hs) hzp) rfl ?_
                          rintro v132 w133 ⟨rfl, hsQ134⟩
                          replace hs := hs.trans hsQ134
                          refine Ls_run (run_pick_t rfl rfl) rfl ?_
                          refine Ls_run (run_assign rfl) rfl ?_
                          refine Ls_nil ?_
                          refine Jm_seq ?_
                          refine St_ret ?_
                          refine Jm_block_ret (Jm_then_ret  ?_)
                          refine Jm_ret1 rfl rfl ?_
                          refine ⟨_, rfl, ?_, hs.forget⟩
                          first
                          | exact congrArg Value.bool (decide_eq_false (fun q => by have := sound_num q; omega)).symm
                          | exact congrArg Value.bool (decide_eq_false (hz1 (by assumption))).symm
                          | (have hz3 := hz2 (by assumption)
                             have hh : Mhead x := ⟨by omega, by omega, by omega, by omega, by omega, hz3.1, hz3.2.1, hz3.2.2.1, hz3.2.2.2⟩
                             refine congrArg Value.bool (decide_eq_decide.2 ?_)
                             rw [sound_iff hh]
                             first
                             | exact ⟨fun q => ⟨fun _ => q, fun e => by omega, fun e => by omega, fun e => by omega⟩, fun q => q.1 (by omega)⟩
                             | exact ⟨fun q => ⟨fun e => by omega, fun _ => ⟨by omega, q⟩, fun e => by omega, fun e => by omega⟩, fun q => (q.2.1 (by omega)).2⟩
                             | exact ⟨fun q => ⟨fun e => by omega, fun e => by omega, fun _ => ⟨by omega, q⟩, fun e => by omega⟩, fun q => (q.2.2.1 (by omega)).2⟩
                             | exact ⟨fun q => ⟨fun e => by omega, fun e => by omega, fun e => by omega, fun _ => q⟩, fun q => q.2.2.2 (by omega)⟩)
                        · skip
                          refine Ls_off rfl rfl rfl rfl ?_
                          refine Ls_off rfl rfl rfl rfl ?_
                          refine Ls_off rfl rfl rfl rfl ?_
                          refine Ls_run (run_pick_f rfl rfl) rfl ?_
                          refine Ls_run (run_assign rfl) rfl ?_
                          refine Ls_nil ?_
                          refine Jm_seq ?_
                          refine St_ret ?_
                          refine Jm_block_ret (Jm_then_ret  ?_)
                          refine Jm_ret1 rfl rfl ?_
                          refine ⟨_, rfl, ?_, hs.forget⟩
                          first
                          | exact congrArg Value.bool (decide_eq_false (fun q => by have := sound_num q; omega)).symm
                          | exact congrArg Value.bool (decide_eq_false (hz1 (by assumption))).symm
                          | (have hz3 := hz2 (by assumption)
                             have hh : Mhead x := ⟨by omega, by omega, by omega, by omega, by omega, hz3.1, hz3.2.1, hz3.2.2.1, hz3.2.2.2⟩
                             refine congrArg Value.bool (decide_eq_decide.2 ?_)
                             rw [sound_iff hh]
                             first
                             | exact ⟨fun q => ⟨fun _ => q, fun e => by omega, fun e => by omega, fun e => by omega⟩, fun q => q.1 (by omega)⟩
                             | exact ⟨fun q => ⟨fun e => by omega, fun _ => ⟨by omega, q⟩, fun e => by omega, fun e => by omega⟩, fun q => (q.2.1 (by omega)).2⟩
                             | exact ⟨fun q => ⟨fun e => by omega, fun e => by omega, fun _ => ⟨by omega, q⟩, fun e => by omega⟩, fun q => (q.2.2.1 (by omega)).2⟩
                             | exact ⟨fun q => ⟨fun e => by omega, fun e => by omega, fun e => by omega, fun _ => q⟩, fun q => q.2.2.2 (by omega)⟩)
                      · skip
                        refine St_skip ?_
                        refine Jm_block_normal (Jm_seq ?_)
                        refine St_seq ?_
                        refine St_region ?_
                        refine Ls_run (run_as (run_field Try.underlying26 rfl inf3 (by decide) rfl) (show _ = Value.pointer (some ⟨b2, 5, none⟩) from rfl)) rfl ?_
                        refine Ls_run (run_load sc3 rfl (hs.blk_at 0 rfl 5 rfl)) rfl ?_
                        refine Ls_call Try.func71 nm71 rfl rfl (within_c w82 0 x.c 1000) rfl ?_
                        rintro v135 w136 ⟨rfl, rfl⟩
                        refine Ls_run (run_assign rfl) rfl ?_
                        refine Ls_nil ?_
                        refine Jm_seq ?_
                        refine St_ret ?_
                        refine Jm_ret1 rfl rfl ?_
                        refine ⟨_, rfl, ?_, hs.forget⟩
                        first
                        | exact congrArg Value.bool (decide_eq_false (fun q => by have := sound_num q; omega)).symm
                        | exact congrArg Value.bool (decide_eq_false (hz1 (by assumption))).symm
                        | (have hz3 := hz2 (by assumption)
                           have hh : Mhead x := ⟨by omega, by omega, by omega, by omega, by omega, hz3.1, hz3.2.1, hz3.2.2.1, hz3.2.2.2⟩
                           refine congrArg Value.bool (decide_eq_decide.2 ?_)
                           rw [sound_iff hh]
                           first
                           | exact ⟨fun q => ⟨fun _ => q, fun e => by omega, fun e => by omega, fun e => by omega⟩, fun q => q.1 (by omega)⟩
                           | exact ⟨fun q => ⟨fun e => by omega, fun _ => ⟨by omega, q⟩, fun e => by omega, fun e => by omega⟩, fun q => (q.2.1 (by omega)).2⟩
                           | exact ⟨fun q => ⟨fun e => by omega, fun e => by omega, fun _ => ⟨by omega, q⟩, fun e => by omega⟩, fun q => (q.2.2.1 (by omega)).2⟩
                           | exact ⟨fun q => ⟨fun e => by omega, fun e => by omega, fun e => by omega, fun _ => q⟩, fun q => q.2.2.2 (by omega)⟩)
end Go.Proofs.Ytipkfdeiallifaa.Lg
