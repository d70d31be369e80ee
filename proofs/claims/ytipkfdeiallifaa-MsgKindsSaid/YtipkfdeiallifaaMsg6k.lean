/-
  The law MsgKinds, walked. By program (gen/msg6.py).
-/
import Derived.Test.YtipkfdeiallifaaMsg6
set_option linter.unusedVariables false
set_option linter.unusedSimpArgs false
namespace Go.Proofs.Ytipkfdeiallifaa.Lg
open Go Go.RowKit Go.Proofs.Ytipkfdeiallifaa.WirePure
set_option maxRecDepth 100000 in
set_option maxHeartbeats 1000000 in
theorem MsgKinds_c (w : World) (x : MC) (p : MP) (hm : MRd w x p) (hze : p.en ≤ 9223372036854775807) (hzk : p.kn ≤ 9223372036854775807) (hzp : p.pn ≤ 9223372036854775807) (kd bv : Int) :
    Calls Try.prog 7 [.agg #[.int .i64 x.k, .int .i64 x.f, .int .i64 x.t, .int .i64 x.b, .int .i64 x.a, .int .i64 x.c, .slice p.eA p.en p.ec, .slice p.kA p.kn p.kc, .slice p.pA p.pn p.pc], .int .i64 kd, .int .i64 bv].toArray w (Ret (fun v' w' => v' = .bool true ∧ Below w.heap.size w w')) := by
  have hs := Sat.start w
  have hen := hm.en
  have hkn := hm.kn
  have hpn := hm.pn
  have hmr := mof_range x.k
  refine Calls_body Try.func7 rfl rfl rfl (envE_cons (i := 0) (v := .agg #[.int .i64 x.k, .int .i64 x.f, .int .i64 x.t, .int .i64 x.b, .int .i64 x.a, .int .i64 x.c, .slice p.eA p.en p.ec, .slice p.kA p.kn p.kc, .slice p.pA p.pn p.pc]) rfl (envE_cons (i := 1) (v := .int .i64 kd) rfl (envE_cons (i := 2) (v := .int .i64 bv) rfl envE_nil))) ?_
  refine St_seq ?_
  refine St_region ?_
  refine Ls_box hs rfl rfl ?_
  intro b2 w1 hs
  refine Ls_run (run_assign rfl) rfl ?_
  refine Ls_nil ?_
  refine Jm_seq ?_
  refine St_seq ?_
  refine St_seq ?_
  refine St_region ?_
  refine Ls_call Try.func15 nm15 rfl rfl (mawake_c w1) rfl ?_
  rintro v3 w4 ⟨rfl, hsA5⟩
  replace hs := hs.trans hsA5
  simp only [List.nil_append, List.cons_append] at hs
  refine Ls_run (run_not rfl) rfl ?_
  refine Ls_nil ?_
  refine Jm_seq ?_
  refine St_iff rfl ?_
  refine St_skip ?_
  refine Jm_seq ?_
  refine St_seq ?_
  refine St_seq ?_
  refine St_region ?_
  refine Ls_run (run_as (run_load_agg agg26 inf26 rfl rfl (hs.blk_cells 0 rfl 0 9)) (show _ = Value.agg #[.int .i64 x.k, .int .i64 x.f, .int .i64 x.t, .int .i64 x.b, .int .i64 x.a, .int .i64 x.c, .slice p.eA p.en p.ec, .slice p.kA p.kn p.kc, .slice p.pA p.pn p.pc] from rfl)) rfl ?_
  refine Ls_call Try.func18 nm18 rfl rfl (Sound_c w4 x p (hm.inB hs) hze hzk hzp) rfl ?_
  rintro v7 w9 ⟨rfl, hsQ10⟩
  replace hs := hs.trans hsQ10
  simp only [List.nil_append, List.cons_append] at hs
  refine Ls_run (run_not rfl) rfl ?_
  refine Ls_nil ?_
  refine Jm_seq ?_
  refine St_ifN rfl (fun h11 => ?_) (fun h11 => ?_)
  · skip
    refine St_seq ?_
    refine St_region ?_
    refine Ls_run (run_assign rfl) rfl ?_
    refine Ls_nil ?_
    refine Jm_seq ?_
    refine St_ret ?_
    refine Jm_then_ret  ?_
    refine Jm_ret1 rfl rfl ?_
    exact ⟨_, rfl, rfl, hs.below⟩
  · skip
    have hso : Msound x := by assumption
    refine St_skip ?_
    refine Jm_seq ?_
    refine St_seq ?_
    refine St_region ?_
    refine Ls_run (run_as (run_load_agg agg26 inf26 rfl rfl (hs.blk_cells 0 rfl 0 9)) (show _ = Value.agg #[.int .i64 x.k, .int .i64 x.f, .int .i64 x.t, .int .i64 x.b, .int .i64 x.a, .int .i64 x.c, .slice p.eA p.en p.ec, .slice p.kA p.kn p.kc, .slice p.pA p.pn p.pc] from rfl)) rfl ?_
    refine Ls_alloc hs inf26 rfl ?_
    intro b13 w12 hs
    refine Ls_storeAgg hs inf26 rfl rfl rfl rfl (by simp [Value.oneCell']) ?_
    intro w14 hs
    refine Ls_nil ?_
    refine Jm_seq ?_
    refine St_seq ?_
    refine St_region ?_
    refine Ls_run (run_move rfl) rfl ?_
    refine Ls_run (run_as (run_field Try.underlying26 rfl inf3 (by decide) rfl) (show _ = Value.pointer (some ⟨b13, 0, none⟩) from rfl)) rfl ?_
    refine Ls_store hs inf3 rfl rfl rfl rfl ?_
    intro w15 hs
    try simp only [List.set_cons_zero, List.set_cons_succ] at hs
    refine Ls_nil ?_
    refine Jm_seq ?_
    refine St_seq ?_
    refine St_seq ?_
    refine St_region ?_
    refine Ls_run (run_move rfl) rfl ?_
    refine Ls_run (run_lss rfl rfl) rfl ?_
    refine Ls_run (run_move rfl) rfl ?_
    refine Ls_partP (t := 19) rfl (fun h16 => ?_) (fun h16 => ?_)
    · skip
      refine Ls_off rfl rfl rfl rfl ?_
      refine Ls_off rfl rfl rfl rfl ?_
      refine Ls_run (run_pick_t rfl rfl) rfl ?_
      refine Ls_nil ?_
      refine Jm_seq ?_
      refine St_ift rfl ?_
      refine St_seq ?_
      refine St_region ?_
      refine Ls_run (run_as (run_load_agg agg26 inf26 rfl rfl (hs.blk_cells 0 rfl 0 9)) (show _ = Value.agg #[.int .i64 ({ x with k := kd } : MC).k, .int .i64 ({ x with k := kd } : MC).f, .int .i64 ({ x with k := kd } : MC).t, .int .i64 ({ x with k := kd } : MC).b, .int .i64 ({ x with k := kd } : MC).a, .int .i64 ({ x with k := kd } : MC).c, .slice p.eA p.en p.ec, .slice p.kA p.kn p.kc, .slice p.pA p.pn p.pc] from rfl)) rfl ?_
      refine Ls_call Try.func18 nm18 rfl rfl (Sound_c w15 { x with k := kd } p ⟨(hm.inB hs).e, (hm.inB hs).k, (hm.inB hs).p⟩ hze hzk hzp) rfl ?_
      rintro v18 w19 ⟨rfl, hsQ20⟩
      replace hs := hs.trans hsQ20
      simp only [List.nil_append, List.cons_append] at hs
      rw [decide_eq_false (kinds_out (by omega))]
      refine Ls_run (run_not rfl) rfl ?_
      refine Ls_run (run_assign rfl) rfl ?_
      refine Ls_nil ?_
      refine Jm_seq ?_
      refine St_ret ?_
      refine Jm_then_ret  ?_
      refine Jm_ret1 rfl rfl ?_
      exact ⟨_, rfl, rfl, hs.below⟩
    · skip
      refine Ls_on rfl rfl ?_
      refine Ls_run (run_move rfl) rfl ?_
      refine Ls_on rfl rfl ?_
      refine Ls_run (run_gtr rfl rfl) rfl ?_
      refine Ls_run (run_pick_f rfl rfl) rfl ?_
      refine Ls_nil ?_
      refine Jm_seq ?_
      refine St_ifP rfl (fun h21 => ?_) (fun h21 => ?_)
      · skip
        refine St_seq ?_
        refine St_region ?_
        refine Ls_run (run_as (run_load_agg agg26 inf26 rfl rfl (hs.blk_cells 0 rfl 0 9)) (show _ = Value.agg #[.int .i64 ({ x with k := kd } : MC).k, .int .i64 ({ x with k := kd } : MC).f, .int .i64 ({ x with k := kd } : MC).t, .int .i64 ({ x with k := kd } : MC).b, .int .i64 ({ x with k := kd } : MC).a, .int .i64 ({ x with k := kd } : MC).c, .slice p.eA p.en p.ec, .slice p.kA p.kn p.kc, .slice p.pA p.pn p.pc] from rfl)) rfl ?_
        refine Ls_call Try.func18 nm18 rfl rfl (Sound_c w15 { x with k := kd } p ⟨(hm.inB hs).e, (hm.inB hs).k, (hm.inB hs).p⟩ hze hzk hzp) rfl ?_
        rintro v22 w23 ⟨rfl, hsQ24⟩
        replace hs := hs.trans hsQ24
        simp only [List.nil_append, List.cons_append] at hs
        rw [decide_eq_false (kinds_out (by omega))]
        refine Ls_run (run_not rfl) rfl ?_
        refine Ls_run (run_assign rfl) rfl ?_
        refine Ls_nil ?_
        refine Jm_seq ?_
        refine St_ret ?_
        refine Jm_then_ret  ?_
        refine Jm_ret1 rfl rfl ?_
        exact ⟨_, rfl, rfl, hs.below⟩
      · skip
        refine St_skip ?_
        refine Jm_seq ?_
        refine St_seq ?_
        refine St_region ?_
        refine Ls_run (run_as (run_load_agg agg26 inf26 rfl rfl (hs.blk_cells 0 rfl 0 9)) (show _ = Value.agg #[.int .i64 ({ x with k := kd } : MC).k, .int .i64 ({ x with k := kd } : MC).f, .int .i64 ({ x with k := kd } : MC).t, .int .i64 ({ x with k := kd } : MC).b, .int .i64 ({ x with k := kd } : MC).a, .int .i64 ({ x with k := kd } : MC).c, .slice p.eA p.en p.ec, .slice p.kA p.kn p.kc, .slice p.pA p.pn p.pc] from rfl)) rfl ?_
        refine Ls_call Try.func18 nm18 rfl rfl (Sound_c w15 { x with k := kd } p ⟨(hm.inB hs).e, (hm.inB hs).k, (hm.inB hs).p⟩ hze hzk hzp) rfl ?_
        rintro v25 w26 ⟨rfl, hsQ27⟩
        replace hs := hs.trans hsQ27
        simp only [List.nil_append, List.cons_append] at hs
        refine Ls_run (run_assign rfl) rfl ?_
        refine Ls_nil ?_
        refine Jm_seq ?_
        refine St_seq ?_
        refine St_seq ?_
        obtain ⟨En28, hEn28⟩ : ∃ F : Nat → Env, ∀ (z : Nat), F z = [(1, .int .i64 kd), (2, .int .i64 bv), (3, .pointer (some ⟨b2, 0, none⟩)), (7, .pointer (some ⟨b13, 0, none⟩)), (80, .bool false)] := ⟨(fun (z : Nat) => [(1, .int .i64 kd), (2, .int .i64 bv), (3, .pointer (some ⟨b2, 0, none⟩)), (7, .pointer (some ⟨b13, 0, none⟩)), (80, .bool false)]), fun _ => rfl⟩
        obtain ⟨Iv29, hIv29⟩ : ∃ F : Nat → World → Prop, ∀ (z : Nat) (w30 : World), F z w30 = (Sat w w30 [Blk b13 [.int .i64 kd, .int .i64 x.f, .int .i64 x.t, .int .i64 x.b, .int .i64 x.a, .int .i64 x.c, .slice p.eA p.en p.ec, .slice p.kA p.kn p.kc, .slice p.pA p.pn p.pc] 26, Blk b2 [.int .i64 x.k, .int .i64 x.f, .int .i64 x.t, .int .i64 x.b, .int .i64 x.a, .int .i64 x.c, .slice p.eA p.en p.ec, .slice p.kA p.kn p.kc, .slice p.pA p.pn p.pc] 26]) := ⟨(fun (z : Nat) => fun (w30 : World) => Sat w w30 [Blk b13 [.int .i64 kd, .int .i64 x.f, .int .i64 x.t, .int .i64 x.b, .int .i64 x.a, .int .i64 x.c, .slice p.eA p.en p.ec, .slice p.kA p.kn p.kc, .slice p.pA p.pn p.pc] 26, Blk b2 [.int .i64 x.k, .int .i64 x.f, .int .i64 x.t, .int .i64 x.b, .int .i64 x.a, .int .i64 x.c, .slice p.eA p.en p.ec, .slice p.kA p.kn p.kc, .slice p.pA p.pn p.pc] 26]), fun _ _ => rfl⟩
        refine St_join En28 Iv29 ?_ ?_
        · skip
          refine St_region ?_
          refine Ls_run (run_as (run_field Try.underlying26 rfl inf22 (by decide) rfl) (show _ = Value.pointer (some ⟨b2, 6, none⟩) from rfl)) rfl ?_
          refine Ls_run (run_load sc22 rfl (hs.blk_at 1 rfl 6 rfl)) rfl ?_
          refine Ls_run (run_len Try.underlying22 rfl) rfl ?_
          refine Ls_run (run_gtr rfl rfl) rfl ?_
          refine Ls_run (run_move rfl) rfl ?_
          refine Ls_partP (t := 32) rfl (fun h31 => ?_) (fun h31 => ?_)
          · skip
            refine Ls_on rfl rfl ?_
            refine Ls_run (run_move rfl) rfl ?_
            refine Ls_on rfl rfl ?_
            refine Ls_run (run_move rfl) rfl ?_
            refine Ls_on rfl rfl ?_
            refine Ls_run (run_leq rfl rfl) rfl ?_
            refine Ls_on rfl rfl ?_
            refine Ls_run (run_move rfl) rfl ?_
            refine Ls_partP (t := 36) rfl (fun h32 => ?_) (fun h32 => ?_)
            · skip
              refine Ls_off rfl rfl rfl rfl ?_
              refine Ls_off rfl rfl rfl rfl ?_
              refine Ls_on rfl rfl ?_
              refine Ls_run (run_pick_t rfl rfl) rfl ?_
              refine Ls_on rfl rfl ?_
              refine Ls_run (run_asB (c := false) (run_neq_bool Try.underlying4 rfl rfl) (by first | exact ne_t ((kinds_e (by assumption) (by omega) (by omega)).2 (by omega)) | exact ne_d ((kinds_e (by assumption) (by omega) (by omega)).trans ⟨fun q => by omega, fun q => by omega⟩))) rfl ?_
              refine Ls_run (run_pick_t rfl rfl) rfl ?_
              refine Ls_run (run_move rfl) rfl ?_
              refine Ls_on rfl rfl ?_
              refine Ls_run (run_as (run_field Try.underlying26 rfl inf3 (by decide) rfl) (show _ = Value.pointer (some ⟨b2, 5, none⟩) from rfl)) rfl ?_
              refine Ls_on rfl rfl ?_
              refine Ls_run (run_load sc3 rfl (hs.blk_at 1 rfl 5 rfl)) rfl ?_
              refine Ls_on rfl rfl ?_
              refine Ls_run (run_gtr rfl rfl) rfl ?_
              refine Ls_on rfl rfl ?_
              refine Ls_run (run_move rfl) rfl ?_
              refine Ls_partP (t := 46) rfl (fun h33 => ?_) (fun h33 => ?_)
              · skip
                refine Ls_on rfl rfl ?_
                refine Ls_run (run_move rfl) rfl ?_
                refine Ls_on rfl rfl ?_
                refine Ls_run (run_move rfl) rfl ?_
                refine Ls_on rfl rfl ?_
                refine Ls_run (run_eql rfl rfl) rfl ?_
                refine Ls_on rfl rfl ?_
                refine Ls_run (run_move rfl) rfl ?_
                refine Ls_partP (t := 50) rfl (fun h34 => ?_) (fun h34 => ?_)
                · skip
                  refine Ls_off rfl rfl rfl rfl ?_
                  refine Ls_off rfl rfl rfl rfl ?_
                  refine Ls_on rfl rfl ?_
                  refine Ls_run (run_pick_t rfl rfl) rfl ?_
                  refine Ls_on rfl rfl ?_
                  refine Ls_run (run_asB (c := false) (run_neq_bool Try.underlying4 rfl rfl) (by first | exact ne_t ((kinds_c (by assumption) (by omega) (by omega)).2 (by omega)) | exact ne_d ((kinds_c (by assumption) (by omega) (by omega)).trans ⟨fun q => by omega, fun q => by omega⟩))) rfl ?_
                  refine Ls_on rfl rfl ?_
                  refine Ls_run (run_pick_t rfl rfl) rfl ?_
                  refine Ls_run (run_pick_f rfl rfl) rfl ?_
                  refine Ls_run (run_move rfl) rfl ?_
                  refine Ls_on rfl rfl ?_
                  refine Ls_run (run_as (run_field Try.underlying26 rfl inf23 (by decide) rfl) (show _ = Value.pointer (some ⟨b2, 7, none⟩) from rfl)) rfl ?_
                  refine Ls_on rfl rfl ?_
                  refine Ls_run (run_load sc23 rfl (hs.blk_at 1 rfl 7 rfl)) rfl ?_
                  refine Ls_on rfl rfl ?_
                  refine Ls_run (run_len Try.underlying23 rfl) rfl ?_
                  refine Ls_on rfl rfl ?_
                  refine Ls_run (run_gtr rfl rfl) rfl ?_
                  refine Ls_on rfl rfl ?_
                  refine Ls_run (run_move rfl) rfl ?_
                  refine Ls_partP (t := 62) rfl (fun h35 => ?_) (fun h35 => ?_)
                  · skip
                    refine Ls_on rfl rfl ?_
                    refine Ls_run (run_move rfl) rfl ?_
                    refine Ls_on rfl rfl ?_
                    refine Ls_run (run_move rfl) rfl ?_
                    refine Ls_on rfl rfl ?_
                    refine Ls_run (run_eql rfl rfl) rfl ?_
                    refine Ls_on rfl rfl ?_
                    refine Ls_run (run_asB (c := false) (run_neq_bool Try.underlying4 rfl rfl) (by first | exact ne_t ((kinds_k (by assumption) (by omega) (by omega)).2 (by omega)) | exact ne_d ((kinds_k (by assumption) (by omega) (by omega)).trans ⟨fun q => by omega, fun q => by omega⟩))) rfl ?_
                    refine Ls_on rfl rfl ?_
                    refine Ls_run (run_pick_t rfl rfl) rfl ?_
                    refine Ls_run (run_pick_f rfl rfl) rfl ?_
                    refine Ls_run (run_move rfl) rfl ?_
                    refine Ls_on rfl rfl ?_
                    refine Ls_run (run_as (run_field Try.underlying26 rfl inf24 (by decide) rfl) (show _ = Value.pointer (some ⟨b2, 8, none⟩) from rfl)) rfl ?_
                    refine Ls_on rfl rfl ?_
                    refine Ls_run (run_load sc24 rfl (hs.blk_at 1 rfl 8 rfl)) rfl ?_
                    refine Ls_on rfl rfl ?_
                    refine Ls_run (run_len Try.underlying24 rfl) rfl ?_
                    refine Ls_on rfl rfl ?_
                    refine Ls_run (run_gtr rfl rfl) rfl ?_
                    refine Ls_on rfl rfl ?_
                    refine Ls_run (run_move rfl) rfl ?_
                    refine Ls_partP (t := 74) rfl (fun h36 => ?_) (fun h36 => ?_)
                    · skip
                      refine Ls_on rfl rfl ?_
                      refine Ls_run (run_move rfl) rfl ?_
                      refine Ls_on rfl rfl ?_
                      refine Ls_run (run_move rfl) rfl ?_
                      refine Ls_on rfl rfl ?_
                      refine Ls_run (run_eql rfl rfl) rfl ?_
                      refine Ls_on rfl rfl ?_
                      refine Ls_run (run_asB (c := false) (run_neq_bool Try.underlying4 rfl rfl) (by first | exact ne_t ((kinds_p (by assumption) (by omega) (by omega)).2 (by omega)) | exact ne_d ((kinds_p (by assumption) (by omega) (by omega)).trans ⟨fun q => by omega, fun q => by omega⟩))) rfl ?_
                      refine Ls_on rfl rfl ?_
                      refine Ls_run (run_pick_t rfl rfl) rfl ?_
                      refine Ls_run (run_pick_f rfl rfl) rfl ?_
                      refine Ls_nil ?_
                      refine Jm_join 0 ?_ ?_
                      · rw [hEn28]; exact (subE_cons rfl (subE_cons rfl (subE_cons rfl (subE_cons rfl (subE_cons rfl subE_nil)))))
                      · skip
                        rw [hIv29]
                        exact hs
                    · skip
                      refine Ls_off rfl rfl rfl rfl ?_
                      refine Ls_off rfl rfl rfl rfl ?_
                      refine Ls_off rfl rfl rfl rfl ?_
                      refine Ls_off rfl rfl rfl rfl ?_
                      refine Ls_on rfl rfl ?_
                      refine Ls_run (run_pick_f rfl rfl) rfl ?_
                      refine Ls_run (run_pick_f rfl rfl) rfl ?_
                      refine Ls_nil ?_
                      refine Jm_join 0 ?_ ?_
                      · rw [hEn28]; exact (subE_cons rfl (subE_cons rfl (subE_cons rfl (subE_cons rfl (subE_cons rfl subE_nil)))))
                      · skip
                        rw [hIv29]
                        exact hs
                  · skip
                    refine Ls_off rfl rfl rfl rfl ?_
                    refine Ls_off rfl rfl rfl rfl ?_
                    refine Ls_off rfl rfl rfl rfl ?_
                    refine Ls_off rfl rfl rfl rfl ?_
                    refine Ls_on rfl rfl ?_
                    refine Ls_run (run_pick_f rfl rfl) rfl ?_
                    refine Ls_run (run_pick_f rfl rfl) rfl ?_
                    refine Ls_run (run_move rfl) rfl ?_
                    refine Ls_on rfl rfl ?_
                    refine Ls_run (run_as (run_field Try.underlying26 rfl inf24 (by decide) rfl) (show _ = Value.pointer (some ⟨b2, 8, none⟩) from rfl)) rfl ?_
                    refine Ls_on rfl rfl ?_
                    refine Ls_run (run_load sc24 rfl (hs.blk_at 1 rfl 8 rfl)) rfl ?_
                    refine Ls_on rfl rfl ?_
                    refine Ls_run (run_len Try.underlying24 rfl) rfl ?_
                    refine Ls_on rfl rfl ?_
                    refine Ls_run (run_gtr rfl rfl) rfl ?_
                    refine Ls_on rfl rfl ?_
                    refine Ls_run (run_move rfl) rfl ?_
                    refine Ls_partP (t := 74) rfl (fun h37 => ?_) (fun h37 => ?_)
                    · skip
                      refine Ls_on rfl rfl ?_
                      refine Ls_run (run_move rfl) rfl ?_
                      refine Ls_on rfl rfl ?_
                      refine Ls_run (run_move rfl) rfl ?_
                      refine Ls_on rfl rfl ?_
                      refine Ls_run (run_eql rfl rfl) rfl ?_
                      refine Ls_on rfl rfl ?_
                      refine Ls_run (run_asB (c := false) (run_neq_bool Try.underlying4 rfl rfl) (by first | exact ne_t ((kinds_p (by assumption) (by omega) (by omega)).2 (by omega)) | exact ne_d ((kinds_p (by assumption) (by omega) (by omega)).trans ⟨fun q => by omega, fun q => by omega⟩))) rfl ?_
                      refine Ls_on rfl rfl ?_
                      refine Ls_run (run_pick_t rfl rfl) rfl ?_
                      refine Ls_run (run_pick_f rfl rfl) rfl ?_
                      refine Ls_nil ?_
                      refine Jm_join 0 ?_ ?_
                      · rw [hEn28]; exact (subE_cons rfl (subE_cons rfl (subE_cons rfl (subE_cons rfl (subE_cons rfl subE_nil)))))
                      · skip
                        rw [hIv29]
                        exact hs
                    · skip
                      refine Ls_off rfl rfl rfl rfl ?_
                      refine Ls_off rfl rfl rfl rfl ?_
                      refine Ls_off rfl rfl rfl rfl ?_
                      refine Ls_off rfl rfl rfl rfl ?_
                      refine Ls_on rfl rfl ?_
                      refine Ls_run (run_pick_f rfl rfl) rfl ?_
                      refine Ls_run (run_pick_f rfl rfl) rfl ?_
                      refine Ls_nil ?_
                      refine Jm_join 0 ?_ ?_
                      · rw [hEn28]; exact (subE_cons rfl (subE_cons rfl (subE_cons rfl (subE_cons rfl (subE_cons rfl subE_nil)))))
                      · skip
                        rw [hIv29]
                        exact hs
                · skip
                  refine Ls_on rfl rfl ?_
                  refine Ls_run (run_move rfl) rfl ?_
                  refine Ls_on rfl rfl ?_
                  refine Ls_run (run_eql rfl rfl) rfl ?_
                  refine Ls_on rfl rfl ?_
                  refine Ls_run (run_pick_f rfl rfl) rfl ?_
                  refine Ls_on rfl rfl ?_
                  refine Ls_run (run_asB (c := false) (run_neq_bool Try.underlying4 rfl rfl) (by first | exact ne_t ((kinds_c (by assumption) (by omega) (by omega)).2 (by omega)) | exact ne_d ((kinds_c (by assumption) (by omega) (by omega)).trans ⟨fun q => by omega, fun q => by omega⟩))) rfl ?_
                  refine Ls_on rfl rfl ?_
                  refine Ls_run (run_pick_t rfl rfl) rfl ?_
                  refine Ls_run (run_pick_f rfl rfl) rfl ?_
                  refine Ls_run (run_move rfl) rfl ?_
                  refine Ls_on rfl rfl ?_
                  refine Ls_run (run_as (run_field Try.underlying26 rfl inf23 (by decide) rfl) (show _ = Value.pointer (some ⟨b2, 7, none⟩) from rfl)) rfl ?_
                  refine Ls_on rfl rfl ?_
                  refine Ls_run (run_load sc23 rfl (hs.blk_at 1 rfl 7 rfl)) rfl ?_
                  refine Ls_on rfl rfl ?_
                  refine Ls_run (run_len Try.underlying23 rfl) rfl ?_
                  refine Ls_on rfl rfl ?_
                  refine Ls_run (run_gtr rfl rfl) rfl ?_
                  refine Ls_on rfl rfl ?_
                  refine Ls_run (run_move rfl) rfl ?_
                  refine Ls_partP (t := 62) rfl (fun h38 => ?_) (fun h38 => ?_)
                  · skip
                    refine Ls_on rfl rfl ?_
                    refine Ls_run (run_move rfl) rfl ?_
                    refine Ls_on rfl rfl ?_
                    refine Ls_run (run_move rfl) rfl ?_
                    refine Ls_on rfl rfl ?_
                    refine Ls_run (run_eql rfl rfl) rfl ?_
                    refine Ls_on rfl rfl ?_
                    refine Ls_run (run_asB (c := false) (run_neq_bool Try.underlying4 rfl rfl) (by first | exact ne_t ((kinds_k (by assumption) (by omega) (by omega)).2 (by omega)) | exact ne_d ((kinds_k (by assumption) (by omega) (by omega)).trans ⟨fun q => by omega, fun q => by omega⟩))) rfl ?_
                    refine Ls_on rfl rfl ?_
                    refine Ls_run (run_pick_t rfl rfl) rfl ?_
                    refine Ls_run (run_pick_f rfl rfl) rfl ?_
                    refine Ls_run (run_move rfl) rfl ?_
                    refine Ls_on rfl rfl ?_
                    refine Ls_run (run_as (run_field Try.underlying26 rfl inf24 (by decide) rfl) (show _ = Value.pointer (some ⟨b2, 8, none⟩) from rfl)) rfl ?_
                    refine Ls_on rfl rfl ?_
                    refine Ls_run (run_load sc24 rfl (hs.blk_at 1 rfl 8 rfl)) rfl ?_
                    refine Ls_on rfl rfl ?_
                    refine Ls_run (run_len Try.underlying24 rfl) rfl ?_
                    refine Ls_on rfl rfl ?_
                    refine Ls_run (run_gtr rfl rfl) rfl ?_
                    refine Ls_on rfl rfl ?_
                    refine Ls_run (run_move rfl) rfl ?_
                    refine Ls_partP (t := 74) rfl (fun h39 => ?_) (fun h39 => ?_)
                    · skip
                      refine Ls_on rfl rfl ?_
                      refine Ls_run (run_move rfl) rfl ?_
                      refine Ls_on rfl rfl ?_
                      refine Ls_run (run_move rfl) rfl ?_
                      refine Ls_on rfl rfl ?_
                      refine Ls_run (run_eql rfl rfl) rfl ?_
                      refine Ls_on rfl rfl ?_
                      refine Ls_run (run_asB (c := false) (run_neq_bool Try.underlying4 rfl rfl) (by first | exact ne_t ((kinds_p (by assumption) (by omega) (by omega)).2 (by omega)) | exact ne_d ((kinds_p (by assumption) (by omega) (by omega)).trans ⟨fun q => by omega, fun q => by omega⟩))) rfl ?_
                      refine Ls_on rfl rfl ?_
                      refine Ls_run (run_pick_t rfl rfl) rfl ?_
                      refine Ls_run (run_pick_f rfl rfl) rfl ?_
                      refine Ls_nil ?_
                      refine Jm_join 0 ?_ ?_
                      · rw [hEn28]; exact (subE_cons rfl (subE_cons rfl (subE_cons rfl (subE_cons rfl (subE_cons rfl subE_nil)))))
                      · skip
                        rw [hIv29]
                        exact hs
                    · skip
                      refine Ls_off rfl rfl rfl rfl ?_
                      refine Ls_off rfl rfl rfl rfl ?_
                      refine Ls_off rfl rfl rfl rfl ?_
                      refine Ls_off rfl rfl rfl rfl ?_
                      refine Ls_on rfl rfl ?_
                      refine Ls_run (run_pick_f rfl rfl) rfl ?_
                      refine Ls_run (run_pick_f rfl rfl) rfl ?_
                      refine Ls_nil ?_
                      refine Jm_join 0 ?_ ?_
                      · rw [hEn28]; exact (subE_cons rfl (subE_cons rfl (subE_cons rfl (subE_cons rfl (subE_cons rfl subE_nil)))))
                      · skip
                        rw [hIv29]
                        exact hs
                  · skip
                    refine Ls_off rfl rfl rfl rfl ?_
                    refine Ls_off rfl rfl rfl rfl ?_
                    refine Ls_off rfl rfl rfl rfl ?_
                    refine Ls_off rfl rfl rfl rfl ?_
                    refine Ls_on rfl rfl ?_
                    refine Ls_run (run_pick_f rfl rfl) rfl ?_
                    refine Ls_run (run_pick_f rfl rfl) rfl ?_
                    refine Ls_run (run_move rfl) rfl ?_
                    refine Ls_on rfl rfl ?_
                    refine Ls_run (run_as (run_field Try.underlying26 rfl inf24 (by decide) rfl) (show _ = Value.pointer (some ⟨b2, 8, none⟩) from rfl)) rfl ?_
                    refine Ls_on rfl rfl ?_
                    refine Ls_run (run_load sc24 rfl (hs.blk_at 1 rfl 8 rfl)) rfl ?_
                    refine Ls_on rfl rfl ?_
                    refine Ls_run (run_len Try.underlying24 rfl) rfl ?_
                    refine Ls_on rfl rfl ?_
                    refine Ls_run (run_gtr rfl rfl) rfl ?_
                    refine Ls_on rfl rfl ?_
                    refine Ls_run (run_move rfl) rfl ?_
                    refine Ls_partP (t := 74) rfl (fun h40 => ?_) (fun h40 => ?_)
                    · skip
                      refine Ls_on rfl rfl ?_
                      refine Ls_run (run_move rfl) rfl ?_
                      refine Ls_on rfl rfl ?_
                      refine Ls_run (run_move rfl) rfl ?_
                      refine Ls_on rfl rfl ?_
                      refine Ls_run (run_eql rfl rfl) rfl ?_
                      refine Ls_on rfl rfl ?_
                      refine Ls_run (run_asB (c := false) (run_neq_bool Try.underlying4 rfl rfl) (by first | exact ne_t ((kinds_p (by assumption) (by omega) (by omega)).2 (by omega)) | exact ne_d ((kinds_p (by assumption) (by omega) (by omega)).trans ⟨fun q => by omega, fun q => by omega⟩))) rfl ?_
                      refine Ls_on rfl rfl ?_
                      refine Ls_run (run_pick_t rfl rfl) rfl ?_
                      refine Ls_run (run_pick_f rfl rfl) rfl ?_
                      refine Ls_nil ?_
                      refine Jm_join 0 ?_ ?_
                      · rw [hEn28]; exact (subE_cons rfl (subE_cons rfl (subE_cons rfl (subE_cons rfl (subE_cons rfl subE_nil)))))
                      · skip
                        rw [hIv29]
                        exact hs
                    · skip
                      refine Ls_off rfl rfl rfl rfl ?_
                      refine Ls_off rfl rfl rfl rfl ?_
                      refine Ls_off rfl rfl rfl rfl ?_
                      refine Ls_off rfl rfl rfl rfl ?_
                      refine Ls_on rfl rfl ?_
                      refine Ls_run (run_pick_f rfl rfl) rfl ?_
                      refine Ls_run (run_pick_f rfl rfl) rfl ?_
                      refine Ls_nil ?_
                      refine Jm_join 0 ?_ ?_
                      · rw [hEn28]; exact (subE_cons rfl (subE_cons rfl (subE_cons rfl (subE_cons rfl (subE_cons rfl subE_nil)))))
                      · skip
                        rw [hIv29]
                        exact hs
              · skip
                refine Ls_off rfl rfl rfl rfl ?_
                refine Ls_off rfl rfl rfl rfl ?_
                refine Ls_off rfl rfl rfl rfl ?_
                refine Ls_off rfl rfl rfl rfl ?_
                refine Ls_off' rfl rfl rfl ?_
                refine Ls_off' rfl rfl rfl ?_
                refine Ls_off rfl rfl rfl rfl ?_
                refine Ls_off rfl rfl rfl rfl ?_
                refine Ls_on rfl rfl ?_
                refine Ls_run (run_pick_f rfl rfl) rfl ?_
                refine Ls_run (run_pick_f rfl rfl) rfl ?_
                refine Ls_run (run_move rfl) rfl ?_
                refine Ls_on rfl rfl ?_
                refine Ls_run (run_as (run_field Try.underlying26 rfl inf23 (by decide) rfl) (show _ = Value.pointer (some ⟨b2, 7, none⟩) from rfl)) rfl ?_
                refine Ls_on rfl rfl ?_
                refine Ls_run (run_load sc23 rfl (hs.blk_at 1 rfl 7 rfl)) rfl ?_
                refine Ls_on rfl rfl ?_
                refine Ls_run (run_len Try.underlying23 rfl) rfl ?_
                refine Ls_on rfl rfl ?_
                refine Ls_run (run_gtr rfl rfl) rfl ?_
                refine Ls_on rfl rfl ?_
                refine Ls_run (run_move rfl) rfl ?_
                refine Ls_partP (t := 62) rfl (fun h41 => ?_) (fun h41 => ?_)
                · skip
                  refine Ls_on rfl rfl ?_
                  refine Ls_run (run_move rfl) rfl ?_
                  refine Ls_on rfl rfl ?_
                  refine Ls_run (run_move rfl) rfl ?_
                  refine Ls_on rfl rfl ?_
                  refine Ls_run (run_eql rfl rfl) rfl ?_
                  refine Ls_on rfl rfl ?_
                  refine Ls_run (run_asB (c := false) (run_neq_bool Try.underlying4 rfl rfl) (by first | exact ne_t ((kinds_k (by assumption) (by omega) (by omega)).2 (by omega)) | exact ne_d ((kinds_k (by assumption) (by omega) (by omega)).trans ⟨fun q => by omega, fun q => by omega⟩))) rfl ?_
                  refine Ls_on rfl rfl ?_
                  refine Ls_run (run_pick_t rfl rfl) rfl ?_
                  refine Ls_run (run_pick_f rfl rfl) rfl ?_
                  refine Ls_run (run_move rfl) rfl ?_
                  refine Ls_on rfl rfl ?_
                  refine Ls_run (run_as (run_field Try.underlying26 rfl inf24 (by decide) rfl) (show _ = Value.pointer (some ⟨b2, 8, none⟩) from rfl)) rfl ?_
                  refine Ls_on rfl rfl ?_
                  refine Ls_run (run_load sc24 rfl (hs.blk_at 1 rfl 8 rfl)) rfl ?_
                  refine Ls_on rfl rfl ?_
                  refine Ls_run (run_len Try.underlying24 rfl) rfl ?_
                  refine Ls_on rfl rfl ?_
                  refine Ls_run (run_gtr rfl rfl) rfl ?_
                  refine Ls_on rfl rfl ?_
                  refine Ls_run (run_move rfl) rfl ?_
                  refine Ls_partP (t := 74) rfl (fun h42 => ?_) (fun h42 => ?_)
                  · skip
                    refine Ls_on rfl rfl ?_
                    refine Ls_run (run_move rfl) rfl ?_
                    refine Ls_on rfl rfl ?_
                    refine Ls_run (run_move rfl) rfl ?_
                    refine Ls_on rfl rfl ?_
                    refine Ls_run (run_eql rfl rfl) rfl ?_
                    refine Ls_on rfl rfl ?_
                    refine Ls_run (run_asB (c := false) (run_neq_bool Try.underlying4 rfl rfl) (by first | exact ne_t ((kinds_p (by assumption) (by omega) (by omega)).2 (by omega)) | exact ne_d ((kinds_p (by assumption) (by omega) (by omega)).trans ⟨fun q => by omega, fun q => by omega⟩))) rfl ?_
                    refine Ls_on rfl rfl ?_
                    refine Ls_run (run_pick_t rfl rfl) rfl ?_
                    refine Ls_run (run_pick_f rfl rfl) rfl ?_
                    refine Ls_nil ?_
                    refine Jm_join 0 ?_ ?_
                    · rw [hEn28]; exact (subE_cons rfl (subE_cons rfl (subE_cons rfl (subE_cons rfl (subE_cons rfl subE_nil)))))
                    · skip
                      rw [hIv29]
                      exact hs
                  · skip
                    refine Ls_off rfl rfl rfl rfl ?_
                    refine Ls_off rfl rfl rfl rfl ?_
                    refine Ls_off rfl rfl rfl rfl ?_
                    refine Ls_off rfl rfl rfl rfl ?_
                    refine Ls_on rfl rfl ?_
                    refine Ls_run (run_pick_f rfl rfl) rfl ?_
                    refine Ls_run (run_pick_f rfl rfl) rfl ?_
                    refine Ls_nil ?_
                    refine Jm_join 0 ?_ ?_
                    · rw [hEn28]; exact (subE_cons rfl (subE_cons rfl (subE_cons rfl (subE_cons rfl (subE_cons rfl subE_nil)))))
                    · skip
                      rw [hIv29]
                      exact hs
                · skip
                  refine Ls_off rfl rfl rfl rfl ?_
                  refine Ls_off rfl rfl rfl rfl ?_
                  refine Ls_off rfl rfl rfl rfl ?_
                  refine Ls_off rfl rfl rfl rfl ?_
                  refine Ls_on rfl rfl ?_
                  refine Ls_run (run_pick_f rfl rfl) rfl ?_
                  refine Ls_run (run_pick_f rfl rfl) rfl ?_
                  refine Ls_run (run_move rfl) rfl ?_
                  refine Ls_on rfl rfl ?_
                  refine Ls_run (run_as (run_field Try.underlying26 rfl inf24 (by decide) rfl) (show _ = Value.pointer (some ⟨b2, 8, none⟩) from rfl)) rfl ?_
                  refine Ls_on rfl rfl ?_
                  refine Ls_run (run_load sc24 rfl (hs.blk_at 1 rfl 8 rfl)) rfl ?_
                  refine Ls_on rfl rfl ?_
                  refine Ls_run (run_len Try.underlying24 rfl) rfl ?_
                  refine Ls_on rfl rfl ?_
                  refine Ls_run (run_gtr rfl rfl) rfl ?_
                  refine Ls_on rfl rfl ?_
                  refine Ls_run (run_move rfl) rfl ?_
                  refine Ls_partP (t := 74) rfl (fun h43 => ?_) (fun h43 => ?_)
                  · skip
                    refine Ls_on rfl rfl ?_
                    refine Ls_run (run_move rfl) rfl ?_
                    refine Ls_on rfl rfl ?_
                    refine Ls_run (run_move rfl) rfl ?_
                    refine Ls_on rfl rfl ?_
                    refine Ls_run (run_eql rfl rfl) rfl ?_
                    refine Ls_on rfl rfl ?_
                    refine Ls_run (run_asB (c := false) (run_neq_bool Try.underlying4 rfl rfl) (by first | exact ne_t ((kinds_p (by assumption) (by omega) (by omega)).2 (by omega)) | exact ne_d ((kinds_p (by assumption) (by omega) (by omega)).trans ⟨fun q => by omega, fun q => by omega⟩))) rfl ?_
                    refine Ls_on rfl rfl ?_
                    refine Ls_run (run_pick_t rfl rfl) rfl ?_
                    refine Ls_run (run_pick_f rfl rfl) rfl ?_
                    refine Ls_nil ?_
                    refine Jm_join 0 ?_ ?_
                    · rw [hEn28]; exact (subE_cons rfl (subE_cons rfl (subE_cons rfl (subE_cons rfl (subE_cons rfl subE_nil)))))
                    · skip
                      rw [hIv29]
                      exact hs
                  · skip
                    refine Ls_off rfl rfl rfl rfl ?_
                    refine Ls_off rfl rfl rfl rfl ?_
                    refine Ls_off rfl rfl rfl rfl ?_
                    refine Ls_off rfl rfl rfl rfl ?_
                    refine Ls_on rfl rfl ?_
                    refine Ls_run (run_pick_f rfl rfl) rfl ?_
                    refine Ls_run (run_pick_f rfl rfl) rfl ?_
                    refine Ls_nil ?_
                    refine Jm_join 0 ?_ ?_
                    · rw [hEn28]; exact (subE_cons rfl (subE_cons rfl (subE_cons rfl (subE_cons rfl (subE_cons rfl subE_nil)))))
                    · skip
                      rw [hIv29]
                      exact hs
            · skip
              refine Ls_on rfl rfl ?_
              refine Ls_run (run_move rfl) rfl ?_
              refine Ls_on rfl rfl ?_
              refine Ls_run (run_eql rfl rfl) rfl ?_
              refine Ls_on rfl rfl ?_
              refine Ls_run (run_pick_f rfl rfl) rfl ?_
              refine Ls_on rfl rfl ?_
              refine Ls_run (run_asB (c := false) (run_neq_bool Try.underlying4 rfl rfl) (by first | exact ne_t ((kinds_e (by assumption) (by omega) (by omega)).2 (by omega)) | exact ne_d ((kinds_e (by assumption) (by omega) (by omega)).trans ⟨fun q => by omega, fun q => by omega⟩))) rfl ?_
              refine Ls_run (run_pick_t rfl rfl) rfl ?_
              refine Ls_run (run_move rfl) rfl ?_
              refine Ls_on rfl rfl ?_
              refine Ls_run (run_as (run_field Try.underlying26 rfl inf3 (by decide) rfl) (show _ = Value.pointer (some ⟨b2, 5, none⟩) from rfl)) rfl ?_
              refine Ls_on rfl rfl ?_
              refine Ls_run (run_load sc3 rfl (hs.blk_at 1 rfl 5 rfl)) rfl ?_
              refine Ls_on rfl rfl ?_
              refine Ls_run (run_gtr rfl rfl) rfl ?_
              refine Ls_on rfl rfl ?_
              refine Ls_run (run_move rfl) rfl ?_
              refine Ls_partP (t := 46) rfl (fun h44 => ?_) (fun h44 => ?_)
              · skip
                refine Ls_on rfl rfl ?_
                refine Ls_run (run_move rfl) rfl ?_
                refine Ls_on rfl rfl ?_
                refine Ls_run (run_move rfl) rfl ?_
                refine Ls_on rfl rfl ?_
                refine Ls_run (run_eql rfl rfl) rfl ?_
                refine Ls_on rfl rfl ?_
                refine Ls_run (run_move rfl) rfl ?_
                refine Ls_partP (t := 50) rfl (fun h45 => ?_) (fun h45 => ?_)
                · skip
                  refine Ls_off rfl rfl rfl rfl ?_
                  refine Ls_off rfl rfl rfl rfl ?_
                  refine Ls_on rfl rfl ?_
                  refine Ls_run (run_pick_t rfl rfl) rfl ?_
                  refine Ls_on rfl rfl ?_
                  refine Ls_run (run_asB (c := false) (run_neq_bool Try.underlying4 rfl rfl) (by first | exact ne_t ((kinds_c (by assumption) (by omega) (by omega)).2 (by omega)) | exact ne_d ((kinds_c (by assumption) (by omega) (by omega)).trans ⟨fun q => by omega, fun q => by omega⟩))) rfl ?_
                  refine Ls_on rfl rfl ?_
                  refine Ls_run (run_pick_t rfl rfl) rfl ?_
                  refine Ls_run (run_pick_f rfl rfl) rfl ?_
                  refine Ls_run (run_move rfl) rfl ?_
                  refine Ls_on rfl rfl ?_
                  refine Ls_run (run_as (run_field Try.underlying26 rfl inf23 (by decide) rfl) (show _ = Value.pointer (some ⟨b2, 7, none⟩) from rfl)) rfl ?_
                  refine Ls_on rfl rfl ?_
                  refine Ls_run (run_load sc23 rfl (hs.blk_at 1 rfl 7 rfl)) rfl ?_
                  refine Ls_on rfl rfl ?_
                  refine Ls_run (run_len Try.underlying23 rfl) rfl ?_
                  refine Ls_on rfl rfl ?_
                  refine Ls_run (run_gtr rfl rfl) rfl ?_
                  refine Ls_on rfl rfl ?_
                  refine Ls_run (run_move rfl) rfl ?_
                  refine Ls_partP (t := 62) rfl (fun h46 => ?_) (fun h46 => ?_)
                  · skip
                    refine Ls_on rfl rfl ?_
                    refine Ls_run (run_move rfl) rfl ?_
                    refine Ls_on rfl rfl ?_
                    refine Ls_run (run_move rfl) rfl ?_
                    refine Ls_on rfl rfl ?_
                    refine Ls_run (run_eql rfl rfl) rfl ?_
                    refine Ls_on rfl rfl ?_
                    refine Ls_run (run_asB (c := false) (run_neq_bool Try.underlying4 rfl rfl) (by first | exact ne_t ((kinds_k (by assumption) (by omega) (by omega)).2 (by omega)) | exact ne_d ((kinds_k (by assumption) (by omega) (by omega)).trans ⟨fun q => by omega, fun q => by omega⟩))) rfl ?_
                    refine Ls_on rfl rfl ?_
                    refine Ls_run (run_pick_t rfl rfl) rfl ?_
                    refine Ls_run (run_pick_f rfl rfl) rfl ?_
                    refine Ls_run (run_move rfl) rfl ?_
                    refine Ls_on rfl rfl ?_
                    refine Ls_run (run_as (run_field Try.underlying26 rfl inf24 (by decide) rfl) (show _ = Value.pointer (some ⟨b2, 8, none⟩) from rfl)) rfl ?_
                    refine Ls_on rfl rfl ?_
                    refine Ls_run (run_load sc24 rfl (hs.blk_at 1 rfl 8 rfl)) rfl ?_
                    refine Ls_on rfl rfl ?_
                    refine Ls_run (run_len Try.underlying24 rfl) rfl ?_
                    refine Ls_on rfl rfl ?_
                    refine Ls_run (run_gtr rfl rfl) rfl ?_
                    refine Ls_on rfl rfl ?_
                    refine Ls_run (run_move rfl) rfl ?_
                    refine Ls_partP (t := 74) rfl (fun h47 => ?_) (fun h47 => ?_)
                    · skip
                      refine Ls_on rfl rfl ?_
                      refine Ls_run (run_move rfl) rfl ?_
                      refine Ls_on rfl rfl ?_
                      refine Ls_run (run_move rfl) rfl ?_
                      refine Ls_on rfl rfl ?_
                      refine Ls_run (run_eql rfl rfl) rfl ?_
                      refine Ls_on rfl rfl ?_
                      refine Ls_run (run_asB (c := false) (run_neq_bool Try.underlying4 rfl rfl) (by first | exact ne_t ((kinds_p (by assumption) (by omega) (by omega)).2 (by omega)) | exact ne_d ((kinds_p (by assumption) (by omega) (by omega)).trans ⟨fun q => by omega, fun q => by omega⟩))) rfl ?_
                      refine Ls_on rfl rfl ?_
                      refine Ls_run (run_pick_t rfl rfl) rfl ?_
                      refine Ls_run (run_pick_f rfl rfl) rfl ?_
                      refine Ls_nil ?_
                      refine Jm_join 0 ?_ ?_
                      · rw [hEn28]; exact (subE_cons rfl (subE_cons rfl (subE_cons rfl (subE_cons rfl (subE_cons rfl subE_nil)))))
                      · skip
                        rw [hIv29]
                        exact hs
                    · skip
                      refine Ls_off rfl rfl rfl rfl ?_
                      refine Ls_off rfl rfl rfl rfl ?_
                      refine Ls_off rfl rfl rfl rfl ?_
                      refine Ls_off rfl rfl rfl rfl ?_
                      refine Ls_on rfl rfl ?_
                      refine Ls_run (run_pick_f rfl rfl) rfl ?_
                      refine Ls_run (run_pick_f rfl rfl) rfl ?_
                      refine Ls_nil ?_
                      refine Jm_join 0 ?_ ?_
                      · rw [hEn28]; exact (subE_cons rfl (subE_cons rfl (subE_cons rfl (subE_cons rfl (subE_cons rfl subE_nil)))))
                      · skip
                        rw [hIv29]
                        exact hs
                  · skip
                    refine Ls_off rfl rfl rfl rfl ?_
                    refine Ls_off rfl rfl rfl rfl ?_
                    refine Ls_off rfl rfl rfl rfl ?_
                    refine Ls_off rfl rfl rfl rfl ?_
                    refine Ls_on rfl rfl ?_
                    refine Ls_run (run_pick_f rfl rfl) rfl ?_
                    refine Ls_run (run_pick_f rfl rfl) rfl ?_
                    refine Ls_run (run_move rfl) rfl ?_
                    refine Ls_on rfl rfl ?_
                    refine Ls_run (run_as (run_field Try.underlying26 rfl inf24 (by decide) rfl) (show _ = Value.pointer (some ⟨b2, 8, none⟩) from rfl)) rfl ?_
                    refine Ls_on rfl rfl ?_
                    refine Ls_run (run_load sc24 rfl (hs.blk_at 1 rfl 8 rfl)) rfl ?_
                    refine Ls_on rfl rfl ?_
                    refine Ls_run (run_len Try.underlying24 rfl) rfl ?_
                    refine Ls_on rfl rfl ?_
                    refine Ls_run (run_gtr rfl rfl) rfl ?_
                    refine Ls_on rfl rfl ?_
                    refine Ls_run (run_move rfl) rfl ?_
                    refine Ls_partP (t := 74) rfl (fun h48 => ?_) (fun h48 => ?_)
                    · skip
                      refine Ls_on rfl rfl ?_
                      refine Ls_run (run_move rfl) rfl ?_
                      refine Ls_on rfl rfl ?_
                      refine Ls_run (run_move rfl) rfl ?_
                      refine Ls_on rfl rfl ?_
                      refine Ls_run (run_eql rfl rfl) rfl ?_
                      refine Ls_on rfl rfl ?_
                      refine Ls_run (run_asB (c := false) (run_neq_bool Try.underlying4 rfl rfl) (by first | exact ne_t ((kinds_p (by assumption) (by omega) (by omega)).2 (by omega)) | exact ne_d ((kinds_p (by assumption) (by omega) (by omega)).trans ⟨fun q => by omega, fun q => by omega⟩))) rfl ?_
                      refine Ls_on rfl rfl ?_
                      refine Ls_run (run_pick_t rfl rfl) rfl ?_
                      refine Ls_run (run_pick_f rfl rfl) rfl ?_
                      refine Ls_nil ?_
                      refine Jm_join 0 ?_ ?_
                      · rw [hEn28]; exact (subE_cons rfl (subE_cons rfl (subE_cons rfl (subE_cons rfl (subE_cons rfl subE_nil)))))
                      · skip
                        rw [hIv29]
                        exact hs
                    · skip
                      refine Ls_off rfl rfl rfl rfl ?_
                      refine Ls_off rfl rfl rfl rfl ?_
                      refine Ls_off rfl rfl rfl rfl ?_
                      refine Ls_off rfl rfl rfl rfl ?_
                      refine Ls_on rfl rfl ?_
                      refine Ls_run (run_pick_f rfl rfl) rfl ?_
                      refine Ls_run (run_pick_f rfl rfl) rfl ?_
                      refine Ls_nil ?_
                      refine Jm_join 0 ?_ ?_
                      · rw [hEn28]; exact (subE_cons rfl (subE_cons rfl (subE_cons rfl (subE_cons rfl (subE_cons rfl subE_nil)))))
                      · skip
                        rw [hIv29]
                        exact hs
                · skip
                  refine Ls_on rfl rfl ?_
                  refine Ls_run (run_move rfl) rfl ?_
                  refine Ls_on rfl rfl ?_
                  refine Ls_run (run_eql rfl rfl) rfl ?_
                  refine Ls_on rfl rfl ?_
                  refine Ls_run (run_pick_f rfl rfl) rfl ?_
                  refine Ls_on rfl rfl ?_
                  refine Ls_run (run_asB (c := false) (run_neq_bool Try.underlying4 rfl rfl) (by first | exact ne_t ((kinds_c (by assumption) (by omega) (by omega)).2 (by omega)) | exact ne_d ((kinds_c (by assumption) (by omega) (by omega)).trans ⟨fun q => by omega, fun q => by omega⟩))) rfl ?_
                  refine Ls_on rfl rfl ?_
                  refine Ls_run (run_pick_t rfl rfl) rfl ?_
                  refine Ls_run (run_pick_f rfl rfl) rfl ?_
                  refine Ls_run (run_move rfl) rfl ?_
                  refine Ls_on rfl rfl ?_
                  refine Ls_run (run_as (run_field Try.underlying26 rfl inf23 (by decide) rfl) (show _ = Value.pointer (some ⟨b2, 7, none⟩) from rfl)) rfl ?_
                  refine Ls_on rfl rfl ?_
                  refine Ls_run (run_load sc23 rfl (hs.blk_at 1 rfl 7 rfl)) rfl ?_
                  refine Ls_on rfl rfl ?_
                  refine Ls_run (run_len Try.underlying23 rfl) rfl ?_
                  refine Ls_on rfl rfl ?_
                  refine Ls_run (run_gtr rfl rfl) rfl ?_
                  refine Ls_on rfl rfl ?_
                  refine Ls_run (run_move rfl) rfl ?_
                  refine Ls_partP (t := 62) rfl (fun h49 => ?_) (fun h49 => ?_)
                  · skip
                    refine Ls_on rfl rfl ?_
                    refine Ls_run (run_move rfl) rfl ?_
                    refine Ls_on rfl rfl ?_
                    refine Ls_run (run_move rfl) rfl ?_
                    refine Ls_on rfl rfl ?_
                    refine Ls_run (run_eql rfl rfl) rfl ?_
                    refine Ls_on rfl rfl ?_
                    refine Ls_run (run_asB (c := false) (run_neq_bool Try.underlying4 rfl rfl) (by first | exact ne_t ((kinds_k (by assumption) (by omega) (by omega)).2 (by omega)) | exact ne_d ((kinds_k (by assumption) (by omega) (by omega)).trans ⟨fun q => by omega, fun q => by omega⟩))) rfl ?_
                    refine Ls_on rfl rfl ?_
                    refine Ls_run (run_pick_t rfl rfl) rfl ?_
                    refine Ls_run (run_pick_f rfl rfl) rfl ?_
                    refine Ls_run (run_move rfl) rfl ?_
                    refine Ls_on rfl rfl ?_
                    refine Ls_run (run_as (run_field Try.underlying26 rfl inf24 (by decide) rfl) (show _ = Value.pointer (some ⟨b2, 8, none⟩) from rfl)) rfl ?_
                    refine Ls_on rfl rfl ?_
                    refine Ls_run (run_load sc24 rfl (hs.blk_at 1 rfl 8 rfl)) rfl ?_
                    refine Ls_on rfl rfl ?_
                    refine Ls_run (run_len Try.underlying24 rfl) rfl ?_
                    refine Ls_on rfl rfl ?_
                    refine Ls_run (run_gtr rfl rfl) rfl ?_
                    refine Ls_on rfl rfl ?_
                    refine Ls_run (run_move rfl) rfl ?_
                    refine Ls_partP (t := 74) rfl (fun h50 => ?_) (fun h50 => ?_)
                    · skip
                      refine Ls_on rfl rfl ?_
                      refine Ls_run (run_move rfl) rfl ?_
                      refine Ls_on rfl rfl ?_
                      refine Ls_run (run_move rfl) rfl ?_
                      refine Ls_on rfl rfl ?_
                      refine Ls_run (run_eql rfl rfl) rfl ?_
                      refine Ls_on rfl rfl ?_
                      refine Ls_run (run_asB (c := false) (run_neq_bool Try.underlying4 rfl rfl) (by first | exact ne_t ((kinds_p (by assumption) (by omega) (by omega)).2 (by omega)) | exact ne_d ((kinds_p (by assumption) (by omega) (by omega)).trans ⟨fun q => by omega, fun q => by omega⟩))) rfl ?_
                      refine Ls_on rfl rfl ?_
                      refine Ls_run (run_pick_t rfl rfl) rfl ?_
                      refine Ls_run (run_pick_f rfl rfl) rfl ?_
                      refine Ls_nil ?_
                      refine Jm_join 0 ?_ ?_
                      · rw [hEn28]; exact (subE_cons rfl (subE_cons rfl (subE_cons rfl (subE_cons rfl (subE_cons rfl subE_nil)))))
                      · skip
                        rw [hIv29]
                        exact hs
                    · skip
                      refine Ls_off rfl rfl rfl rfl ?_
                      refine Ls_off rfl rfl rfl rfl ?_
                      refine Ls_off rfl rfl rfl rfl ?_
                      refine Ls_off rfl rfl rfl rfl ?_
                      refine Ls_on rfl rfl ?_
                      refine Ls_run (run_pick_f rfl rfl) rfl ?_
                      refine Ls_run (run_pick_f rfl rfl) rfl ?_
                      refine Ls_nil ?_
                      refine Jm_join 0 ?_ ?_
                      · rw [hEn28]; exact (subE_cons rfl (subE_cons rfl (subE_cons rfl (subE_cons rfl (subE_cons rfl subE_nil)))))
                      · skip
                        rw [hIv29]
                        exact hs
                  · skip
                    refine Ls_off rfl rfl rfl rfl ?_
                    refine Ls_off rfl rfl rfl rfl ?_
                    refine Ls_off rfl rfl rfl rfl ?_
                    refine Ls_off rfl rfl rfl rfl ?_
                    refine Ls_on rfl rfl ?_
                    refine Ls_run (run_pick_f rfl rfl) rfl ?_
                    refine Ls_run (run_pick_f rfl rfl) rfl ?_
                    refine Ls_run (run_move rfl) rfl ?_
                    refine Ls_on rfl rfl ?_
                    refine Ls_run (run_as (run_field Try.underlying26 rfl inf24 (by decide) rfl) (show _ = Value.pointer (some ⟨b2, 8, none⟩) from rfl)) rfl ?_
                    refine Ls_on rfl rfl ?_
                    refine Ls_run (run_load sc24 rfl (hs.blk_at 1 rfl 8 rfl)) rfl ?_
                    refine Ls_on rfl rfl ?_
                    refine Ls_run (run_len Try.underlying24 rfl) rfl ?_
                    refine Ls_on rfl rfl ?_
                    refine Ls_run (run_gtr rfl rfl) rfl ?_
                    refine Ls_on rfl rfl ?_
                    refine Ls_run (run_move rfl) rfl ?_
                    refine Ls_partP (t := 74) rfl (fun h51 => ?_) (fun h51 => ?_)
                    · skip
                      refine Ls_on rfl rfl ?_
                      refine Ls_run (run_move rfl) rfl ?_
                      refine Ls_on rfl rfl ?_
                      refine Ls_run (run_move rfl) rfl ?_
                      refine Ls_on rfl rfl ?_
                      refine Ls_run (run_eql rfl rfl) rfl ?_
                      refine Ls_on rfl rfl ?_
                      refine Ls_run (run_asB (c := false) (run_neq_bool Try.underlying4 rfl rfl) (by first | exact ne_t ((kinds_p (by assumption) (by omega) (by omega)).2 (by omega)) | exact ne_d ((kinds_p (by assumption) (by omega) (by omega)).trans ⟨fun q => by omega, fun q => by omega⟩))) rfl ?_
                      refine Ls_on rfl rfl ?_
                      refine Ls_run (run_pick_t rfl rfl) rfl ?_
                      refine Ls_run (run_pick_f rfl rfl) rfl ?_
                      refine Ls_nil ?_
                      refine Jm_join 0 ?_ ?_
                      · rw [hEn28]; exact (subE_cons rfl (subE_cons rfl (subE_cons rfl (subE_cons rfl (subE_cons rfl subE_nil)))))
                      · skip
                        rw [hIv29]
                        exact hs
                    · skip
                      refine Ls_off rfl rfl rfl rfl ?_
                      refine Ls_off rfl rfl rfl rfl ?_
                      refine Ls_off rfl rfl rfl rfl ?_
                      refine Ls_off rfl rfl rfl rfl ?_
                      refine Ls_on rfl rfl ?_
                      refine Ls_run (run_pick_f rfl rfl) rfl ?_
                      refine Ls_run (run_pick_f rfl rfl) rfl ?_
                      refine Ls_nil ?_
                      refine Jm_join 0 ?_ ?_
                      · rw [hEn28]; exact (subE_cons rfl (subE_cons rfl (subE_cons rfl (subE_cons rfl (subE_cons rfl subE_nil)))))
                      · skip
                        rw [hIv29]
                        exact hs
              · skip
                refine Ls_off rfl rfl rfl rfl ?_
                refine Ls_off rfl rfl rfl rfl ?_
                refine Ls_off rfl rfl rfl rfl ?_
                refine Ls_off rfl rfl rfl rfl ?_
                refine Ls_off' rfl rfl rfl ?_
                refine Ls_off' rfl rfl rfl ?_
                refine Ls_off rfl rfl rfl rfl ?_
                refine Ls_off rfl rfl rfl rfl ?_
                refine Ls_on rfl rfl ?_
                refine Ls_run (run_pick_f rfl rfl) rfl ?_
                refine Ls_run (run_pick_f rfl rfl) rfl ?_
                refine Ls_run (run_move rfl) rfl ?_
                refine Ls_on rfl rfl ?_
                refine Ls_run (run_as (run_field Try.underlying26 rfl inf23 (by decide) rfl) (show _ = Value.pointer (some ⟨b2, 7, none⟩) from rfl)) rfl ?_
                refine Ls_on rfl rfl ?_
                refine Ls_run (run_load sc23 rfl (hs.blk_at 1 rfl 7 rfl)) rfl ?_
                refine Ls_on rfl rfl ?_
                refine Ls_run (run_len Try.underlying23 rfl) rfl ?_
                refine Ls_on rfl rfl ?_
                refine Ls_run (run_gtr rfl rfl) rfl ?_
                refine Ls_on rfl rfl ?_
                refine Ls_run (run_move rfl) rfl ?_
                refine Ls_partP (t := 62) rfl (fun h52 => ?_) (fun h52 => ?_)
                · skip
                  refine Ls_on rfl rfl ?_
                  refine Ls_run (run_move rfl) rfl ?_
                  refine Ls_on rfl rfl ?_
                  refine Ls_run (run_move rfl) rfl ?_
                  refine Ls_on rfl rfl ?_
                  refine Ls_run (run_eql rfl rfl) rfl ?_
                  refine Ls_on rfl rfl ?_
                  refine Ls_run (run_asB (c := false) (run_neq_bool Try.underlying4 rfl rfl) (by first | exact ne_t ((kinds_k (by assumption) (by omega) (by omega)).2 (by omega)) | exact ne_d ((kinds_k (by assumption) (by omega) (by omega)).trans ⟨fun q => by omega, fun q => by omega⟩))) rfl ?_
                  refine Ls_on rfl rfl ?_
                  refine Ls_run (run_pick_t rfl rfl) rfl ?_
                  refine Ls_run (run_pick_f rfl rfl) rfl ?_
                  refine Ls_run (run_move rfl) rfl ?_
                  refine Ls_on rfl rfl ?_
                  refine Ls_run (run_as (run_field Try.underlying26 rfl inf24 (by decide) rfl) (show _ = Value.pointer (some ⟨b2, 8, none⟩) from rfl)) rfl ?_
                  refine Ls_on rfl rfl ?_
                  refine Ls_run (run_load sc24 rfl (hs.blk_at 1 rfl 8 rfl)) rfl ?_
                  refine Ls_on rfl rfl ?_
                  refine Ls_run (run_len Try.underlying24 rfl) rfl ?_
                  refine Ls_on rfl rfl ?_
                  refine Ls_run (run_gtr rfl rfl) rfl ?_
                  refine Ls_on rfl rfl ?_
                  refine Ls_run (run_move rfl) rfl ?_
                  refine Ls_partP (t := 74) rfl (fun h53 => ?_) (fun h53 => ?_)
                  · skip
                    refine Ls_on rfl rfl ?_
                    refine Ls_run (run_move rfl) rfl ?_
                    refine Ls_on rfl rfl ?_
                    refine Ls_run (run_move rfl) rfl ?_
                    refine Ls_on rfl rfl ?_
                    refine Ls_run (run_eql rfl rfl) rfl ?_
                    refine Ls_on rfl rfl ?_
                    refine Ls_run (run_asB (c := false) (run_neq_bool Try.underlying4 rfl rfl) (by first | exact ne_t ((kinds_p (by assumption) (by omega) (by omega)).2 (by omega)) | exact ne_d ((kinds_p (by assumption) (by omega) (by omega)).trans ⟨fun q => by omega, fun q => by omega⟩))) rfl ?_
                    refine Ls_on rfl rfl ?_
                    refine Ls_run (run_pick_t rfl rfl) rfl ?_
                    refine Ls_run (run_pick_f rfl rfl) rfl ?_
                    refine Ls_nil ?_
                    refine Jm_join 0 ?_ ?_
                    · rw [hEn28]; exact (subE_cons rfl (subE_cons rfl (subE_cons rfl (subE_cons rfl (subE_cons rfl subE_nil)))))
                    · skip
                      rw [hIv29]
                      exact hs
                  · skip
                    refine Ls_off rfl rfl rfl rfl ?_
                    refine Ls_off rfl rfl rfl rfl ?_
                    refine Ls_off rfl rfl rfl rfl ?_
                    refine Ls_off rfl rfl rfl rfl ?_
                    refine Ls_on rfl rfl ?_
                    refine Ls_run (run_pick_f rfl rfl) rfl ?_
                    refine Ls_run (run_pick_f rfl rfl) rfl ?_
                    refine Ls_nil ?_
                    refine Jm_join 0 ?_ ?_
                    · rw [hEn28]; exact (subE_cons rfl (subE_cons rfl (subE_cons rfl (subE_cons rfl (subE_cons rfl subE_nil)))))
                    · skip
                      rw [hIv29]
                      exact hs
                · skip
                  refine Ls_off rfl rfl rfl rfl ?_
                  refine Ls_off rfl rfl rfl rfl ?_
                  refine Ls_off rfl rfl rfl rfl ?_
                  refine Ls_off rfl rfl rfl rfl ?_
                  refine Ls_on rfl rfl ?_
                  refine Ls_run (run_pick_f rfl rfl) rfl ?_
                  refine Ls_run (run_pick_f rfl rfl) rfl ?_
                  refine Ls_run (run_move rfl) rfl ?_
                  refine Ls_on rfl rfl ?_
                  refine Ls_run (run_as (run_field Try.underlying26 rfl inf24 (by decide) rfl) (show _ = Value.pointer (some ⟨b2, 8, none⟩) from rfl)) rfl ?_
                  refine Ls_on rfl rfl ?_
                  refine Ls_run (run_load sc24 rfl (hs.blk_at 1 rfl 8 rfl)) rfl ?_
                  refine Ls_on rfl rfl ?_
                  refine Ls_run (run_len Try.underlying24 rfl) rfl ?_
                  refine Ls_on rfl rfl ?_
                  refine Ls_run (run_gtr rfl rfl) rfl ?_
                  refine Ls_on rfl rfl ?_
                  refine Ls_run (run_move rfl) rfl ?_
                  refine Ls_partP (t := 74) rfl (fun h54 => ?_) (fun h54 => ?_)
                  · skip
                    refine Ls_on rfl rfl ?_
                    refine Ls_run (run_move rfl) rfl ?_
                    refine Ls_on rfl rfl ?_
                    refine Ls_run (run_move rfl) rfl ?_
                    refine Ls_on rfl rfl ?_
                    refine Ls_run (run_eql rfl rfl) rfl ?_
                    refine Ls_on rfl rfl ?_
                    refine Ls_run (run_asB (c := false) (run_neq_bool Try.underlying4 rfl rfl) (by first | exact ne_t ((kinds_p (by assumption) (by omega) (by omega)).2 (by omega)) | exact ne_d ((kinds_p (by assumption) (by omega) (by omega)).trans ⟨fun q => by omega, fun q => by omega⟩))) rfl ?_
                    refine Ls_on rfl rfl ?_
                    refine Ls_run (run_pick_t rfl rfl) rfl ?_
                    refine Ls_run (run_pick_f rfl rfl) rfl ?_
                    refine Ls_nil ?_
                    refine Jm_join 0 ?_ ?_
                    · rw [hEn28]; exact (subE_cons rfl (subE_cons rfl (subE_cons rfl (subE_cons rfl (subE_cons rfl subE_nil)))))
                    · skip
                      rw [hIv29]
                      exact hs
                  · skip
                    refine Ls_off rfl rfl rfl rfl ?_
                    refine Ls_off rfl rfl rfl rfl ?_
                    refine Ls_off rfl rfl rfl rfl ?_
                    refine Ls_off rfl rfl rfl rfl ?_
                    refine Ls_on rfl rfl ?_
                    refine Ls_run (run_pick_f rfl rfl) rfl ?_
                    refine Ls_run (run_pick_f rfl rfl) rfl ?_
                    refine Ls_nil ?_
                    refine Jm_join 0 ?_ ?_
                    · rw [hEn28]; exact (subE_cons rfl (subE_cons rfl (subE_cons rfl (subE_cons rfl (subE_cons rfl subE_nil)))))
                    · skip
                      rw [hIv29]
                      exact hs
          · skip
            refine Ls_off rfl rfl rfl rfl ?_
            refine Ls_off rfl rfl rfl rfl ?_
            refine Ls_off rfl rfl rfl rfl ?_
            refine Ls_off rfl rfl rfl rfl ?_
            refine Ls_off' rfl rfl rfl ?_
            refine Ls_off' rfl rfl rfl ?_
            refine Ls_off rfl rfl rfl rfl ?_
            refine Ls_off rfl rfl rfl rfl ?_
            refine Ls_run (run_pick_f rfl rfl) rfl ?_
            refine Ls_run (run_move rfl) rfl ?_
            refine Ls_on rfl rfl ?_
            refine Ls_run (run_as (run_field Try.underlying26 rfl inf3 (by decide) rfl) (show _ = Value.pointer (some ⟨b2, 5, none⟩) from rfl)) rfl ?_
            refine Ls_on rfl rfl ?_
            refine Ls_run (run_load sc3 rfl (hs.blk_at 1 rfl 5 rfl)) rfl ?_
            refine Ls_on rfl rfl ?_
            refine Ls_run (run_gtr rfl rfl) rfl ?_
            refine Ls_on rfl rfl ?_
            refine Ls_run (run_move rfl) rfl ?_
            refine Ls_partP (t := 46) rfl (fun h55 => ?_) (fun h55 => ?_)
            · skip
              refine Ls_on rfl rfl ?_
              refine Ls_run (run_move rfl) rfl ?_
              refine Ls_on rfl rfl ?_
              refine Ls_run (run_move rfl) rfl ?_
              refine Ls_on rfl rfl ?_
              refine Ls_run (run_eql rfl rfl) rfl ?_
              refine Ls_on rfl rfl ?_
              refine Ls_run (run_move rfl) rfl ?_
              refine Ls_partP (t := 50) rfl (fun h56 => ?_) (fun h56 => ?_)
              · skip
                refine Ls_off rfl rfl rfl rfl ?_
                refine Ls_off rfl rfl rfl rfl ?_
                refine Ls_on rfl rfl ?_
                refine Ls_run (run_pick_t rfl rfl) rfl ?_
                refine Ls_on rfl rfl ?_
                refine Ls_run (run_asB (c := false) (run_neq_bool Try.underlying4 rfl rfl) (by first | exact ne_t ((kinds_c (by assumption) (by omega) (by omega)).2 (by omega)) | exact ne_d ((kinds_c (by assumption) (by omega) (by omega)).trans ⟨fun q => by omega, fun q => by omega⟩))) rfl ?_
                refine Ls_on rfl rfl ?_
                refine Ls_run (run_pick_t rfl rfl) rfl ?_
                refine Ls_run (run_pick_f rfl rfl) rfl ?_
                refine Ls_run (run_move rfl) rfl ?_
                refine Ls_on rfl rfl ?_
                refine Ls_run (run_as (run_field Try.underlying26 rfl inf23 (by decide) rfl) (show _ = Value.pointer (some ⟨b2, 7, none⟩) from rfl)) rfl ?_
                refine Ls_on rfl rfl ?_
                refine Ls_run (run_load sc23 rfl (hs.blk_at 1 rfl 7 rfl)) rfl ?_
                refine Ls_on rfl rfl ?_
                refine Ls_run (run_len Try.underlying23 rfl) rfl ?_
                refine Ls_on rfl rfl ?_
                refine Ls_run (run_gtr rfl rfl) rfl ?_
                refine Ls_on rfl rfl ?_
                refine Ls_run (run_move rfl) rfl ?_
                refine Ls_partP (t := 62) rfl (fun h57 => ?_) (fun h57 => ?_)
                · skip
                  refine Ls_on rfl rfl ?_
                  refine Ls_run (run_move rfl) rfl ?_
                  refine Ls_on rfl rfl ?_
                  refine Ls_run (run_move rfl) rfl ?_
                  refine Ls_on rfl rfl ?_
                  refine Ls_run (run_eql rfl rfl) rfl ?_
                  refine Ls_on rfl rfl ?_
                  refine Ls_run (run_asB (c := false) (run_neq_bool Try.underlying4 rfl rfl) (by first | exact ne_t ((kinds_k (by assumption) (by omega) (by omega)).2 (by omega)) | exact ne_d ((kinds_k (by assumption) (by omega) (by omega)).trans ⟨fun q => by omega, fun q => by omega⟩))) rfl ?_
                  refine Ls_on rfl rfl ?_
                  refine Ls_run (run_pick_t rfl rfl) rfl ?_
                  refine Ls_run (run_pick_f rfl rfl) rfl ?_
                  refine Ls_run (run_move rfl) rfl ?_
                  refine Ls_on rfl rfl ?_
                  refine Ls_run (run_as (run_field Try.underlying26 rfl inf24 (by decide) rfl) (show _ = Value.pointer (some ⟨b2, 8, none⟩) from rfl)) rfl ?_
                  refine Ls_on rfl rfl ?_
                  refine Ls_run (run_load sc24 rfl (hs.blk_at 1 rfl 8 rfl)) rfl ?_
                  refine Ls_on rfl rfl ?_
                  refine Ls_run (run_len Try.underlying24 rfl) rfl ?_
                  refine Ls_on rfl rfl ?_
                  refine Ls_run (run_gtr rfl rfl) rfl ?_
                  refine Ls_on rfl rfl ?_
                  refine Ls_run (run_move rfl) rfl ?_
                  refine Ls_partP (t := 74) rfl (fun h58 => ?_) (fun h58 => ?_)
                  · skip
                    refine Ls_on rfl rfl ?_
                    refine Ls_run (run_move rfl) rfl ?_
                    refine Ls_on rfl rfl ?_
                    refine Ls_run (run_move rfl) rfl ?_
                    refine Ls_on rfl rfl ?_
                    refine Ls_run (run_eql rfl rfl) rfl ?_
                    refine Ls_on rfl rfl ?_
                    refine Ls_run (run_asB (c := false) (run_neq_bool Try.underlying4 rfl rfl) (by first | exact ne_t ((kinds_p (by assumption) (by omega) (by omega)).2 (by omega)) | exact ne_d ((kinds_p (by assumption) (by omega) (by omega)).trans ⟨fun q => by omega, fun q => by omega⟩))) rfl ?_
                    refine Ls_on rfl rfl ?_
                    refine Ls_run (run_pick_t rfl rfl) rfl ?_
                    refine Ls_run (run_pick_f rfl rfl) rfl ?_
                    refine Ls_nil ?_
                    refine Jm_join 0 ?_ ?_
                    · rw [hEn28]; exact (subE_cons rfl (subE_cons rfl (subE_cons rfl (subE_cons rfl (subE_cons rfl subE_nil)))))
                    · skip
                      rw [hIv29]
                      exact hs
                  · skip
                    refine Ls_off rfl rfl rfl rfl ?_
                    refine Ls_off rfl rfl rfl rfl ?_
                    refine Ls_off rfl rfl rfl rfl ?_
                    refine Ls_off rfl rfl rfl rfl ?_
                    refine Ls_on rfl rfl ?_
                    refine Ls_run (run_pick_f rfl rfl) rfl ?_
                    refine Ls_run (run_pick_f rfl rfl) rfl ?_
                    refine Ls_nil ?_
                    refine Jm_join 0 ?_ ?_
                    · rw [hEn28]; exact (subE_cons rfl (subE_cons rfl (subE_cons rfl (subE_cons rfl (subE_cons rfl subE_nil)))))
                    · skip
                      rw [hIv29]
                      exact hs
                · skip
                  refine Ls_off rfl rfl rfl rfl ?_
                  refine Ls_off rfl rfl rfl rfl ?_
                  refine Ls_off rfl rfl rfl rfl ?_
                  refine Ls_off rfl rfl rfl rfl ?_
                  refine Ls_on rfl rfl ?_
                  refine Ls_run (run_pick_f rfl rfl) rfl ?_
                  refine Ls_run (run_pick_f rfl rfl) rfl ?_
                  refine Ls_run (run_move rfl) rfl ?_
                  refine Ls_on rfl rfl ?_
                  refine Ls_run (run_as (run_field Try.underlying26 rfl inf24 (by decide) rfl) (show _ = Value.pointer (some ⟨b2, 8, none⟩) from rfl)) rfl ?_
                  refine Ls_on rfl rfl ?_
                  refine Ls_run (run_load sc24 rfl (hs.blk_at 1 rfl 8 rfl)) rfl ?_
                  refine Ls_on rfl rfl ?_
                  refine Ls_run (run_len Try.underlying24 rfl) rfl ?_
                  refine Ls_on rfl rfl ?_
                  refine Ls_run (run_gtr rfl rfl) rfl ?_
                  refine Ls_on rfl rfl ?_
                  refine Ls_run (run_move rfl) rfl ?_
                  refine Ls_partP (t := 74) rfl (fun h59 => ?_) (fun h59 => ?_)
                  · skip
                    refine Ls_on rfl rfl ?_
                    refine Ls_run (run_move rfl) rfl ?_
                    refine Ls_on rfl rfl ?_
                    refine Ls_run (run_move rfl) rfl ?_
                    refine Ls_on rfl rfl ?_
                    refine Ls_run (run_eql rfl rfl) rfl ?_
                    refine Ls_on rfl rfl ?_
                    refine Ls_run (run_asB (c := false) (run_neq_bool Try.underlying4 rfl rfl) (by first | exact ne_t ((kinds_p (by assumption) (by omega) (by omega)).2 (by omega)) | exact ne_d ((kinds_p (by assumption) (by omega) (by omega)).trans ⟨fun q => by omega, fun q => by omega⟩))) rfl ?_
                    refine Ls_on rfl rfl ?_
                    refine Ls_run (run_pick_t rfl rfl) rfl ?_
                    refine Ls_run (run_pick_f rfl rfl) rfl ?_
                    refine Ls_nil ?_
                    refine Jm_join 0 ?_ ?_
                    · rw [hEn28]; exact (subE_cons rfl (subE_cons rfl (subE_cons rfl (subE_cons rfl (subE_cons rfl subE_nil)))))
                    · skip
                      rw [hIv29]
                      exact hs
                  · skip
                    refine Ls_off rfl rfl rfl rfl ?_
                    refine Ls_off rfl rfl rfl rfl ?_
                    refine Ls_off rfl rfl rfl rfl ?_
                    refine Ls_off rfl rfl rfl rfl ?_
                    refine Ls_on rfl rfl ?_
                    refine Ls_run (run_pick_f rfl rfl) rfl ?_
                    refine Ls_run (run_pick_f rfl rfl) rfl ?_
                    refine Ls_nil ?_
                    refine Jm_join 0 ?_ ?_
                    · rw [hEn28]; exact (subE_cons rfl (subE_cons rfl (subE_cons rfl (subE_cons rfl (subE_cons rfl subE_nil)))))
                    · skip
                      rw [hIv29]
                      exact hs
              · skip
                refine Ls_on rfl rfl ?_
                refine Ls_run (run_move rfl) rfl ?_
                refine Ls_on rfl rfl ?_
                refine Ls_run (run_eql rfl rfl) rfl ?_
                refine Ls_on rfl rfl ?_
                refine Ls_run (run_pick_f rfl rfl) rfl ?_
                refine Ls_on rfl rfl ?_
                refine Ls_run (run_asB (c := false) (run_neq_bool Try.underlying4 rfl rfl) (by first | exact ne_t ((kinds_c (by assumption) (by omega) (by omega)).2 (by omega)) | exact ne_d ((kinds_c (by assumption) (by omega) (by omega)).trans ⟨fun q => by omega, fun q => by omega⟩))) rfl ?_
                refine Ls_on rfl rfl ?_
                refine Ls_run (run_pick_t rfl rfl) rfl ?_
                refine Ls_run (run_pick_f rfl rfl) rfl ?_
                refine Ls_run (run_move rfl) rfl ?_
                refine Ls_on rfl rfl ?_
                refine Ls_run (run_as (run_field Try.underlying26 rfl inf23 (by decide) rfl) (show _ = Value.pointer (some ⟨b2, 7, none⟩) from rfl)) rfl ?_
                refine Ls_on rfl rfl ?_
                refine Ls_run (run_load sc23 rfl (hs.blk_at 1 rfl 7 rfl)) rfl ?_
                refine Ls_on rfl rfl ?_
                refine Ls_run (run_len Try.underlying23 rfl) rfl ?_
                refine Ls_on rfl rfl ?_
                refine Ls_run (run_gtr rfl rfl) rfl ?_
                refine Ls_on rfl rfl ?_
                refine Ls_run (run_move rfl) rfl ?_
                refine Ls_partP (t := 62) rfl (fun h60 => ?_) (fun h60 => ?_)
                · skip
                  refine Ls_on rfl rfl ?_
                  refine Ls_run (run_move rfl) rfl ?_
                  refine Ls_on rfl rfl ?_
                  refine Ls_run (run_move rfl) rfl ?_
                  refine Ls_on rfl rfl ?_
                  refine Ls_run (run_eql rfl rfl) rfl ?_
                  refine Ls_on rfl rfl ?_
                  refine Ls_run (run_asB (c := false) (run_neq_bool Try.underlying4 rfl rfl) (by first | exact ne_t ((kinds_k (by assumption) (by omega) (by omega)).2 (by omega)) | exact ne_d ((kinds_k (by assumption) (by omega) (by omega)).trans ⟨fun q => by omega, fun q => by omega⟩))) rfl ?_
                  refine Ls_on rfl rfl ?_
                  refine Ls_run (run_pick_t rfl rfl) rfl ?_
                  refine Ls_run (run_pick_f rfl rfl) rfl ?_
                  refine Ls_run (run_move rfl) rfl ?_
                  refine Ls_on rfl rfl ?_
                  refine Ls_run (run_as (run_field Try.underlying26 rfl inf24 (by decide) rfl) (show _ = Value.pointer (some ⟨b2, 8, none⟩) from rfl)) rfl ?_
                  refine Ls_on rfl rfl ?_
                  refine Ls_run (run_load sc24 rfl (hs.blk_at 1 rfl 8 rfl)) rfl ?_
                  refine Ls_on rfl rfl ?_
                  refine Ls_run (run_len Try.underlying24 rfl) rfl ?_
                  refine Ls_on rfl rfl ?_
                  refine Ls_run (run_gtr rfl rfl) rfl ?_
                  refine Ls_on rfl rfl ?_
                  refine Ls_run (run_move rfl) rfl ?_
                  refine Ls_partP (t := 74) rfl (fun h61 => ?_) (fun h61 => ?_)
                  · skip
                    refine Ls_on rfl rfl ?_
                    refine Ls_run (run_move rfl) rfl ?_
                    refine Ls_on rfl rfl ?_
                    refine Ls_run (run_move rfl) rfl ?_
                    refine Ls_on rfl rfl ?_
                    refine Ls_run (run_eql rfl rfl) rfl ?_
                    refine Ls_on rfl rfl ?_
                    refine Ls_run (run_asB (c := false) (run_neq_bool Try.underlying4 rfl rfl) (by first | exact ne_t ((kinds_p (by assumption) (by omega) (by omega)).2 (by omega)) | exact ne_d ((kinds_p (by assumption) (by omega) (by omega)).trans ⟨fun q => by omega, fun q => by omega⟩))) rfl ?_
                    refine Ls_on rfl rfl ?_
                    refine Ls_run (run_pick_t rfl rfl) rfl ?_
                    refine Ls_run (run_pick_f rfl rfl) rfl ?_
                    refine Ls_nil ?_
                    refine Jm_join 0 ?_ ?_
                    · rw [hEn28]; exact (subE_cons rfl (subE_cons rfl (subE_cons rfl (subE_cons rfl (subE_cons rfl subE_nil)))))
                    · skip
                      rw [hIv29]
                      exact hs
                  · skip
                    refine Ls_off rfl rfl rfl rfl ?_
                    refine Ls_off rfl rfl rfl rfl ?_
                    refine Ls_off rfl rfl rfl rfl ?_
                    refine Ls_off rfl rfl rfl rfl ?_
                    refine Ls_on rfl rfl ?_
                    refine Ls_run (run_pick_f rfl rfl) rfl ?_
                    refine Ls_run (run_pick_f rfl rfl) rfl ?_
                    refine Ls_nil ?_
                    refine Jm_join 0 ?_ ?_
                    · rw [hEn28]; exact (subE_cons rfl (subE_cons rfl (subE_cons rfl (subE_cons rfl (subE_cons rfl subE_nil)))))
                    · skip
                      rw [hIv29]
                      exact hs
                · skip
                  refine Ls_off rfl rfl rfl rfl ?_
                  refine Ls_off rfl rfl rfl rfl ?_
                  refine Ls_off rfl rfl rfl rfl ?_
                  refine Ls_off rfl rfl rfl rfl ?_
                  refine Ls_on rfl rfl ?_
                  refine Ls_run (run_pick_f rfl rfl) rfl ?_
                  refine Ls_run (run_pick_f rfl rfl) rfl ?_
                  refine Ls_run (run_move rfl) rfl ?_
                  refine Ls_on rfl rfl ?_
                  refine Ls_run (run_as (run_field Try.underlying26 rfl inf24 (by decide) rfl) (show _ = Value.pointer (some ⟨b2, 8, none⟩) from rfl)) rfl ?_
                  refine Ls_on rfl rfl ?_
                  refine Ls_run (run_load sc24 rfl (hs.blk_at 1 rfl 8 rfl)) rfl ?_
                  refine Ls_on rfl rfl ?_
                  refine Ls_run (run_len Try.underlying24 rfl) rfl ?_
                  refine Ls_on rfl rfl ?_
                  refine Ls_run (run_gtr rfl rfl) rfl ?_
                  refine Ls_on rfl rfl ?_
                  refine Ls_run (run_move rfl) rfl ?_
                  refine Ls_partP (t := 74) rfl (fun h62 => ?_) (fun h62 => ?_)
                  · skip
                    refine Ls_on rfl rfl ?_
                    refine Ls_run (run_move rfl) rfl ?_
                    refine Ls_on rfl rfl ?_
                    refine Ls_run (run_move rfl) rfl ?_
                    refine Ls_on rfl rfl ?_
                    refine Ls_run (run_eql rfl rfl) rfl ?_
                    refine Ls_on rfl rfl ?_
                    refine Ls_run (run_asB (c := false) (run_neq_bool Try.underlying4 rfl rfl) (by first | exact ne_t ((kinds_p (by assumption) (by omega) (by omega)).2 (by omega)) | exact ne_d ((kinds_p (by assumption) (by omega) (by omega)).trans ⟨fun q => by omega, fun q => by omega⟩))) rfl ?_
                    refine Ls_on rfl rfl ?_
                    refine Ls_run (run_pick_t rfl rfl) rfl ?_
                    refine Ls_run (run_pick_f rfl rfl) rfl ?_
                    refine Ls_nil ?_
                    refine Jm_join 0 ?_ ?_
                    · rw [hEn28]; exact (subE_cons rfl (subE_cons rfl (subE_cons rfl (subE_cons rfl (subE_cons rfl subE_nil)))))
                    · skip
                      rw [hIv29]
                      exact hs
                  · skip
                    refine Ls_off rfl rfl rfl rfl ?_
                    refine Ls_off rfl rfl rfl rfl ?_
                    refine Ls_off rfl rfl rfl rfl ?_
                    refine Ls_off rfl rfl rfl rfl ?_
                    refine Ls_on rfl rfl ?_
                    refine Ls_run (run_pick_f rfl rfl) rfl ?_
                    refine Ls_run (run_pick_f rfl rfl) rfl ?_
                    refine Ls_nil ?_
                    refine Jm_join 0 ?_ ?_
                    · rw [hEn28]; exact (subE_cons rfl (subE_cons rfl (subE_cons rfl (subE_cons rfl (subE_cons rfl subE_nil)))))
                    · skip
                      rw [hIv29]
                      exact hs
            · skip
              refine Ls_off rfl rfl rfl rfl ?_
              refine Ls_off rfl rfl rfl rfl ?_
              refine Ls_off rfl rfl rfl rfl ?_
              refine Ls_off rfl rfl rfl rfl ?_
              refine Ls_off' rfl rfl rfl ?_
              refine Ls_off' rfl rfl rfl ?_
              refine Ls_off rfl rfl rfl rfl ?_
              refine Ls_off rfl rfl rfl rfl ?_
              refine Ls_on rfl rfl ?_
              refine Ls_run (run_pick_f rfl rfl) rfl ?_
              refine Ls_run (run_pick_f rfl rfl) rfl ?_
              refine Ls_run (run_move rfl) rfl ?_
              refine Ls_on rfl rfl ?_
              refine Ls_run (run_as (run_field Try.underlying26 rfl inf23 (by decide) rfl) (show _ = Value.pointer (some ⟨b2, 7, none⟩) from rfl)) rfl ?_
              refine Ls_on rfl rfl ?_
              refine Ls_run (run_load sc23 rfl (hs.blk_at 1 rfl 7 rfl)) rfl ?_
              refine Ls_on rfl rfl ?_
              refine Ls_run (run_len Try.underlying23 rfl) rfl ?_
              refine Ls_on rfl rfl ?_
              refine Ls_run (run_gtr rfl rfl) rfl ?_
              refine Ls_on rfl rfl ?_
              refine Ls_run (run_move rfl) rfl ?_
              refine Ls_partP (t := 62) rfl (fun h63 => ?_) (fun h63 => ?_)
              · skip
                refine Ls_on rfl rfl ?_
                refine Ls_run (run_move rfl) rfl ?_
                refine Ls_on rfl rfl ?_
                refine Ls_run (run_move rfl) rfl ?_
                refine Ls_on rfl rfl ?_
                refine Ls_run (run_eql rfl rfl) rfl ?_
                refine Ls_on rfl rfl ?_
                refine Ls_run (run_asB (c := false) (run_neq_bool Try.underlying4 rfl rfl) (by first | exact ne_t ((kinds_k (by assumption) (by omega) (by omega)).2 (by omega)) | exact ne_d ((kinds_k (by assumption) (by omega) (by omega)).trans ⟨fun q => by omega, fun q => by omega⟩))) rfl ?_
                refine Ls_on rfl rfl ?_
                refine Ls_run (run_pick_t rfl rfl) rfl ?_
                refine Ls_run (run_pick_f rfl rfl) rfl ?_
                refine Ls_run (run_move rfl) rfl ?_
                refine Ls_on rfl rfl ?_
                refine Ls_run (run_as (run_field Try.underlying26 rfl inf24 (by decide) rfl) (show _ = Value.pointer (some ⟨b2, 8, none⟩) from rfl)) rfl ?_
                refine Ls_on rfl rfl ?_
                refine Ls_run (run_load sc24 rfl (hs.blk_at 1 rfl 8 rfl)) rfl ?_
                refine Ls_on rfl rfl ?_
                refine Ls_run (run_len Try.underlying24 rfl) rfl ?_
                refine Ls_on rfl rfl ?_
                refine Ls_run (run_gtr rfl rfl) rfl ?_
                refine Ls_on rfl rfl ?_
                refine Ls_run (run_move rfl) rfl ?_
                refine Ls_partP (t := 74) rfl (fun h64 => ?_) (fun h64 => ?_)
                · skip
                  refine Ls_on rfl rfl ?_
                  refine Ls_run (run_move rfl) rfl ?_
                  refine Ls_on rfl rfl ?_
                  refine Ls_run (run_move rfl) rfl ?_
                  refine Ls_on rfl rfl ?_
                  refine Ls_run (run_eql rfl rfl) rfl ?_
                  refine Ls_on rfl rfl ?_
                  refine Ls_run (run_asB (c := false) (run_neq_bool Try.underlying4 rfl rfl) (by first | exact ne_t ((kinds_p (by assumption) (by omega) (by omega)).2 (by omega)) | exact ne_d ((kinds_p (by assumption) (by omega) (by omega)).trans ⟨fun q => by omega, fun q => by omega⟩))) rfl ?_
                  refine Ls_on rfl rfl ?_
                  refine Ls_run (run_pick_t rfl rfl) rfl ?_
                  refine Ls_run (run_pick_f rfl rfl) rfl ?_
                  refine Ls_nil ?_
                  refine Jm_join 0 ?_ ?_
                  · rw [hEn28]; exact (subE_cons rfl (subE_cons rfl (subE_cons rfl (subE_cons rfl (subE_cons rfl subE_nil)))))
                  · skip
                    rw [hIv29]
                    exact hs
                · skip
                  refine Ls_off rfl rfl rfl rfl ?_
                  refine Ls_off rfl rfl rfl rfl ?_
                  refine Ls_off rfl rfl rfl rfl ?_
                  refine Ls_off rfl rfl rfl rfl ?_
                  refine Ls_on rfl rfl ?_
                  refine Ls_run (run_pick_f rfl rfl) rfl ?_
                  refine Ls_run (run_pick_f rfl rfl) rfl ?_
                  refine Ls_nil ?_
                  refine Jm_join 0 ?_ ?_
                  · rw [hEn28]; exact (subE_cons rfl (subE_cons rfl (subE_cons rfl (subE_cons rfl (subE_cons rfl subE_nil)))))
                  · skip
                    rw [hIv29]
                    exact hs
              · skip
                refine Ls_off rfl rfl rfl rfl ?_
                refine Ls_off rfl rfl rfl rfl ?_
                refine Ls_off rfl rfl rfl rfl ?_
                refine Ls_off rfl rfl rfl rfl ?_
                refine Ls_on rfl rfl ?_
                refine Ls_run (run_pick_f rfl rfl) rfl ?_
                refine Ls_run (run_pick_f rfl rfl) rfl ?_
                refine Ls_run (run_move rfl) rfl ?_
                refine Ls_on rfl rfl ?_
                refine Ls_run (run_as (run_field Try.underlying26 rfl inf24 (by decide) rfl) (show _ = Value.pointer (some ⟨b2, 8, none⟩) from rfl)) rfl ?_
                refine Ls_on rfl rfl ?_
                refine Ls_run (run_load sc24 rfl (hs.blk_at 1 rfl 8 rfl)) rfl ?_
                refine Ls_on rfl rfl ?_
                refine Ls_run (run_len Try.underlying24 rfl) rfl ?_
                refine Ls_on rfl rfl ?_
                refine Ls_run (run_gtr rfl rfl) rfl ?_
                refine Ls_on rfl rfl ?_
                refine Ls_run (run_move rfl) rfl ?_
                refine Ls_partP (t := 74) rfl (fun h65 => ?_) (fun h65 => ?_)
                · skip
                  refine Ls_on rfl rfl ?_
                  refine Ls_run (run_move rfl) rfl ?_
                  refine Ls_on rfl rfl ?_
                  refine Ls_run (run_move rfl) rfl ?_
                  refine Ls_on rfl rfl ?_
                  refine Ls_run (run_eql rfl rfl) rfl ?_
                  refine Ls_on rfl rfl ?_
                  refine Ls_run (run_asB (c := false) (run_neq_bool Try.underlying4 rfl rfl) (by first | exact ne_t ((kinds_p (by assumption) (by omega) (by omega)).2 (by omega)) | exact ne_d ((kinds_p (by assumption) (by omega) (by omega)).trans ⟨fun q => by omega, fun q => by omega⟩))) rfl ?_
                  refine Ls_on rfl rfl ?_
                  refine Ls_run (run_pick_t rfl rfl) rfl ?_
                  refine Ls_run (run_pick_f rfl rfl) rfl ?_
                  refine Ls_nil ?_
                  refine Jm_join 0 ?_ ?_
                  · rw [hEn28]; exact (subE_cons rfl (subE_cons rfl (subE_cons rfl (subE_cons rfl (subE_cons rfl subE_nil)))))
                  · skip
                    rw [hIv29]
                    exact hs
                · skip
                  refine Ls_off rfl rfl rfl rfl ?_
                  refine Ls_off rfl rfl rfl rfl ?_
                  refine Ls_off rfl rfl rfl rfl ?_
                  refine Ls_off rfl rfl rfl rfl ?_
                  refine Ls_on rfl rfl ?_
                  refine Ls_run (run_pick_f rfl rfl) rfl ?_
                  refine Ls_run (run_pick_f rfl rfl) rfl ?_
                  refine Ls_nil ?_
                  refine Jm_join 0 ?_ ?_
                  · rw [hEn28]; exact (subE_cons rfl (subE_cons rfl (subE_cons rfl (subE_cons rfl (subE_cons rfl subE_nil)))))
                  · skip
                    rw [hIv29]
                    exact hs
        · skip
          rintro z w30 hI66
          rw [hIv29] at hI66
          replace hs := hI66
          refine Jm_eqE (hEn28 _) ?_
          refine Jm_seq ?_
          refine St_iff rfl ?_
          refine St_skip ?_
          refine Jm_seq ?_
          refine St_seq ?_
          refine St_seq ?_
          refine St_region ?_
          refine Ls_run (run_as (run_field Try.underlying26 rfl inf22 (by decide) rfl) (show _ = Value.pointer (some ⟨b2, 6, none⟩) from rfl)) rfl ?_
          refine Ls_run (run_load sc22 rfl (hs.blk_at 1 rfl 6 rfl)) rfl ?_
          refine Ls_run (run_len Try.underlying22 rfl) rfl ?_
          refine Ls_run (run_gtr rfl rfl) rfl ?_
          refine Ls_nil ?_
          refine Jm_seq ?_
          refine St_ifP rfl (fun h68 => ?_) (fun h68 => ?_)
          · skip
            refine St_seq ?_
            refine St_region ?_
            refine Ls_run (run_as (run_load_agg agg26 inf26 rfl rfl (hs.blk_cells 1 rfl 0 9)) (show _ = Value.agg #[.int .i64 x.k, .int .i64 x.f, .int .i64 x.t, .int .i64 x.b, .int .i64 x.a, .int .i64 x.c, .slice p.eA p.en p.ec, .slice p.kA p.kn p.kc, .slice p.pA p.pn p.pc] from rfl)) rfl ?_
            refine Ls_storeAgg hs inf26 rfl rfl rfl rfl (by simp [Value.oneCell']) ?_
            intro w69 hs
            refine Ls_nil ?_
            refine Jm_seq ?_
            refine St_seq ?_
            refine St_region ?_
            refine Ls_run (run_as (run_field Try.underlying26 rfl inf3 (by decide) rfl) (show _ = Value.pointer (some ⟨b13, 5, none⟩) from rfl)) rfl ?_
            refine Ls_store hs inf3 rfl rfl rfl rfl ?_
            intro w70 hs
            try simp only [List.set_cons_zero, List.set_cons_succ] at hs
            refine Ls_nil ?_
            refine Jm_seq ?_
            refine St_seq ?_
            refine St_seq ?_
            refine St_region ?_
            refine Ls_run (run_as (run_load_agg agg26 inf26 rfl rfl (hs.blk_cells 0 rfl 0 9)) (show _ = Value.agg #[.int .i64 ({ x with c := 1 } : MC).k, .int .i64 ({ x with c := 1 } : MC).f, .int .i64 ({ x with c := 1 } : MC).t, .int .i64 ({ x with c := 1 } : MC).b, .int .i64 ({ x with c := 1 } : MC).a, .int .i64 ({ x with c := 1 } : MC).c, .slice p.eA p.en p.ec, .slice p.kA p.kn p.kc, .slice p.pA p.pn p.pc] from rfl)) rfl ?_
            refine Ls_call Try.func18 nm18 rfl rfl (Sound_c w70 { x with c := 1 } p ⟨(hm.inB hs).e, (hm.inB hs).k, (hm.inB hs).p⟩ hze hzk hzp) rfl ?_
            rintro v71 w72 ⟨rfl, hsQ73⟩
            replace hs := hs.trans hsQ73
            simp only [List.nil_append, List.cons_append] at hs
            rw [decide_eq_false (kinds_1 hso (by omega))]
            refine Ls_nil ?_
            refine Jm_seq ?_
            refine St_iff rfl ?_
            refine St_skip ?_
            refine Jm_seq ?_
            refine St_seq ?_
            refine St_region ?_
            refine Ls_run (run_as (run_load_agg agg26 inf26 rfl rfl (hs.blk_cells 1 rfl 0 9)) (show _ = Value.agg #[.int .i64 x.k, .int .i64 x.f, .int .i64 x.t, .int .i64 x.b, .int .i64 x.a, .int .i64 x.c, .slice p.eA p.en p.ec, .slice p.kA p.kn p.kc, .slice p.pA p.pn p.pc] from rfl)) rfl ?_
            refine Ls_storeAgg hs inf26 rfl rfl rfl rfl (by simp [Value.oneCell']) ?_
            intro w75 hs
            refine Ls_nil ?_
            refine Jm_seq ?_
            refine St_seq ?_
            refine St_region ?_
            refine Ls_run (run_as (run_field Try.underlying26 rfl inf22 (by decide) rfl) (show _ = Value.pointer (some ⟨b13, 6, none⟩) from rfl)) rfl ?_
            refine Ls_store hs inf22 rfl rfl rfl rfl ?_
            intro w76 hs
            try simp only [List.set_cons_zero, List.set_cons_succ] at hs
            refine Ls_nil ?_
            refine Jm_seq ?_
            refine St_seq ?_
            refine St_region ?_
            refine Ls_run (run_as (run_load_agg agg26 inf26 rfl rfl (hs.blk_cells 0 rfl 0 9)) (show _ = Value.agg #[.int .i64 ({ x with es := [] } : MC).k, .int .i64 ({ x with es := [] } : MC).f, .int .i64 ({ x with es := [] } : MC).t, .int .i64 ({ x with es := [] } : MC).b, .int .i64 ({ x with es := [] } : MC).a, .int .i64 ({ x with es := [] } : MC).c, .slice (⟨none, 0, 0, p.kA, p.kn, p.kc, p.pA, p.pn, p.pc⟩ : MP).eA (⟨none, 0, 0, p.kA, p.kn, p.kc, p.pA, p.pn, p.pc⟩ : MP).en (⟨none, 0, 0, p.kA, p.kn, p.kc, p.pA, p.pn, p.pc⟩ : MP).ec, .slice (⟨none, 0, 0, p.kA, p.kn, p.kc, p.pA, p.pn, p.pc⟩ : MP).kA (⟨none, 0, 0, p.kA, p.kn, p.kc, p.pA, p.pn, p.pc⟩ : MP).kn (⟨none, 0, 0, p.kA, p.kn, p.kc, p.pA, p.pn, p.pc⟩ : MP).kc, .slice (⟨none, 0, 0, p.kA, p.kn, p.kc, p.pA, p.pn, p.pc⟩ : MP).pA (⟨none, 0, 0, p.kA, p.kn, p.kc, p.pA, p.pn, p.pc⟩ : MP).pn (⟨none, 0, 0, p.kA, p.kn, p.kc, p.pA, p.pn, p.pc⟩ : MP).pc] from rfl)) rfl ?_
            refine Ls_call Try.func18 nm18 rfl rfl (Sound_c w76 { x with es := [] } ⟨none, 0, 0, p.kA, p.kn, p.kc, p.pA, p.pn, p.pc⟩ ⟨Rd.none _ 1, (hm.inB hs).k, (hm.inB hs).p⟩ (by simp) hzk hzp) rfl ?_
            rintro v77 w78 ⟨rfl, hsQ79⟩
            replace hs := hs.trans hsQ79
            simp only [List.nil_append, List.cons_append] at hs
            rw [decide_eq_false (kinds_0 hso (by omega))]
            refine Ls_nil ?_
            refine Jm_seq ?_
            refine St_iff rfl ?_
            refine St_skip ?_
            refine Jm_seq ?_
            refine St_seq ?_
            refine St_region ?_
            refine Ls_run (run_as (run_load_agg agg26 inf26 rfl rfl (hs.blk_cells 1 rfl 0 9)) (show _ = Value.agg #[.int .i64 x.k, .int .i64 x.f, .int .i64 x.t, .int .i64 x.b, .int .i64 x.a, .int .i64 x.c, .slice p.eA p.en p.ec, .slice p.kA p.kn p.kc, .slice p.pA p.pn p.pc] from rfl)) rfl ?_
            refine Ls_storeAgg hs inf26 rfl rfl rfl rfl (by simp [Value.oneCell']) ?_
            intro w81 hs
            refine Ls_nil ?_
            refine Jm_seq ?_
            refine St_seq ?_
            refine St_region ?_
            refine Ls_run (run_move rfl) rfl ?_
            refine Ls_run (run_as (run_field Try.underlying26 rfl inf3 (by decide) rfl) (show _ = Value.pointer (some ⟨b13, 1, none⟩) from rfl)) rfl ?_
            refine Ls_store hs inf3 rfl rfl rfl rfl ?_
            intro w82 hs
            try simp only [List.set_cons_zero, List.set_cons_succ] at hs
            refine Ls_nil ?_
            refine Jm_seq ?_
            refine St_seq ?_
            refine St_seq ?_
            refine St_region ?_
            refine Ls_run (run_as (run_load_agg agg26 inf26 rfl rfl (hs.blk_cells 0 rfl 0 9)) (show _ = Value.agg #[.int .i64 ({ x with f := bv } : MC).k, .int .i64 ({ x with f := bv } : MC).f, .int .i64 ({ x with f := bv } : MC).t, .int .i64 ({ x with f := bv } : MC).b, .int .i64 ({ x with f := bv } : MC).a, .int .i64 ({ x with f := bv } : MC).c, .slice p.eA p.en p.ec, .slice p.kA p.kn p.kc, .slice p.pA p.pn p.pc] from rfl)) rfl ?_
            refine Ls_call Try.func18 nm18 rfl rfl (Sound_c w82 { x with f := bv } p ⟨(hm.inB hs).e, (hm.inB hs).k, (hm.inB hs).p⟩ hze hzk hzp) rfl ?_
            rintro v83 w84 ⟨rfl, hsQ85⟩
            replace hs := hs.trans hsQ85
            simp only [List.nil_append, List.cons_append] at hs
            refine Ls_run (run_move rfl) rfl ?_
            refine Ls_run (run_geq rfl rfl) rfl ?_
            refine Ls_run (run_move rfl) rfl ?_
            refine Ls_partP (t := 100) rfl (fun h86 => ?_) (fun h86 => ?_)
            · skip
              refine Ls_on rfl rfl ?_
              refine Ls_run (run_move rfl) rfl ?_
              refine Ls_on rfl rfl ?_
              refine Ls_run (run_lss rfl rfl) rfl ?_
              refine Ls_run (run_pick_t rfl rfl) rfl ?_
              refine Ls_run (run_asB (c := false) (run_neq_bool Try.underlying4 rfl rfl) (by first | exact ne_f (fun q => by have := (kinds_f hso).1 q; omega) | exact ne_d ((kinds_f hso).trans ⟨fun q => by omega, fun q => by omega⟩))) rfl ?_
              refine Ls_nil ?_
              refine Jm_seq ?_
              refine St_iff rfl ?_
              refine St_skip ?_
              refine Jm_seq ?_
              refine St_seq ?_
              refine St_region ?_
              refine Ls_run (run_as (run_load_agg agg26 inf26 rfl rfl (hs.blk_cells 1 rfl 0 9)) (show _ = Value.agg #[.int .i64 x.k, .int .i64 x.f, .int .i64 x.t, .int .i64 x.b, .int .i64 x.a, .int .i64 x.c, .slice p.eA p.en p.ec, .slice p.kA p.kn p.kc, .slice p.pA p.pn p.pc] from rfl)) rfl ?_
              refine Ls_storeAgg hs inf26 rfl rfl rfl rfl (by simp [Value.oneCell']) ?_
              intro w88 hs
              refine Ls_nil ?_
              refine Jm_seq ?_
              refine St_seq ?_
              refine St_region ?_
              refine Ls_run (run_move rfl) rfl ?_
              refine Ls_run (run_as (run_field Try.underlying26 rfl inf3 (by decide) rfl) (show _ = Value.pointer (some ⟨b13, 2, none⟩) from rfl)) rfl ?_
              refine Ls_store hs inf3 rfl rfl rfl rfl ?_
              intro w89 hs
              try simp only [List.set_cons_zero, List.set_cons_succ] at hs
              refine Ls_nil ?_
              refine Jm_seq ?_
              refine St_seq ?_
              refine St_seq ?_
              refine St_region ?_
              refine Ls_run (run_as (run_load_agg agg26 inf26 rfl rfl (hs.blk_cells 0 rfl 0 9)) (show _ = Value.agg #[.int .i64 ({ x with t := bv } : MC).k, .int .i64 ({ x with t := bv } : MC).f, .int .i64 ({ x with t := bv } : MC).t, .int .i64 ({ x with t := bv } : MC).b, .int .i64 ({ x with t := bv } : MC).a, .int .i64 ({ x with t := bv } : MC).c, .slice p.eA p.en p.ec, .slice p.kA p.kn p.kc, .slice p.pA p.pn p.pc] from rfl)) rfl ?_
              refine Ls_call Try.func18 nm18 rfl rfl (Sound_c w89 { x with t := bv } p ⟨(hm.inB hs).e, (hm.inB hs).k, (hm.inB hs).p⟩ hze hzk hzp) rfl ?_
              rintro v90 w91 ⟨rfl, hsQ92⟩
              replace hs := hs.trans hsQ92
              simp only [List.nil_append, List.cons_append] at hs
              refine Ls_run (run_move rfl) rfl ?_
              refine Ls_run (run_geq rfl rfl) rfl ?_
              refine Ls_run (run_move rfl) rfl ?_
              refine Ls_partP (t := 112) rfl (fun h93 => ?_) (fun h93 => ?_)
              · skip
                refine Ls_on rfl rfl ?_
                refine Ls_run (run_move rfl) rfl ?_
                refine Ls_on rfl rfl ?_
                refine Ls_run (run_lss rfl rfl) rfl ?_
                refine Ls_run (run_pick_t rfl rfl) rfl ?_
                refine Ls_run (run_asB (c := false) (run_neq_bool Try.underlying4 rfl rfl) (by first | exact ne_f (fun q => by have := (kinds_t hso).1 q; omega) | exact ne_d ((kinds_t hso).trans ⟨fun q => by omega, fun q => by omega⟩))) rfl ?_
                refine Ls_nil ?_
                refine Jm_seq ?_
                refine St_iff rfl ?_
                refine St_skip ?_
                refine Jm_seq ?_
                refine St_seq ?_
                refine St_region ?_
                refine Ls_run (run_as (run_load_agg agg26 inf26 rfl rfl (hs.blk_cells 1 rfl 0 9)) (show _ = Value.agg #[.int .i64 x.k, .int .i64 x.f, .int .i64 x.t, .int .i64 x.b, .int .i64 x.a, .int .i64 x.c, .slice p.eA p.en p.ec, .slice p.kA p.kn p.kc, .slice p.pA p.pn p.pc] from rfl)) rfl ?_
                refine Ls_storeAgg hs inf26 rfl rfl rfl rfl (by simp [Value.oneCell']) ?_
                intro w95 hs
                refine Ls_nil ?_
                refine Jm_seq ?_
                refine St_seq ?_
                refine St_region ?_
                refine Ls_run (run_move rfl) rfl ?_
                refine Ls_run (run_as (run_field Try.underlying26 rfl inf3 (by decide) rfl) (show _ = Value.pointer (some ⟨b13, 4, none⟩) from rfl)) rfl ?_
                refine Ls_store hs inf3 rfl rfl rfl rfl ?_
                intro w96 hs
                try simp only [List.set_cons_zero, List.set_cons_succ] at hs
                refine Ls_nil ?_
                refine Jm_seq ?_
                refine St_seq ?_
                refine St_seq ?_
                refine St_region ?_
                refine Ls_run (run_as (run_load_agg agg26 inf26 rfl rfl (hs.blk_cells 0 rfl 0 9)) (show _ = Value.agg #[.int .i64 ({ x with a := bv } : MC).k, .int .i64 ({ x with a := bv } : MC).f, .int .i64 ({ x with a := bv } : MC).t, .int .i64 ({ x with a := bv } : MC).b, .int .i64 ({ x with a := bv } : MC).a, .int .i64 ({ x with a := bv } : MC).c, .slice p.eA p.en p.ec, .slice p.kA p.kn p.kc, .slice p.pA p.pn p.pc] from rfl)) rfl ?_
                refine Ls_call Try.func18 nm18 rfl rfl (Sound_c w96 { x with a := bv } p ⟨(hm.inB hs).e, (hm.inB hs).k, (hm.inB hs).p⟩ hze hzk hzp) rfl ?_
                rintro v97 w98 ⟨rfl, hsQ99⟩
                replace hs := hs.trans hsQ99
                simp only [List.nil_append, List.cons_append] at hs
                refine Ls_run (run_move rfl) rfl ?_
                refine Ls_run (run_geq rfl rfl) rfl ?_
                refine Ls_run (run_move rfl) rfl ?_
                refine Ls_partP (t := 124) rfl (fun h100 => ?_) (fun h100 => ?_)
                · skip
                  refine Ls_on rfl rfl ?_
                  refine Ls_run (run_move rfl) rfl ?_
                  refine Ls_on rfl rfl ?_
                  refine Ls_run (run_leq rfl rfl) rfl ?_
                  refine Ls_run (run_pick_t rfl rfl) rfl ?_
                  refine Ls_run (run_asB (c := false) (run_neq_bool Try.underlying4 rfl rfl) (by first | exact ne_f (fun q => by have := (kinds_a hso).1 q; omega) | exact ne_d ((kinds_a hso).trans ⟨fun q => by omega, fun q => by omega⟩))) rfl ?_
                  refine Ls_nil ?_
                  refine Jm_seq ?_
                  refine St_iff rfl ?_
                  refine St_skip ?_
                  refine Jm_seq ?_
                  refine St_seq ?_
                  refine St_region ?_
                  refine Ls_run (run_as (run_load_agg agg26 inf26 rfl rfl (hs.blk_cells 1 rfl 0 9)) (show _ = Value.agg #[.int .i64 x.k, .int .i64 x.f, .int .i64 x.t, .int .i64 x.b, .int .i64 x.a, .int .i64 x.c, .slice p.eA p.en p.ec, .slice p.kA p.kn p.kc, .slice p.pA p.pn p.pc] from rfl)) rfl ?_
                  refine Ls_storeAgg hs inf26 rfl rfl rfl rfl (by simp [Value.oneCell']) ?_
                  intro w102 hs
                  refine Ls_nil ?_
                  refine Jm_seq ?_
                  refine St_seq ?_
                  refine St_region ?_
                  refine Ls_run (run_move rfl) rfl ?_
                  refine Ls_run (run_as (run_field Try.underlying26 rfl inf3 (by decide) rfl) (show _ = Value.pointer (some ⟨b13, 3, none⟩) from rfl)) rfl ?_
                  refine Ls_store hs inf3 rfl rfl rfl rfl ?_
                  intro w103 hs
                  try simp only [List.set_cons_zero, List.set_cons_succ] at hs
                  refine Ls_nil ?_
                  refine Jm_seq ?_
                  refine St_seq ?_
                  refine St_region ?_
                  refine Ls_run (run_as (run_load_agg agg26 inf26 rfl rfl (hs.blk_cells 0 rfl 0 9)) (show _ = Value.agg #[.int .i64 ({ x with b := bv } : MC).k, .int .i64 ({ x with b := bv } : MC).f, .int .i64 ({ x with b := bv } : MC).t, .int .i64 ({ x with b := bv } : MC).b, .int .i64 ({ x with b := bv } : MC).a, .int .i64 ({ x with b := bv } : MC).c, .slice p.eA p.en p.ec, .slice p.kA p.kn p.kc, .slice p.pA p.pn p.pc] from rfl)) rfl ?_
                  refine Ls_call Try.func18 nm18 rfl rfl (Sound_c w103 { x with b := bv } p ⟨(hm.inB hs).e, (hm.inB hs).k, (hm.inB hs).p⟩ hze hzk hzp) rfl ?_
                  rintro v104 w105 ⟨rfl, hsQ106⟩
                  replace hs := hs.trans hsQ106
                  simp only [List.nil_append, List.cons_append] at hs
                  refine Ls_run (run_move rfl) rfl ?_
                  refine Ls_run (run_geq rfl rfl) rfl ?_
                  refine Ls_run (run_move rfl) rfl ?_
                  refine Ls_partP (t := 136) rfl (fun h107 => ?_) (fun h107 => ?_)
                  · skip
                    refine Ls_on rfl rfl ?_
                    refine Ls_run (run_move rfl) rfl ?_
                    refine Ls_on rfl rfl ?_
                    refine Ls_run (run_leq rfl rfl) rfl ?_
                    refine Ls_run (run_pick_t rfl rfl) rfl ?_
                    refine Ls_run (run_asB (c := true) (run_eql_bool Try.underlying4 rfl rfl) (by first | exact eq_f (fun q => by have := (kinds_b hso).1 q; omega) | exact eq_d ((kinds_b hso).trans ⟨fun q => by omega, fun q => by omega⟩))) rfl ?_
                    refine Ls_run (run_assign rfl) rfl ?_
                    refine Ls_nil ?_
                    refine Jm_seq ?_
                    refine St_ret ?_
                    refine Jm_ret1 rfl rfl ?_
                    exact ⟨_, rfl, rfl, hs.below⟩
                  · skip
                    refine Ls_off rfl rfl rfl rfl ?_
                    refine Ls_off rfl rfl rfl rfl ?_
                    refine Ls_run (run_pick_f rfl rfl) rfl ?_
                    refine Ls_run (run_asB (c := true) (run_eql_bool Try.underlying4 rfl rfl) (by first | exact eq_f (fun q => by have := (kinds_b hso).1 q; omega) | exact eq_d ((kinds_b hso).trans ⟨fun q => by omega, fun q => by omega⟩))) rfl ?_
                    refine Ls_run (run_assign rfl) rfl ?_
                    refine Ls_nil ?_
                    refine Jm_seq ?_
                    refine St_ret ?_
                    refine Jm_ret1 rfl rfl ?_
                    exact ⟨_, rfl, rfl, hs.below⟩
                · skip
                  refine Ls_off rfl rfl rfl rfl ?_
                  refine Ls_off rfl rfl rfl rfl ?_
                  refine Ls_run (run_pick_f rfl rfl) rfl ?_
                  refine Ls_run (run_asB (c := false) (run_neq_bool Try.underlying4 rfl rfl) (by first | exact ne_f (fun q => by have := (kinds_a hso).1 q; omega) | exact ne_d ((kinds_a hso).trans ⟨fun q => by omega, fun q => by omega⟩))) rfl ?_
                  refine Ls_nil ?_
                  refine Jm_seq ?_
                  refine St_iff rfl ?_
                  refine St_skip ?_
                  refine Jm_seq ?_
                  refine St_seq ?_
                  refine St_region ?_
                  refine Ls_run (run_as (run_load_agg agg26 inf26 rfl rfl (hs.blk_cells 1 rfl 0 9)) (show _ = Value.agg #[.int .i64 x.k, .int .i64 x.f, .int .i64 x.t, .int .i64 x.b, .int .i64 x.a, .int .i64 x.c, .slice p.eA p.en p.ec, .slice p.kA p.kn p.kc, .slice p.pA p.pn p.pc] from rfl)) rfl ?_
                  refine Ls_storeAgg hs inf26 rfl rfl rfl rfl (by simp [Value.oneCell']) ?_
                  intro w109 hs
                  refine Ls_nil ?_
                  refine Jm_seq ?_
                  refine St_seq ?_
                  refine St_region ?_
                  refine Ls_run (run_move rfl) rfl ?_
                  refine Ls_run (run_as (run_field Try.underlying26 rfl inf3 (by decide) rfl) (show _ = Value.pointer (some ⟨b13, 3, none⟩) from rfl)) rfl ?_
                  refine Ls_store hs inf3 rfl rfl rfl rfl ?_
                  intro w110 hs
                  try simp only [List.set_cons_zero, List.set_cons_succ] at hs
                  refine Ls_nil ?_
                  refine Jm_seq ?_
                  refine St_seq ?_
                  refine St_region ?_
                  refine Ls_run (run_as (run_load_agg agg26 inf26 rfl rfl (hs.blk_cells 0 rfl 0 9)) (show _ = Value.agg #[.int .i64 ({ x with b := bv } : MC).k, .int .i64 ({ x with b := bv } : MC).f, .int .i64 ({ x with b := bv } : MC).t, .int .i64 ({ x with b := bv } : MC).b, .int .i64 ({ x with b := bv } : MC).a, .int .i64 ({ x with b := bv } : MC).c, .slice p.eA p.en p.ec, .slice p.kA p.kn p.kc, .slice p.pA p.pn p.pc] from rfl)) rfl ?_
                  refine Ls_call Try.func18 nm18 rfl rfl (Sound_c w110 { x with b := bv } p ⟨(hm.inB hs).e, (hm.inB hs).k, (hm.inB hs).p⟩ hze hzk hzp) rfl ?_
                  rintro v111 w112 ⟨rfl, hsQ113⟩
                  replace hs := hs.trans hsQ113
                  simp only [List.nil_append, List.cons_append] at hs
                  refine Ls_run (run_move rfl) rfl ?_
                  refine Ls_run (run_geq rfl rfl) rfl ?_
                  refine Ls_run (run_move rfl) rfl ?_
                  refine Ls_partP (t := 136) rfl (fun h114 => ?_) (fun h114 => ?_)
                  · skip
                    refine Ls_on rfl rfl ?_
                    refine Ls_run (run_move rfl) rfl ?_
                    refine Ls_on rfl rfl ?_
                    refine Ls_run (run_leq rfl rfl) rfl ?_
                    refine Ls_run (run_pick_t rfl rfl) rfl ?_
                    refine Ls_run (run_asB (c := true) (run_eql_bool Try.underlying4 rfl rfl) (by first | exact eq_f (fun q => by have := (kinds_b hso).1 q; omega) | exact eq_d ((kinds_b hso).trans ⟨fun q => by omega, fun q => by omega⟩))) rfl ?_
                    refine Ls_run (run_assign rfl) rfl ?_
                    refine Ls_nil ?_
                    refine Jm_seq ?_
                    refine St_ret ?_
                    refine Jm_ret1 rfl rfl ?_
                    exact ⟨_, rfl, rfl, hs.below⟩
                  · skip
                    refine Ls_off rfl rfl rfl rfl ?_
                    refine Ls_off rfl rfl rfl rfl ?_
                    refine Ls_run (run_pick_f rfl rfl) rfl ?_
                    refine Ls_run (run_asB (c := true) (run_eql_bool Try.underlying4 rfl rfl) (by first | exact eq_f (fun q => by have := (kinds_b hso).1 q; omega) | exact eq_d ((kinds_b hso).trans ⟨fun q => by omega, fun q => by omega⟩))) rfl ?_
                    refine Ls_run (run_assign rfl) rfl ?_
                    refine Ls_nil ?_
                    refine Jm_seq ?_
                    refine St_ret ?_
                    refine Jm_ret1 rfl rfl ?_
                    exact ⟨_, rfl, rfl, hs.below⟩
              · skip
                refine Ls_off rfl rfl rfl rfl ?_
                refine Ls_off rfl rfl rfl rfl ?_
                refine Ls_run (run_pick_f rfl rfl) rfl ?_
                refine Ls_run (run_asB (c := false) (run_neq_bool Try.underlying4 rfl rfl) (by first | exact ne_f (fun q => by have := (kinds_t hso).1 q; omega) | exact ne_d ((kinds_t hso).trans ⟨fun q => by omega, fun q => by omega⟩))) rfl ?_
                refine Ls_nil ?_
                refine Jm_seq ?_
                refine St_iff rfl ?_
                refine St_skip ?_
                refine Jm_seq ?_
                refine St_seq ?_
                refine St_region ?_
                refine Ls_run (run_as (run_load_agg agg26 inf26 rfl rfl (hs.blk_cells 1 rfl 0 9)) (show _ = Value.agg #[.int .i64 x.k, .int .i64 x.f, .int .i64 x.t, .int .i64 x.b, .int .i64 x.a, .int .i64 x.c, .slice p.eA p.en p.ec, .slice p.kA p.kn p.kc, .slice p.pA p.pn p.pc] from rfl)) rfl ?_
                refine Ls_storeAgg hs inf26 rfl rfl rfl rfl (by simp [Value.oneCell']) ?_
                intro w116 hs
                refine Ls_nil ?_
                refine Jm_seq ?_
                refine St_seq ?_
                refine St_region ?_
                refine Ls_run (run_move rfl) rfl ?_
                refine Ls_run (run_as (run_field Try.underlying26 rfl inf3 (by decide) rfl) (show _ = Value.pointer (some ⟨b13, 4, none⟩) from rfl)) rfl ?_
                refine Ls_store hs inf3 rfl rfl rfl rfl ?_
                intro w117 hs
                try simp only [List.set_cons_zero, List.set_cons_succ] at hs
                refine Ls_nil ?_
                refine Jm_seq ?_
                refine St_seq ?_
                refine St_seq ?_
                refine St_region ?_
                refine Ls_run (run_as (run_load_agg agg26 inf26 rfl rfl (hs.blk_cells 0 rfl 0 9)) (show _ = Value.agg #[.int .i64 ({ x with a := bv } : MC).k, .int .i64 ({ x with a := bv } : MC).f, .int .i64 ({ x with a := bv } : MC).t, .int .i64 ({ x with a := bv } : MC).b, .int .i64 ({ x with a := bv } : MC).a, .int .i64 ({ x with a := bv } : MC).c, .slice p.eA p.en p.ec, .slice p.kA p.kn p.kc, .slice p.pA p.pn p.pc] from rfl)) rfl ?_
                refine Ls_call Try.func18 nm18 rfl rfl (Sound_c w117 { x with a := bv } p ⟨(hm.inB hs).e, (hm.inB hs).k, (hm.inB hs).p⟩ hze hzk hzp) rfl ?_
                rintro v118 w119 ⟨rfl, hsQ120⟩
                replace hs := hs.trans hsQ120
                simp only [List.nil_append, List.cons_append] at hs
                refine Ls_run (run_move rfl) rfl ?_
                refine Ls_run (run_geq rfl rfl) rfl ?_
                refine Ls_run (run_move rfl) rfl ?_
                refine Ls_partP (t := 124) rfl (fun h121 => ?_) (fun h121 => ?_)
                · skip
                  refine Ls_on rfl rfl ?_
                  refine Ls_run (run_move rfl) rfl ?_
                  refine Ls_on rfl rfl ?_
                  refine Ls_run (run_leq rfl rfl) rfl ?_
                  refine Ls_run (run_pick_t rfl rfl) rfl ?_
                  refine Ls_run (run_asB (c := false) (run_neq_bool Try.underlying4 rfl rfl) (by first | exact ne_f (fun q => by have := (kinds_a hso).1 q; omega) | exact ne_d ((kinds_a hso).trans ⟨fun q => by omega, fun q => by omega⟩))) rfl ?_
                  refine Ls_nil ?_
                  refine Jm_seq ?_
                  refine St_iff rfl ?_
                  refine St_skip ?_
                  refine Jm_seq ?_
                  refine St_seq ?_
                  refine St_region ?_
                  refine Ls_run (run_as (run_load_agg agg26 inf26 rfl rfl (hs.blk_cells 1 rfl 0 9)) (show _ = Value.agg #[.int .i64 x.k, .int .i64 x.f, .int .i64 x.t, .int .i64 x.b, .int .i64 x.a, .int .i64 x.c, .slice p.eA p.en p.ec, .slice p.kA p.kn p.kc, .slice p.pA p.pn p.pc] from rfl)) rfl ?_
                  refine Ls_storeAgg hs inf26 rfl rfl rfl rfl (by simp [Value.oneCell']) ?_
                  intro w123 hs
                  refine Ls_nil ?_
                  refine Jm_seq ?_
                  refine St_seq ?_
                  refine St_region ?_
                  refine Ls_run (run_move rfl) rfl ?_
                  refine Ls_run (run_as (run_field Try.underlying26 rfl inf3 (by decide) rfl) (show _ = Value.pointer (some ⟨b13, 3, none⟩) from rfl)) rfl ?_
                  refine Ls_store hs inf3 rfl rfl rfl rfl ?_
                  intro w124 hs
                  try simp only [List.set_cons_zero, List.set_cons_succ] at hs
                  refine Ls_nil ?_
                  refine Jm_seq ?_
                  refine St_seq ?_
                  refine St_region ?_
                  refine Ls_run (run_as (run_load_agg agg26 inf26 rfl rfl (hs.blk_cells 0 rfl 0 9)) (show _ = Value.agg #[.int .i64 ({ x with b := bv } : MC).k, .int .i64 ({ x with b := bv } : MC).f, .int .i64 ({ x with b := bv } : MC).t, .int .i64 ({ x with b := bv } : MC).b, .int .i64 ({ x with b := bv } : MC).a, .int .i64 ({ x with b := bv } : MC).c, .slice p.eA p.en p.ec, .slice p.kA p.kn p.kc, .slice p.pA p.pn p.pc] from rfl)) rfl ?_
                  refine Ls_call Try.func18 nm18 rfl rfl (Sound_c w124 { x with b := bv } p ⟨(hm.inB hs).e, (hm.inB hs).k, (hm.inB hs).p⟩ hze hzk hzp) rfl ?_
                  rintro v125 w126 ⟨rfl, hsQ127⟩
                  replace hs := hs.trans hsQ127
                  simp only [List.nil_append, List.cons_append] at hs
                  refine Ls_run (run_move rfl) rfl ?_
                  refine Ls_run (run_geq rfl rfl) rfl ?_
                  refine Ls_run (run_move rfl) rfl ?_
                  refine Ls_partP (t := 136) rfl (fun h128 => ?_) (fun h128 => ?_)
                  · skip
                    refine Ls_on rfl rfl ?_
                    refine Ls_run (run_move rfl) rfl ?_
                    refine Ls_on rfl rfl ?_
                    refine Ls_run (run_leq rfl rfl) rfl ?_
                    refine Ls_run (run_pick_t rfl rfl) rfl ?_
                    refine Ls_run (run_asB (c := true) (run_eql_bool Try.underlying4 rfl rfl) (by first | exact eq_f (fun q => by have := (kinds_b hso).1 q; omega) | exact eq_d ((kinds_b hso).trans ⟨fun q => by omega, fun q => by omega⟩))) rfl ?_
                    refine Ls_run (run_assign rfl) rfl ?_
                    refine Ls_nil ?_
                    refine Jm_seq ?_
                    refine St_ret ?_
                    refine Jm_ret1 rfl rfl ?_
                    exact ⟨_, rfl, rfl, hs.below⟩
                  · skip
                    refine Ls_off rfl rfl rfl rfl ?_
                    refine Ls_off rfl rfl rfl rfl ?_
                    refine Ls_run (run_pick_f rfl rfl) rfl ?_
                    refine Ls_run (run_asB (c := true) (run_eql_bool Try.underlying4 rfl rfl) (by first | exact eq_f (fun q => by have := (kinds_b hso).1 q; omega) | exact eq_d ((kinds_b hso).trans ⟨fun q => by omega, fun q => by omega⟩))) rfl ?_
                    refine Ls_run (run_assign rfl) rfl ?_
                    refine Ls_nil ?_
                    refine Jm_seq ?_
                    refine St_ret ?_
                    refine Jm_ret1 rfl rfl ?_
                    exact ⟨_, rfl, rfl, hs.below⟩
                · skip
                  refine Ls_off rfl rfl rfl rfl ?_
                  refine Ls_off rfl rfl rfl rfl ?_
                  refine Ls_run (run_pick_f rfl rfl) rfl ?_
                  refine Ls_run (run_asB (c := false) (run_neq_bool Try.underlying4 rfl rfl) (by first | exact ne_f (fun q => by have := (kinds_a hso).1 q; omega) | exact ne_d ((kinds_a hso).trans ⟨fun q => by omega, fun q => by omega⟩))) rfl ?_
                  refine Ls_nil ?_
                  refine Jm_seq ?_
                  refine St_iff rfl ?_
                  refine St_skip ?_
                  refine Jm_seq ?_
                  refine St_seq ?_
                  refine St_region ?_
                  refine Ls_run (run_as (run_load_agg agg26 inf26 rfl rfl (hs.blk_cells 1 rfl 0 9)) (show _ = Value.agg #[.int .i64 x.k, .int .i64 x.f, .int .i64 x.t, .int .i64 x.b, .int .i64 x.a, .int .i64 x.c, .slice p.eA p.en p.ec, .slice p.kA p.kn p.kc, .slice p.pA p.pn p.pc] from rfl)) rfl ?_
                  refine Ls_storeAgg hs inf26 rfl rfl rfl rfl (by simp [Value.oneCell']) ?_
                  intro w130 hs
                  refine Ls_nil ?_
                  refine Jm_seq ?_
                  refine St_seq ?_
                  refine St_region ?_
                  refine Ls_run (run_move rfl) rfl ?_
                  refine Ls_run (run_as (run_field Try.underlying26 rfl inf3 (by decide) rfl) (show _ = Value.pointer (some ⟨b13, 3, none⟩) from rfl)) rfl ?_
                  refine Ls_store hs inf3 rfl rfl rfl rfl ?_
                  intro w131 hs
                  try simp only [List.set_cons_zero, List.set_cons_succ] at hs
                  refine Ls_nil ?_
                  refine Jm_seq ?_
                  refine St_seq ?_
                  refine St_region ?_
                  refine Ls_run (run_as (run_load_agg agg26 inf26 rfl rfl (hs.blk_cells 0 rfl 0 9)) (show _ = Value.agg #[.int .i64 ({ x with b := bv } : MC).k, .int .i64 ({ x with b := bv } : MC).f, .int .i64 ({ x with b := bv } : MC).t, .int .i64 ({ x with b := bv } : MC).b, .int .i64 ({ x with b := bv } : MC).a, .int .i64 ({ x with b := bv } : MC).c, .slice p.eA p.en p.ec, .slice p.kA p.kn p.kc, .slice p.pA p.pn p.pc] from rfl)) rfl ?_
                  refine Ls_call Try.func18 nm18 rfl rfl (Sound_c w131 { x with b := bv } p ⟨(hm.inB hs).e, (hm.inB hs).k, (hm.inB hs).p⟩ hze hzk hzp) rfl ?_
                  rintro v132 w133 ⟨rfl, hsQ134⟩
                  replace hs := hs.trans hsQ134
                  simp only [List.nil_append, List.cons_append] at hs
                  refine Ls_run (run_move rfl) rfl ?_
                  refine Ls_run (run_geq rfl rfl) rfl ?_
                  refine Ls_run (run_move rfl) rfl ?_
                  refine Ls_partP (t := 136) rfl (fun h135 => ?_) (fun h135 => ?_)
                  · skip
                    refine Ls_on rfl rfl ?_
                    refine Ls_run (run_move rfl) rfl ?_
                    refine Ls_on rfl rfl ?_
                    refine Ls_run (run_leq rfl rfl) rfl ?_
                    refine Ls_run (run_pick_t rfl rfl) rfl ?_
                    refine Ls_run (run_asB (c := true) (run_eql_bool Try.underlying4 rfl rfl) (by first | exact eq_f (fun q => by have := (kinds_b hso).1 q; omega) | exact eq_d ((kinds_b hso).trans ⟨fun q => by omega, fun q => by omega⟩))) rfl ?_
                    refine Ls_run (run_assign rfl) rfl ?_
                    refine Ls_nil ?_
                    refine Jm_seq ?_
                    refine St_ret ?_
                    refine Jm_ret1 rfl rfl ?_
                    exact ⟨_, rfl, rfl, hs.below⟩
                  · skip
                    refine Ls_off rfl rfl rfl rfl ?_
                    refine Ls_off rfl rfl rfl rfl ?_
                    refine Ls_run (run_pick_f rfl rfl) rfl ?_
                    refine Ls_run (run_asB (c := true) (run_eql_bool Try.underlying4 rfl rfl) (by first | exact eq_f (fun q => by have := (kinds_b hso).1 q; omega) | exact eq_d ((kinds_b hso).trans ⟨fun q => by omega, fun q => by omega⟩))) rfl ?_
                    refine Ls_run (run_assign rfl) rfl ?_
                    refine Ls_nil ?_
                    refine Jm_seq ?_
                    refine St_ret ?_
                    refine Jm_ret1 rfl rfl ?_
                    exact ⟨_, rfl, rfl, hs.below⟩
            · skip
              refine Ls_off rfl rfl rfl rfl ?_
              refine Ls_off rfl rfl rfl rfl ?_
              refine Ls_run (run_pick_f rfl rfl) rfl ?_
              refine Ls_run (run_asB (c := false) (run_neq_bool Try.underlying4 rfl rfl) (by first | exact ne_f (fun q => by have := (kinds_f hso).1 q; omega) | exact ne_d ((kinds_f hso).trans ⟨fun q => by omega, fun q => by omega⟩))) rfl ?_
              refine Ls_nil ?_
              refine Jm_seq ?_
              refine St_iff rfl ?_
              refine St_skip ?_
              refine Jm_seq ?_
              refine St_seq ?_
              refine St_region ?_
              refine Ls_run (run_as (run_load_agg agg26 inf26 rfl rfl (hs.blk_cells 1 rfl 0 9)) (show _ = Value.agg #[.int .i64 x.k, .int .i64 x.f, .int .i64 x.t, .int .i64 x.b, .int .i64 x.a, .int .i64 x.c, .slice p.eA p.en p.ec, .slice p.kA p.kn p.kc, .slice p.pA p.pn p.pc] from rfl)) rfl ?_
              refine Ls_storeAgg hs inf26 rfl rfl rfl rfl (by simp [Value.oneCell']) ?_
              intro w137 hs
              refine Ls_nil ?_
              refine Jm_seq ?_
              refine St_seq ?_
              refine St_region ?_
              refine Ls_run (run_move rfl) rfl ?_
              refine Ls_run (run_as (run_field Try.underlying26 rfl inf3 (by decide) rfl) (show _ = Value.pointer (some ⟨b13, 2, none⟩) from rfl)) rfl ?_
              refine Ls_store hs inf3 rfl rfl rfl rfl ?_
              intro w138 hs
              try simp only [List.set_cons_zero, List.set_cons_succ] at hs
              refine Ls_nil ?_
              refine Jm_seq ?_
              refine St_seq ?_
              refine St_seq ?_
              refine St_region ?_
              refine Ls_run (run_as (run_load_agg agg26 inf26 rfl rfl (hs.blk_cells 0 rfl 0 9)) (show _ = Value.agg #[.int .i64 ({ x with t := bv } : MC).k, .int .i64 ({ x with t := bv } : MC).f, .int .i64 ({ x with t := bv } : MC).t, .int .i64 ({ x with t := bv } : MC).b, .int .i64 ({ x with t := bv } : MC).a, .int .i64 ({ x with t := bv } : MC).c, .slice p.eA p.en p.ec, .slice p.kA p.kn p.kc, .slice p.pA p.pn p.pc] from rfl)) rfl ?_
              refine Ls_call Try.func18 nm18 rfl rfl (Sound_c w138 { x with t := bv } p ⟨(hm.inB hs).e, (hm.inB hs).k, (hm.inB hs).p⟩ hze hzk hzp) rfl ?_
              rintro v139 w140 ⟨rfl, hsQ141⟩
              replace hs := hs.trans hsQ141
              simp only [List.nil_append, List.cons_append] at hs
              refine Ls_run (run_move rfl) rfl ?_
              refine Ls_run (run_geq rfl rfl) rfl ?_
              refine Ls_run (run_move rfl) rfl ?_
              refine Ls_partP (t := 112) rfl (fun h142 => ?_) (fun h142 => ?_)
              · skip
                refine Ls_on rfl rfl ?_
                refine Ls_run (run_move rfl) rfl ?_
                refine Ls_on rfl rfl ?_
                refine Ls_run (run_lss rfl rfl) rfl ?_
                refine Ls_run (run_pick_t rfl rfl) rfl ?_
                refine Ls_run (run_asB (c := false) (run_neq_bool Try.underlying4 rfl rfl) (by first | exact ne_f (fun q => by have := (kinds_t hso).1 q; omega) | exact ne_d ((kinds_t hso).trans ⟨fun q => by omega, fun q => by omega⟩))) rfl ?_
                refine Ls_nil ?_
                refine Jm_seq ?_
                refine St_iff rfl ?_
                refine St_skip ?_
                refine Jm_seq ?_
                refine St_seq ?_
                refine St_region ?_
                refine Ls_run (run_as (run_load_agg agg26 inf26 rfl rfl (hs.blk_cells 1 rfl 0 9)) (show _ = Value.agg #[.int .i64 x.k, .int .i64 x.f, .int .i64 x.t, .int .i64 x.b, .int .i64 x.a, .int .i64 x.c, .slice p.eA p.en p.ec, .slice p.kA p.kn p.kc, .slice p.pA p.pn p.pc] from rfl)) rfl ?_
                refine Ls_storeAgg hs inf26 rfl rfl rfl rfl (by simp [Value.oneCell']) ?_
                intro w144 hs
                refine Ls_nil ?_
                refine Jm_seq ?_
                refine St_seq ?_
                refine St_region ?_
                refine Ls_run (run_move rfl) rfl ?_
                refine Ls_run (run_as (run_field Try.underlying26 rfl inf3 (by decide) rfl) (show _ = Value.pointer (some ⟨b13, 4, none⟩) from rfl)) rfl ?_
                refine Ls_store hs inf3 rfl rfl rfl rfl ?_
                intro w145 hs
                try simp only [List.set_cons_zero, List.set_cons_succ] at hs
                refine Ls_nil ?_
                refine Jm_seq ?_
                refine St_seq ?_
                refine St_seq ?_
                refine St_region ?_
                refine Ls_run (run_as (run_load_agg agg26 inf26 rfl rfl (hs.blk_cells 0 rfl 0 9)) (show _ = Value.agg #[.int .i64 ({ x with a := bv } : MC).k, .int .i64 ({ x with a := bv } : MC).f, .int .i64 ({ x with a := bv } : MC).t, .int .i64 ({ x with a := bv } : MC).b, .int .i64 ({ x with a := bv } : MC).a, .int .i64 ({ x with a := bv } : MC).c, .slice p.eA p.en p.ec, .slice p.kA p.kn p.kc, .slice p.pA p.pn p.pc] from rfl)) rfl ?_
                refine Ls_call Try.func18 nm18 rfl rfl (Sound_c w145 { x with a := bv } p ⟨(hm.inB hs).e, (hm.inB hs).k, (hm.inB hs).p⟩ hze hzk hzp) rfl ?_
                rintro v146 w147 ⟨rfl, hsQ148⟩
                replace hs := hs.trans hsQ148
                simp only [List.nil_append, List.cons_append] at hs
                refine Ls_run (run_move rfl) rfl ?_
                refine Ls_run (run_geq rfl rfl) rfl ?_
                refine Ls_run (run_move rfl) rfl ?_
                refine Ls_partP (t := 124) rfl (fun h149 => ?_) (fun h149 => ?_)
                · skip
                  refine Ls_on rfl rfl ?_
                  refine Ls_run (run_move rfl) rfl ?_
                  refine Ls_on rfl rfl ?_
                  refine Ls_run (run_leq rfl rfl) rfl ?_
                  refine Ls_run (run_pick_t rfl rfl) rfl ?_
                  refine Ls_run (run_asB (c := false) (run_neq_bool Try.underlying4 rfl rfl) (by first | exact ne_f (fun q => by have := (kinds_a hso).1 q; omega) | exact ne_d ((kinds_a hso).trans ⟨fun q => by omega, fun q => by omega⟩))) rfl ?_
                  refine Ls_nil ?_
                  refine Jm_seq ?_
                  refine St_iff rfl ?_
                  refine St_skip ?_
                  refine Jm_seq ?_
                  refine St_seq ?_
                  refine St_region ?_
                  refine Ls_run (run_as (run_load_agg agg26 inf26 rfl rfl (hs.blk_cells 1 rfl 0 9)) (show _ = Value.agg #[.int .i64 x.k, .int .i64 x.f, .int .i64 x.t, .int .i64 x.b, .int .i64 x.a, .int .i64 x.c, .slice p.eA p.en p.ec, .slice p.kA p.kn p.kc, .slice p.pA p.pn p.pc] from rfl)) rfl ?_
                  refine Ls_storeAgg hs inf26 rfl rfl rfl rfl (by simp [Value.oneCell']) ?_
                  intro w151 hs
                  refine Ls_nil ?_
                  refine Jm_seq ?_
                  refine St_seq ?_
                  refine St_region ?_
                  refine Ls_run (run_move rfl) rfl ?_
                  refine Ls_run (run_as (run_field Try.underlying26 rfl inf3 (by decide) rfl) (show _ = Value.pointer (some ⟨b13, 3, none⟩) from rfl)) rfl ?_
                  refine Ls_store hs inf3 rfl rfl rfl rfl ?_
                  intro w152 hs
                  try simp only [List.set_cons_zero, List.set_cons_succ] at hs
                  refine Ls_nil ?_
                  refine Jm_seq ?_
                  refine St_seq ?_
                  refine St_region ?_
                  refine Ls_run (run_as (run_load_agg agg26 inf26 rfl rfl (hs.blk_cells 0 rfl 0 9)) (show _ = Value.agg #[.int .i64 ({ x with b := bv } : MC).k, .int .i64 ({ x with b := bv } : MC).f, .int .i64 ({ x with b := bv } : MC).t, .int .i64 ({ x with b := bv } : MC).b, .int .i64 ({ x with b := bv } : MC).a, .int .i64 ({ x with b := bv } : MC).c, .slice p.eA p.en p.ec, .slice p.kA p.kn p.kc, .slice p.pA p.pn p.pc] from rfl)) rfl ?_
                  refine Ls_call Try.func18 nm18 rfl rfl (Sound_c w152 { x with b := bv } p ⟨(hm.inB hs).e, (hm.inB hs).k, (hm.inB hs).p⟩ hze hzk hzp) rfl ?_
                  rintro v153 w154 ⟨rfl, hsQ155⟩
                  replace hs := hs.trans hsQ155
                  simp only [List.nil_append, List.cons_append] at hs
                  refine Ls_run (run_move rfl) rfl ?_
                  refine Ls_run (run_geq rfl rfl) rfl ?_
                  refine Ls_run (run_move rfl) rfl ?_
                  refine Ls_partP (t := 136) rfl (fun h156 => ?_) (fun h156 => ?_)
                  · skip
                    refine Ls_on rfl rfl ?_
                    refine Ls_run (run_move rfl) rfl ?_
                    refine Ls_on rfl rfl ?_
                    refine Ls_run (run_leq rfl rfl) rfl ?_
                    refine Ls_run (run_pick_t rfl rfl) rfl ?_
                    refine Ls_run (run_asB (c := true) (run_eql_bool Try.underlying4 rfl rfl) (by first | exact eq_f (fun q => by have := (kinds_b hso).1 q; omega) | exact eq_d ((kinds_b hso).trans ⟨fun q => by omega, fun q => by omega⟩))) rfl ?_
                    refine Ls_run (run_assign rfl) rfl ?_
                    refine Ls_nil ?_
                    refine Jm_seq ?_
                    refine St_ret ?_
                    refine Jm_ret1 rfl rfl ?_
                    exact ⟨_, rfl, rfl, hs.below⟩
                  · skip
                    refine Ls_off rfl rfl rfl rfl ?_
                    refine Ls_off rfl rfl rfl rfl ?_
                    refine Ls_run (run_pick_f rfl rfl) rfl ?_
                    refine Ls_run (run_asB (c := true) (run_eql_bool Try.underlying4 rfl rfl) (by first | exact eq_f (fun q => by have := (kinds_b hso).1 q; omega) | exact eq_d ((kinds_b hso).trans ⟨fun q => by omega, fun q => by omega⟩))) rfl ?_
                    refine Ls_run (run_assign rfl) rfl ?_
                    refine Ls_nil ?_
                    refine Jm_seq ?_
                    refine St_ret ?_
                    refine Jm_ret1 rfl rfl ?_
                    exact ⟨_, rfl, rfl, hs.below⟩
                · skip
                  refine Ls_off rfl rfl rfl rfl ?_
                  refine Ls_off rfl rfl rfl rfl ?_
                  refine Ls_run (run_pick_f rfl rfl) rfl ?_
                  refine Ls_run (run_asB (c := false) (run_neq_bool Try.underlying4 rfl rfl) (by first | exact ne_f (fun q => by have := (kinds_a hso).1 q; omega) | exact ne_d ((kinds_a hso).trans ⟨fun q => by omega, fun q => by omega⟩))) rfl ?_
                  refine Ls_nil ?_
                  refine Jm_seq ?_
                  refine St_iff rfl ?_
                  refine St_skip ?_
                  refine Jm_seq ?_
                  refine St_seq ?_
                  refine St_region ?_
                  refine Ls_run (run_as (run_load_agg agg26 inf26 rfl rfl (hs.blk_cells 1 rfl 0 9)) (show _ = Value.agg #[.int .i64 x.k, .int .i64 x.f, .int .i64 x.t, .int .i64 x.b, .int .i64 x.a, .int .i64 x.c, .slice p.eA p.en p.ec, .slice p.kA p.kn p.kc, .slice p.pA p.pn p.pc] from rfl)) rfl ?_
                  refine Ls_storeAgg hs inf26 rfl rfl rfl rfl (by simp [Value.oneCell']) ?_
                  intro w158 hs
                  refine Ls_nil ?_
                  refine Jm_seq ?_
                  refine St_seq ?_
                  refine St_region ?_
                  refine Ls_run (run_move rfl) rfl ?_
                  refine Ls_run (run_as (run_field Try.underlying26 rfl inf3 (by decide) rfl) (show _ = Value.pointer (some ⟨b13, 3, none⟩) from rfl)) rfl ?_
                  refine Ls_store hs inf3 rfl rfl rfl rfl ?_
                  intro w159 hs
                  try simp only [List.set_cons_zero, List.set_cons_succ] at hs
                  refine Ls_nil ?_
                  refine Jm_seq ?_
                  refine St_seq ?_
                  refine St_region ?_
                  refine Ls_run (run_as (run_load_agg agg26 inf26 rfl rfl (hs.blk_cells 0 rfl 0 9)) (show _ = Value.agg #[.int .i64 ({ x with b := bv } : MC).k, .int .i64 ({ x with b := bv } : MC).f, .int .i64 ({ x with b := bv } : MC).t, .int .i64 ({ x with b := bv } : MC).b, .int .i64 ({ x with b := bv } : MC).a, .int .i64 ({ x with b := bv } : MC).c, .slice p.eA p.en p.ec, .slice p.kA p.kn p.kc, .slice p.pA p.pn p.pc] from rfl)) rfl ?_
                  refine Ls_call Try.func18 nm18 rfl rfl (Sound_c w159 { x with b := bv } p ⟨(hm.inB hs).e, (hm.inB hs).k, (hm.inB hs).p⟩ hze hzk hzp) rfl ?_
                  rintro v160 w161 ⟨rfl, hsQ162⟩
                  replace hs := hs.trans hsQ162
                  simp only [List.nil_append, List.cons_append] at hs
                  refine Ls_run (run_move rfl) rfl ?_
                  refine Ls_run (run_geq rfl rfl) rfl ?_
                  refine Ls_run (run_move rfl) rfl ?_
                  refine Ls_partP (t := 136) rfl (fun h163 => ?_) (fun h163 => ?_)
                  · skip
                    refine Ls_on rfl rfl ?_
                    refine Ls_run (run_move rfl) rfl ?_
                    refine Ls_on rfl rfl ?_
                    refine Ls_run (run_leq rfl rfl) rfl ?_
                    refine Ls_run (run_pick_t rfl rfl) rfl ?_
                    refine Ls_run (run_asB (c := true) (run_eql_bool Try.underlying4 rfl rfl) (by first | exact eq_f (fun q => by have := (kinds_b hso).1 q; omega) | exact eq_d ((kinds_b hso).trans ⟨fun q => by omega, fun q => by omega⟩))) rfl ?_
                    refine Ls_run (run_assign rfl) rfl ?_
                    refine Ls_nil ?_
                    refine Jm_seq ?_
                    refine St_ret ?_
                    refine Jm_ret1 rfl rfl ?_
                    exact ⟨_, rfl, rfl, hs.below⟩
                  · skip
                    refine Ls_off rfl rfl rfl rfl ?_
                    refine Ls_off rfl rfl rfl rfl ?_
                    refine Ls_run (run_pick_f rfl rfl) rfl ?_
                    refine Ls_run (run_asB (c := true) (run_eql_bool Try.underlying4 rfl rfl) (by first | exact eq_f (fun q => by have := (kinds_b hso).1 q; omega) | exact eq_d ((kinds_b hso).trans ⟨fun q => by omega, fun q => by omega⟩))) rfl ?_
                    refine Ls_run (run_assign rfl) rfl ?_
                    refine Ls_nil ?_
                    refine Jm_seq ?_
                    refine St_ret ?_
                    refine Jm_ret1 rfl rfl ?_
                    exact ⟨_, rfl, rfl, hs.below⟩
              · skip
                refine Ls_off rfl rfl rfl rfl ?_
                refine Ls_off rfl rfl rfl rfl ?_
                refine Ls_run (run_pick_f rfl rfl) rfl ?_
                refine Ls_run (run_asB (c := false) (run_neq_bool Try.underlying4 rfl rfl) (by first | exact ne_f (fun q => by have := (kinds_t hso).1 q; omega) | exact ne_d ((kinds_t hso).trans ⟨fun q => by omega, fun q => by omega⟩))) rfl ?_
                refine Ls_nil ?_
                refine Jm_seq ?_
                refine St_iff rfl ?_
                refine St_skip ?_
                refine Jm_seq ?_
                refine St_seq ?_
                refine St_region ?_
                refine Ls_run (run_as (run_load_agg agg26 inf26 rfl rfl (hs.blk_cells 1 rfl 0 9)) (show _ = Value.agg #[.int .i64 x.k, .int .i64 x.f, .int .i64 x.t, .int .i64 x.b, .int .i64 x.a, .int .i64 x.c, .slice p.eA p.en p.ec, .slice p.kA p.kn p.kc, .slice p.pA p.pn p.pc] from rfl)) rfl ?_
                refine Ls_storeAgg hs inf26 rfl rfl rfl rfl (by simp [Value.oneCell']) ?_
                intro w165 hs
                refine Ls_nil ?_
                refine Jm_seq ?_
                refine St_seq ?_
                refine St_region ?_
                refine Ls_run (run_move rfl) rfl ?_
                refine Ls_run (run_as (run_field Try.underlying26 rfl inf3 (by decide) rfl) (show _ = Value.pointer (some ⟨b13, 4, none⟩) from rfl)) rfl ?_
                refine Ls_store hs inf3 rfl rfl rfl rfl ?_
                intro w166 hs
                try simp only [List.set_cons_zero, List.set_cons_succ] at hs
                refine Ls_nil ?_
                refine Jm_seq ?_
                refine St_seq ?_
                refine St_seq ?_
                refine St_region ?_
                refine Ls_run (run_as (run_load_agg agg26 inf26 rfl rfl (hs.blk_cells 0 rfl 0 9)) (show _ = Value.agg #[.int .i64 ({ x with a := bv } : MC).k, .int .i64 ({ x with a := bv } : MC).f, .int .i64 ({ x with a := bv } : MC).t, .int .i64 ({ x with a := bv } : MC).b, .int .i64 ({ x with a := bv } : MC).a, .int .i64 ({ x with a := bv } : MC).c, .slice p.eA p.en p.ec, .slice p.kA p.kn p.kc, .slice p.pA p.pn p.pc] from rfl)) rfl ?_
                refine Ls_call Try.func18 nm18 rfl rfl (Sound_c w166 { x with a := bv } p ⟨(hm.inB hs).e, (hm.inB hs).k, (hm.inB hs).p⟩ hze hzk hzp) rfl ?_
                rintro v167 w168 ⟨rfl, hsQ169⟩
                replace hs := hs.trans hsQ169
                simp only [List.nil_append, List.cons_append] at hs
                refine Ls_run (run_move rfl) rfl ?_
                refine Ls_run (run_geq rfl rfl) rfl ?_
                refine Ls_run (run_move rfl) rfl ?_
                refine Ls_partP (t := 124) rfl (fun h170 => ?_) (fun h170 => ?_)
                · skip
                  refine Ls_on rfl rfl ?_
                  refine Ls_run (run_move rfl) rfl ?_
                  refine Ls_on rfl rfl ?_
                  refine Ls_run (run_leq rfl rfl) rfl ?_
                  refine Ls_run (run_pick_t rfl rfl) rfl ?_
                  refine Ls_run (run_asB (c := false) (run_neq_bool Try.underlying4 rfl rfl) (by first | exact ne_f (fun q => by have := (kinds_a hso).1 q; omega) | exact ne_d ((kinds_a hso).trans ⟨fun q => by omega, fun q => by omega⟩))) rfl ?_
                  refine Ls_nil ?_
                  refine Jm_seq ?_
                  refine St_iff rfl ?_
                  refine St_skip ?_
                  refine Jm_seq ?_
                  refine St_seq ?_
                  refine St_region ?_
                  refine Ls_run (run_as (run_load_agg agg26 inf26 rfl rfl (hs.blk_cells 1 rfl 0 9)) (show _ = Value.agg #[.int .i64 x.k, .int .i64 x.f, .int .i64 x.t, .int .i64 x.b, .int .i64 x.a, .int .i64 x.c, .slice p.eA p.en p.ec, .slice p.kA p.kn p.kc, .slice p.pA p.pn p.pc] from rfl)) rfl ?_
                  refine Ls_storeAgg hs inf26 rfl rfl rfl rfl (by simp [Value.oneCell']) ?_
                  intro w172 hs
                  refine Ls_nil ?_
                  refine Jm_seq ?_
                  refine St_seq ?_
                  refine St_region ?_
                  refine Ls_run (run_move rfl) rfl ?_
                  refine Ls_run (run_as (run_field Try.underlying26 rfl inf3 (by decide) rfl) (show _ = Value.pointer (some ⟨b13, 3, none⟩) from rfl)) rfl ?_
                  refine Ls_store hs inf3 rfl rfl rfl rfl ?_
                  intro w173 hs
                  try simp only [List.set_cons_zero, List.set_cons_succ] at hs
                  refine Ls_nil ?_
                  refine Jm_seq ?_
                  refine St_seq ?_
                  refine St_region ?_
                  refine Ls_run (run_as (run_load_agg agg26 inf26 rfl rfl (hs.blk_cells 0 rfl 0 9)) (show _ = Value.agg #[.int .i64 ({ x with b := bv } : MC).k, .int .i64 ({ x with b := bv } : MC).f, .int .i64 ({ x with b := bv } : MC).t, .int .i64 ({ x with b := bv } : MC).b, .int .i64 ({ x with b := bv } : MC).a, .int .i64 ({ x with b := bv } : MC).c, .slice p.eA p.en p.ec, .slice p.kA p.kn p.kc, .slice p.pA p.pn p.pc] from rfl)) rfl ?_
                  refine Ls_call Try.func18 nm18 rfl rfl (Sound_c w173 { x with b := bv } p ⟨(hm.inB hs).e, (hm.inB hs).k, (hm.inB hs).p⟩ hze hzk hzp) rfl ?_
                  rintro v174 w175 ⟨rfl, hsQ176⟩
                  replace hs := hs.trans hsQ176
                  simp only [List.nil_append, List.cons_append] at hs
                  refine Ls_run (run_move rfl) rfl ?_
                  refine Ls_run (run_geq rfl rfl) rfl ?_
                  refine Ls_run (run_move rfl) rfl ?_
                  refine Ls_partP (t := 136) rfl (fun h177 => ?_) (fun h177 => ?_)
                  · skip
                    refine Ls_on rfl rfl ?_
                    refine Ls_run (run_move rfl) rfl ?_
                    refine Ls_on rfl rfl ?_
                    refine Ls_run (run_leq rfl rfl) rfl ?_
                    refine Ls_run (run_pick_t rfl rfl) rfl ?_
                    refine Ls_run (run_asB (c := true) (run_eql_bool Try.underlying4 rfl rfl) (by first | exact eq_f (fun q => by have := (kinds_b hso).1 q; omega) | exact eq_d ((kinds_b hso).trans ⟨fun q => by omega, fun q => by omega⟩))) rfl ?_
                    refine Ls_run (run_assign rfl) rfl ?_
                    refine Ls_nil ?_
                    refine Jm_seq ?_
                    refine St_ret ?_
                    refine Jm_ret1 rfl rfl ?_
                    exact ⟨_, rfl, rfl, hs.below⟩
                  · skip
                    refine Ls_off rfl rfl rfl rfl ?_
                    refine Ls_off rfl rfl rfl rfl ?_
                    refine Ls_run (run_pick_f rfl rfl) rfl ?_
                    refine Ls_run (run_asB (c := true) (run_eql_bool Try.underlying4 rfl rfl) (by first | exact eq_f (fun q => by have := (kinds_b hso).1 q; omega) | exact eq_d ((kinds_b hso).trans ⟨fun q => by omega, fun q => by omega⟩))) rfl ?_
                    refine Ls_run (run_assign rfl) rfl ?_
                    refine Ls_nil ?_
                    refine Jm_seq ?_
                    refine St_ret ?_
                    refine Jm_ret1 rfl rfl ?_
                    exact ⟨_, rfl, rfl, hs.below⟩
                · skip
                  refine Ls_off rfl rfl rfl rfl ?_
                  refine Ls_off rfl rfl rfl rfl ?_
                  refine Ls_run (run_pick_f rfl rfl) rfl ?_
                  refine Ls_run (run_asB (c := false) (run_neq_bool Try.underlying4 rfl rfl) (by first | exact ne_f (fun q => by have := (kinds_a hso).1 q; omega) | exact ne_d ((kinds_a hso).trans ⟨fun q => by omega, fun q => by omega⟩))) rfl ?_
                  refine Ls_nil ?_
                  refine Jm_seq ?_
                  refine St_iff rfl ?_
                  refine St_skip ?_
                  refine Jm_seq ?_
                  refine St_seq ?_
                  refine St_region ?_
                  refine Ls_run (run_as (run_load_agg agg26 inf26 rfl rfl (hs.blk_cells 1 rfl 0 9)) (show _ = Value.agg #[.int .i64 x.k, .int .i64 x.f, .int .i64 x.t, .int .i64 x.b, .int .i64 x.a, .int .i64 x.c, .slice p.eA p.en p.ec, .slice p.kA p.kn p.kc, .slice p.pA p.pn p.pc] from rfl)) rfl ?_
                  refine Ls_storeAgg hs inf26 rfl rfl rfl rfl (by simp [Value.oneCell']) ?_
                  intro w179 hs
                  refine Ls_nil ?_
                  refine Jm_seq ?_
                  refine St_seq ?_
                  refine St_region ?_
                  refine Ls_run (run_move rfl) rfl ?_
                  refine Ls_run (run_as (run_field Try.underlying26 rfl inf3 (by decide) rfl) (show _ = Value.pointer (some ⟨b13, 3, none⟩) from rfl)) rfl ?_
                  refine Ls_store hs inf3 rfl rfl rfl rfl ?_
                  intro w180 hs
                  try simp only [List.set_cons_zero, List.set_cons_succ] at hs
                  refine Ls_nil ?_
                  refine Jm_seq ?_
                  refine St_seq ?_
                  refine St_region ?_
                  refine Ls_run (run_as (run_load_agg agg26 inf26 rfl rfl (hs.blk_cells 0 rfl 0 9)) (show _ = Value.agg #[.int .i64 ({ x with b := bv } : MC).k, .int .i64 ({ x with b := bv } : MC).f, .int .i64 ({ x with b := bv } : MC).t, .int .i64 ({ x with b := bv } : MC).b, .int .i64 ({ x with b := bv } : MC).a, .int .i64 ({ x with b := bv } : MC).c, .slice p.eA p.en p.ec, .slice p.kA p.kn p.kc, .slice p.pA p.pn p.pc] from rfl)) rfl ?_
                  refine Ls_call Try.func18 nm18 rfl rfl (Sound_c w180 { x with b := bv } p ⟨(hm.inB hs).e, (hm.inB hs).k, (hm.inB hs).p⟩ hze hzk hzp) rfl ?_
                  rintro v181 w182 ⟨rfl, hsQ183⟩
                  replace hs := hs.trans hsQ183
                  simp only [List.nil_append, List.cons_append] at hs
                  refine Ls_run (run_move rfl) rfl ?_
                  refine Ls_run (run_geq rfl rfl) rfl ?_
                  refine Ls_run (run_move rfl) rfl ?_
                  refine Ls_partP (t := 136) rfl (fun h184 => ?_) (fun h184 => ?_)
                  · skip
                    refine Ls_on rfl rfl ?_
                    refine Ls_run (run_move rfl) rfl ?_
                    refine Ls_on rfl rfl ?_
                    refine Ls_run (run_leq rfl rfl) rfl ?_
                    refine Ls_run (run_pick_t rfl rfl) rfl ?_
                    refine Ls_run (run_asB (c := true) (run_eql_bool Try.underlying4 rfl rfl) (by first | exact eq_f (fun q => by have := (kinds_b hso).1 q; omega) | exact eq_d ((kinds_b hso).trans ⟨fun q => by omega, fun q => by omega⟩))) rfl ?_
                    refine Ls_run (run_assign rfl) rfl ?_
                    refine Ls_nil ?_
                    refine Jm_seq ?_
                    refine St_ret ?_
                    refine Jm_ret1 rfl rfl ?_
                    exact ⟨_, rfl, rfl, hs.below⟩
                  · skip
                    refine Ls_off rfl rfl rfl rfl ?_
                    refine Ls_off rfl rfl rfl rfl ?_
                    refine Ls_run (run_pick_f rfl rfl) rfl ?_
                    refine Ls_run (run_asB (c := true) (run_eql_bool Try.underlying4 rfl rfl) (by first | exact eq_f (fun q => by have := (kinds_b hso).1 q; omega) | exact eq_d ((kinds_b hso).trans ⟨fun q => by omega, fun q => by omega⟩))) rfl ?_
                    refine Ls_run (run_assign rfl) rfl ?_
                    refine Ls_nil ?_
                    refine Jm_seq ?_
                    refine St_ret ?_
                    refine Jm_ret1 rfl rfl ?_
                    exact ⟨_, rfl, rfl, hs.below⟩
          · skip
            refine St_skip ?_
            refine Jm_seq ?_
            refine St_seq ?_
            refine St_region ?_
            refine Ls_run (run_as (run_load_agg agg26 inf26 rfl rfl (hs.blk_cells 1 rfl 0 9)) (show _ = Value.agg #[.int .i64 x.k, .int .i64 x.f, .int .i64 x.t, .int .i64 x.b, .int .i64 x.a, .int .i64 x.c, .slice p.eA p.en p.ec, .slice p.kA p.kn p.kc, .slice p.pA p.pn p.pc] from rfl)) rfl ?_
            refine Ls_storeAgg hs inf26 rfl rfl rfl rfl (by simp [Value.oneCell']) ?_
            intro w185 hs
            refine Ls_nil ?_
            refine Jm_seq ?_
            refine St_seq ?_
            refine St_region ?_
            refine Ls_run (run_move rfl) rfl ?_
            refine Ls_run (run_as (run_field Try.underlying26 rfl inf3 (by decide) rfl) (show _ = Value.pointer (some ⟨b13, 1, none⟩) from rfl)) rfl ?_
            refine Ls_store hs inf3 rfl rfl rfl rfl ?_
            intro w186 hs
            try simp only [List.set_cons_zero, List.set_cons_succ] at hs
            refine Ls_nil ?_
            refine Jm_seq ?_
            refine St_seq ?_
            refine St_seq ?_
            refine St_region ?_
            refine Ls_run (run_as (run_load_agg agg26 inf26 rfl rfl (hs.blk_cells 0 rfl 0 9)) (show _ = Value.agg #[.int .i64 ({ x with f := bv } : MC).k, .int .i64 ({ x with f := bv } : MC).f, .int .i64 ({ x with f := bv } : MC).t, .int .i64 ({ x with f := bv } : MC).b, .int .i64 ({ x with f := bv } : MC).a, .int .i64 ({ x with f := bv } : MC).c, .slice p.eA p.en p.ec, .slice p.kA p.kn p.kc, .slice p.pA p.pn p.pc] from rfl)) rfl ?_
            refine Ls_call Try.func18 nm18 rfl rfl (Sound_c w186 { x with f := bv } p ⟨(hm.inB hs).e, (hm.inB hs).k, (hm.inB hs).p⟩ hze hzk hzp) rfl ?_
            rintro v187 w188 ⟨rfl, hsQ189⟩
            replace hs := hs.trans hsQ189
            simp only [List.nil_append, List.cons_append] at hs
            refine Ls_run (run_move rfl) rfl ?_
            refine Ls_run (run_geq rfl rfl) rfl ?_
            refine Ls_run (run_move rfl) rfl ?_
            refine Ls_partP (t := 100) rfl (fun h190 => ?_) (fun h190 => ?_)
            · skip
              refine Ls_on rfl rfl ?_
              refine Ls_run (run_move rfl) rfl ?_
              refine Ls_on rfl rfl ?_
              refine Ls_run (run_lss rfl rfl) rfl ?_
              refine Ls_run (run_pick_t rfl rfl) rfl ?_
              refine Ls_run (run_asB (c := false) (run_neq_bool Try.underlying4 rfl rfl) (by first | exact ne_f (fun q => by have := (kinds_f hso).1 q; omega) | exact ne_d ((kinds_f hso).trans ⟨fun q => by omega, fun q => by omega⟩))) rfl ?_
              refine Ls_nil ?_
              refine Jm_seq ?_
              refine St_iff rfl ?_
              refine St_skip ?_
              refine Jm_seq ?_
              refine St_seq ?_
              refine St_region ?_
              refine Ls_run (run_as (run_load_agg agg26 inf26 rfl rfl (hs.blk_cells 1 rfl 0 9)) (show _ = Value.agg #[.int .i64 x.k, .int .i64 x.f, .int .i64 x.t, .int .i64 x.b, .int .i64 x.a, .int .i64 x.c, .slice p.eA p.en p.ec, .slice p.kA p.kn p.kc, .slice p.pA p.pn p.pc] from rfl)) rfl ?_
              refine Ls_storeAgg hs inf26 rfl rfl rfl rfl (by simp [Value.oneCell']) ?_
              intro w192 hs
              refine Ls_nil ?_
              refine Jm_seq ?_
              refine St_seq ?_
              refine St_region ?_
              refine Ls_run (run_move rfl) rfl ?_
              refine Ls_run (run_as (run_field Try.underlying26 rfl inf3 (by decide) rfl) (show _ = Value.pointer (some ⟨b13, 2, none⟩) from rfl)) rfl ?_
              refine Ls_store hs inf3 rfl rfl rfl rfl ?_
              intro w193 hs
              try simp only [List.set_cons_zero, List.set_cons_succ] at hs
              refine Ls_nil ?_
              refine Jm_seq ?_
              refine St_seq ?_
              refine St_seq ?_
              refine St_region ?_
              refine Ls_run (run_as (run_load_agg agg26 inf26 rfl rfl (hs.blk_cells 0 rfl 0 9)) (show _ = Value.agg #[.int .i64 ({ x with t := bv } : MC).k, .int .i64 ({ x with t := bv } : MC).f, .int .i64 ({ x with t := bv } : MC).t, .int .i64 ({ x with t := bv } : MC).b, .int .i64 ({ x with t := bv } : MC).a, .int .i64 ({ x with t := bv } : MC).c, .slice p.eA p.en p.ec, .slice p.kA p.kn p.kc, .slice p.pA p.pn p.pc] from rfl)) rfl ?_
              refine Ls_call Try.func18 nm18 rfl rfl (Sound_c w193 { x with t := bv } p ⟨(hm.inB hs).e, (hm.inB hs).k, (hm.inB hs).p⟩ hze hzk hzp) rfl ?_
              rintro v194 w195 ⟨rfl, hsQ196⟩
              replace hs := hs.trans hsQ196
              simp only [List.nil_append, List.cons_append] at hs
              refine Ls_run (run_move rfl) rfl ?_
              refine Ls_run (run_geq rfl rfl) rfl ?_
              refine Ls_run (run_move rfl) rfl ?_
              refine Ls_partP (t := 112) rfl (fun h197 => ?_) (fun h197 => ?_)
              · skip
                refine Ls_on rfl rfl ?_
                refine Ls_run (run_move rfl) rfl ?_
                refine Ls_on rfl rfl ?_
                refine Ls_run (run_lss rfl rfl) rfl ?_
                refine Ls_run (run_pick_t rfl rfl) rfl ?_
                refine Ls_run (run_asB (c := false) (run_neq_bool Try.underlying4 rfl rfl) (by first | exact ne_f (fun q => by have := (kinds_t hso).1 q; omega) | exact ne_d ((kinds_t hso).trans ⟨fun q => by omega, fun q => by omega⟩))) rfl ?_
                refine Ls_nil ?_
                refine Jm_seq ?_
                refine St_iff rfl ?_
                refine St_skip ?_
                refine Jm_seq ?_
                refine St_seq ?_
                refine St_region ?_
                refine Ls_run (run_as (run_load_agg agg26 inf26 rfl rfl (hs.blk_cells 1 rfl 0 9)) (show _ = Value.agg #[.int .i64 x.k, .int .i64 x.f, .int .i64 x.t, .int .i64 x.b, .int .i64 x.a, .int .i64 x.c, .slice p.eA p.en p.ec, .slice p.kA p.kn p.kc, .slice p.pA p.pn p.pc] from rfl)) rfl ?_
                refine Ls_storeAgg hs inf26 rfl rfl rfl rfl (by simp [Value.oneCell']) ?_
                intro w199 hs
                refine Ls_nil ?_
                refine Jm_seq ?_
                refine St_seq ?_
                refine St_region ?_
                refine Ls_run (run_move rfl) rfl ?_
                refine Ls_run (run_as (run_field Try.underlying26 rfl inf3 (by decide) rfl) (show _ = Value.pointer (some ⟨b13, 4, none⟩) from rfl)) rfl ?_
                refine Ls_store hs inf3 rfl rfl rfl rfl ?_
                intro w200 hs
                try simp only [List.set_cons_zero, List.set_cons_succ] at hs
                refine Ls_nil ?_
                refine Jm_seq ?_
                refine St_seq ?_
                refine St_seq ?_
                refine St_region ?_
                refine Ls_run (run_as (run_load_agg agg26 inf26 rfl rfl (hs.blk_cells 0 rfl 0 9)) (show _ = Value.agg #[.int .i64 ({ x with a := bv } : MC).k, .int .i64 ({ x with a := bv } : MC).f, .int .i64 ({ x with a := bv } : MC).t, .int .i64 ({ x with a := bv } : MC).b, .int .i64 ({ x with a := bv } : MC).a, .int .i64 ({ x with a := bv } : MC).c, .slice p.eA p.en p.ec, .slice p.kA p.kn p.kc, .slice p.pA p.pn p.pc] from rfl)) rfl ?_
                refine Ls_call Try.func18 nm18 rfl rfl (Sound_c w200 { x with a := bv } p ⟨(hm.inB hs).e, (hm.inB hs).k, (hm.inB hs).p⟩ hze hzk hzp) rfl ?_
                rintro v201 w202 ⟨rfl, hsQ203⟩
                replace hs := hs.trans hsQ203
                simp only [List.nil_append, List.cons_append] at hs
                refine Ls_run (run_move rfl) rfl ?_
                refine Ls_run (run_geq rfl rfl) rfl ?_
                refine Ls_run (run_move rfl) rfl ?_
                refine Ls_partP (t := 124) rfl (fun h204 => ?_) (fun h204 => ?_)
                · skip
                  refine Ls_on rfl rfl ?_
                  refine Ls_run (run_move rfl) rfl ?_
                  refine Ls_on rfl rfl ?_
                  refine Ls_run (run_leq rfl rfl) rfl ?_
                  refine Ls_run (run_pick_t rfl rfl) rfl ?_
                  refine Ls_run (run_asB (c := false) (run_neq_bool Try.underlying4 rfl rfl) (by first | exact ne_f (fun q => by have := (kinds_a hso).1 q; omega) | exact ne_d ((kinds_a hso).trans ⟨fun q => by omega, fun q => by omega⟩))) rfl ?_
                  refine Ls_nil ?_
                  refine Jm_seq ?_
                  refine St_iff rfl ?_
                  refine St_skip ?_
                  refine Jm_seq ?_
                  refine St_seq ?_
                  refine St_region ?_
                  refine Ls_run (run_as (run_load_agg agg26 inf26 rfl rfl (hs.blk_cells 1 rfl 0 9)) (show _ = Value.agg #[.int .i64 x.k, .int .i64 x.f, .int .i64 x.t, .int .i64 x.b, .int .i64 x.a, .int .i64 x.c, .slice p.eA p.en p.ec, .slice p.kA p.kn p.kc, .slice p.pA p.pn p.pc] from rfl)) rfl ?_
                  refine Ls_storeAgg hs inf26 rfl rfl rfl rfl (by simp [Value.oneCell']) ?_
                  intro w206 hs
                  refine Ls_nil ?_
                  refine Jm_seq ?_
                  refine St_seq ?_
                  refine St_region ?_
                  refine Ls_run (run_move rfl) rfl ?_
                  refine Ls_run (run_as (run_field Try.underlying26 rfl inf3 (by decide) rfl) (show _ = Value.pointer (some ⟨b13, 3, none⟩) from rfl)) rfl ?_
                  refine Ls_store hs inf3 rfl rfl rfl rfl ?_
                  intro w207 hs
                  try simp only [List.set_cons_zero, List.set_cons_succ] at hs
                  refine Ls_nil ?_
                  refine Jm_seq ?_
                  refine St_seq ?_
                  refine St_region ?_
                  refine Ls_run (run_as (run_load_agg agg26 inf26 rfl rfl (hs.blk_cells 0 rfl 0 9)) (show _ = Value.agg #[.int .i64 ({ x with b := bv } : MC).k, .int .i64 ({ x with b := bv } : MC).f, .int .i64 ({ x with b := bv } : MC).t, .int .i64 ({ x with b := bv } : MC).b, .int .i64 ({ x with b := bv } : MC).a, .int .i64 ({ x with b := bv } : MC).c, .slice p.eA p.en p.ec, .slice p.kA p.kn p.kc, .slice p.pA p.pn p.pc] from rfl)) rfl ?_
                  refine Ls_call Try.func18 nm18 rfl rfl (Sound_c w207 { x with b := bv } p ⟨(hm.inB hs).e, (hm.inB hs).k, (hm.inB hs).p⟩ hze hzk hzp) rfl ?_
                  rintro v208 w209 ⟨rfl, hsQ210⟩
                  replace hs := hs.trans hsQ210
                  simp only [List.nil_append, List.cons_append] at hs
                  refine Ls_run (run_move rfl) rfl ?_
                  refine Ls_run (run_geq rfl rfl) rfl ?_
                  refine Ls_run (run_move rfl) rfl ?_
                  refine Ls_partP (t := 136) rfl (fun h211 => ?_) (fun h211 => ?_)
                  · skip
                    refine Ls_on rfl rfl ?_
                    refine Ls_run (run_move rfl) rfl ?_
                    refine Ls_on rfl rfl ?_
                    refine Ls_run (run_leq rfl rfl) rfl ?_
                    refine Ls_run (run_pick_t rfl rfl) rfl ?_
                    refine Ls_run (run_asB (c := true) (run_eql_bool Try.underlying4 rfl rfl) (by first | exact eq_f (fun q => by have := (kinds_b hso).1 q; omega) | exact eq_d ((kinds_b hso).trans ⟨fun q => by omega, fun q => by omega⟩))) rfl ?_
                    refine Ls_run (run_assign rfl) rfl ?_
                    refine Ls_nil ?_
                    refine Jm_seq ?_
                    refine St_ret ?_
                    refine Jm_ret1 rfl rfl ?_
                    exact ⟨_, rfl, rfl, hs.below⟩
                  · skip
                    refine Ls_off rfl rfl rfl rfl ?_
                    refine Ls_off rfl rfl rfl rfl ?_
                    refine Ls_run (run_pick_f rfl rfl) rfl ?_
                    refine Ls_run (run_asB (c := true) (run_eql_bool Try.underlying4 rfl rfl) (by first | exact eq_f (fun q => by have := (kinds_b hso).1 q; omega) | exact eq_d ((kinds_b hso).trans ⟨fun q => by omega, fun q => by omega⟩))) rfl ?_
                    refine Ls_run (run_assign rfl) rfl ?_
                    refine Ls_nil ?_
                    refine Jm_seq ?_
                    refine St_ret ?_
                    refine Jm_ret1 rfl rfl ?_
                    exact ⟨_, rfl, rfl, hs.below⟩
                · skip
                  refine Ls_off rfl rfl rfl rfl ?_
                  refine Ls_off rfl rfl rfl rfl ?_
                  refine Ls_run (run_pick_f rfl rfl) rfl ?_
                  refine Ls_run (run_asB (c := false) (run_neq_bool Try.underlying4 rfl rfl) (by first | exact ne_f (fun q => by have := (kinds_a hso).1 q; omega) | exact ne_d ((kinds_a hso).trans ⟨fun q => by omega, fun q => by omega⟩))) rfl ?_
                  refine Ls_nil ?_
                  refine Jm_seq ?_
                  refine St_iff rfl ?_
                  refine St_skip ?_
                  refine Jm_seq ?_
                  refine St_seq ?_
                  refine St_region ?_
                  refine Ls_run (run_as (run_load_agg agg26 inf26 rfl rfl (hs.blk_cells 1 rfl 0 9)) (show _ = Value.agg #[.int .i64 x.k, .int .i64 x.f, .int .i64 x.t, .int .i64 x.b, .int .i64 x.a, .int .i64 x.c, .slice p.eA p.en p.ec, .slice p.kA p.kn p.kc, .slice p.pA p.pn p.pc] from rfl)) rfl ?_
                  refine Ls_storeAgg hs inf26 rfl rfl rfl rfl (by simp [Value.oneCell']) ?_
                  intro w213 hs
                  refine Ls_nil ?_
                  refine Jm_seq ?_
                  refine St_seq ?_
                  refine St_region ?_
                  refine Ls_run (run_move rfl) rfl ?_
                  refine Ls_run (run_as (run_field Try.underlying26 rfl inf3 (by decide) rfl) (show _ = Value.pointer (some ⟨b13, 3, none⟩) from rfl)) rfl ?_
                  refine Ls_store hs inf3 rfl rfl rfl rfl ?_
                  intro w214 hs
                  try simp only [List.set_cons_zero, List.set_cons_succ] at hs
                  refine Ls_nil ?_
                  refine Jm_seq ?_
                  refine St_seq ?_
                  refine St_region ?_
                  refine Ls_run (run_as (run_load_agg agg26 inf26 rfl rfl (hs.blk_cells 0 rfl 0 9)) (show _ = Value.agg #[.int .i64 ({ x with b := bv } : MC).k, .int .i64 ({ x with b := bv } : MC).f, .int .i64 ({ x with b := bv } : MC).t, .int .i64 ({ x with b := bv } : MC).b, .int .i64 ({ x with b := bv } : MC).a, .int .i64 ({ x with b := bv } : MC).c, .slice p.eA p.en p.ec, .slice p.kA p.kn p.kc, .slice p.pA p.pn p.pc] from rfl)) rfl ?_
                  refine Ls_call Try.func18 nm18 rfl rfl (Sound_c w214 { x with b := bv } p ⟨(hm.inB hs).e, (hm.inB hs).k, (hm.inB hs).p⟩ hze hzk hzp) rfl ?_
                  rintro v215 w216 ⟨rfl, hsQ217⟩
                  replace hs := hs.trans hsQ217
                  simp only [List.nil_append, List.cons_append] at hs
                  refine Ls_run (run_move rfl) rfl ?_
                  refine Ls_run (run_geq rfl rfl) rfl ?_
                  refine Ls_run (run_move rfl) rfl ?_
                  refine Ls_partP (t := 136) rfl (fun h218 => ?_) (fun h218 => ?_)
                  · skip
                    refine Ls_on rfl rfl ?_
                    refine Ls_run (run_move rfl) rfl ?_
                    refine Ls_on rfl rfl ?_
                    refine Ls_run (run_leq rfl rfl) rfl ?_
                    refine Ls_run (run_pick_t rfl rfl) rfl ?_
                    refine Ls_run (run_asB (c := true) (run_eql_bool Try.underlying4 rfl rfl) (by first | exact eq_f (fun q => by have := (kinds_b hso).1 q; omega) | exact eq_d ((kinds_b hso).trans ⟨fun q => by omega, fun q => by omega⟩))) rfl ?_
                    refine Ls_run (run_assign rfl) rfl ?_
                    refine Ls_nil ?_
                    refine Jm_seq ?_
                    refine St_ret ?_
                    refine Jm_ret1 rfl rfl ?_
                    exact ⟨_, rfl, rfl, hs.below⟩
                  · skip
                    refine Ls_off rfl rfl rfl rfl ?_
                    refine Ls_off rfl rfl rfl rfl ?_
                    refine Ls_run (run_pick_f rfl rfl) rfl ?_
                    refine Ls_run (run_asB (c := true) (run_eql_bool Try.underlying4 rfl rfl) (by first | exact eq_f (fun q => by have := (kinds_b hso).1 q; omega) | exact eq_d ((kinds_b hso).trans ⟨fun q => by omega, fun q => by omega⟩))) rfl ?_
                    refine Ls_run (run_assign rfl) rfl ?_
                    refine Ls_nil ?_
                    refine Jm_seq ?_
                    refine St_ret ?_
                    refine Jm_ret1 rfl rfl ?_
                    exact ⟨_, rfl, rfl, hs.below⟩
              · skip
                refine Ls_off rfl rfl rfl rfl ?_
                refine Ls_off rfl rfl rfl rfl ?_
                refine Ls_run (run_pick_f rfl rfl) rfl ?_
                refine Ls_run (run_asB (c := false) (run_neq_bool Try.underlying4 rfl rfl) (by first | exact ne_f (fun q => by have := (kinds_t hso).1 q; omega) | exact ne_d ((kinds_t hso).trans ⟨fun q => by omega, fun q => by omega⟩))) rfl ?_
                refine Ls_nil ?_
                refine Jm_seq ?_
                refine St_iff rfl ?_
                refine St_skip ?_
                refine Jm_seq ?_
                refine St_seq ?_
                refine St_region ?_
                refine Ls_run (run_as (run_load_agg agg26 inf26 rfl rfl (hs.blk_cells 1 rfl 0 9)) (show _ = Value.agg #[.int .i64 x.k, .int .i64 x.f, .int .i64 x.t, .int .i64 x.b, .int .i64 x.a, .int .i64 x.c, .slice p.eA p.en p.ec, .slice p.kA p.kn p.kc, .slice p.pA p.pn p.pc] from rfl)) rfl ?_
                refine Ls_storeAgg hs inf26 rfl rfl rfl rfl (by simp [Value.oneCell']) ?_
                intro w220 hs
                refine Ls_nil ?_
                refine Jm_seq ?_
                refine St_seq ?_
                refine St_region ?_
                refine Ls_run (run_move rfl) rfl ?_
                refine Ls_run (run_as (run_field Try.underlying26 rfl inf3 (by decide) rfl) (show _ = Value.pointer (some ⟨b13, 4, none⟩) from rfl)) rfl ?_
                refine Ls_store hs inf3 rfl rfl rfl rfl ?_
                intro w221 hs
                try simp only [List.set_cons_zero, List.set_cons_succ] at hs
                refine Ls_nil ?_
                refine Jm_seq ?_
                refine St_seq ?_
                refine St_seq ?_
                refine St_region ?_
                refine Ls_run (run_as (run_load_agg agg26 inf26 rfl rfl (hs.blk_cells 0 rfl 0 9)) (show _ = Value.agg #[.int .i64 ({ x with a := bv } : MC).k, .int .i64 ({ x with a := bv } : MC).f, .int .i64 ({ x with a := bv } : MC).t, .int .i64 ({ x with a := bv } : MC).b, .int .i64 ({ x with a := bv } : MC).a, .int .i64 ({ x with a := bv } : MC).c, .slice p.eA p.en p.ec, .slice p.kA p.kn p.kc, .slice p.pA p.pn p.pc] from rfl)) rfl ?_
                refine Ls_call Try.func18 nm18 rfl rfl (Sound_c w221 { x with a := bv } p ⟨(hm.inB hs).e, (hm.inB hs).k, (hm.inB hs).p⟩ hze hzk hzp) rfl ?_
                rintro v222 w223 ⟨rfl, hsQ224⟩
                replace hs := hs.trans hsQ224
                simp only [List.nil_append, List.cons_append] at hs
                refine Ls_run (run_move rfl) rfl ?_
                refine Ls_run (run_geq rfl rfl) rfl ?_
                refine Ls_run (run_move rfl) rfl ?_
                refine Ls_partP (t := 124) rfl (fun h225 => ?_) (fun h225 => ?_)
                · skip
                  refine Ls_on rfl rfl ?_
                  refine Ls_run (run_move rfl) rfl ?_
                  refine Ls_on rfl rfl ?_
                  refine Ls_run (run_leq rfl rfl) rfl ?_
                  refine Ls_run (run_pick_t rfl rfl) rfl ?_
                  refine Ls_run (run_asB (c := false) (run_neq_bool Try.underlying4 rfl rfl) (by first | exact ne_f (fun q => by have := (kinds_a hso).1 q; omega) | exact ne_d ((kinds_a hso).trans ⟨fun q => by omega, fun q => by omega⟩))) rfl ?_
                  refine Ls_nil ?_
                  refine Jm_seq ?_
                  refine St_iff rfl ?_
                  refine St_skip ?_
                  refine Jm_seq ?_
                  refine St_seq ?_
                  refine St_region ?_
                  refine Ls_run (run_as (run_load_agg agg26 inf26 rfl rfl (hs.blk_cells 1 rfl 0 9)) (show _ = Value.agg #[.int .i64 x.k, .int .i64 x.f, .int .i64 x.t, .int .i64 x.b, .int .i64 x.a, .int .i64 x.c, .slice p.eA p.en p.ec, .slice p.kA p.kn p.kc, .slice p.pA p.pn p.pc] from rfl)) rfl ?_
                  refine Ls_storeAgg hs inf26 rfl rfl rfl rfl (by simp [Value.oneCell']) ?_
                  intro w227 hs
                  refine Ls_nil ?_
                  refine Jm_seq ?_
                  refine St_seq ?_
                  refine St_region ?_
                  refine Ls_run (run_move rfl) rfl ?_
                  refine Ls_run (run_as (run_field Try.underlying26 rfl inf3 (by decide) rfl) (show _ = Value.pointer (some ⟨b13, 3, none⟩) from rfl)) rfl ?_
                  refine Ls_store hs inf3 rfl rfl rfl rfl ?_
                  intro w228 hs
                  try simp only [List.set_cons_zero, List.set_cons_succ] at hs
                  refine Ls_nil ?_
                  refine Jm_seq ?_
                  refine St_seq ?_
                  refine St_region ?_
                  refine Ls_run (run_as (run_load_agg agg26 inf26 rfl rfl (hs.blk_cells 0 rfl 0 9)) (show _ = Value.agg #[.int .i64 ({ x with b := bv } : MC).k, .int .i64 ({ x with b := bv } : MC).f, .int .i64 ({ x with b := bv } : MC).t, .int .i64 ({ x with b := bv } : MC).b, .int .i64 ({ x with b := bv } : MC).a, .int .i64 ({ x with b := bv } : MC).c, .slice p.eA p.en p.ec, .slice p.kA p.kn p.kc, .slice p.pA p.pn p.pc] from rfl)) rfl ?_
                  refine Ls_call Try.func18 nm18 rfl rfl (Sound_c w228 { x with b := bv } p ⟨(hm.inB hs).e, (hm.inB hs).k, (hm.inB hs).p⟩ hze hzk hzp) rfl ?_
                  rintro v229 w230 ⟨rfl, hsQ231⟩
                  replace hs := hs.trans hsQ231
                  simp only [List.nil_append, List.cons_append] at hs
                  refine Ls_run (run_move rfl) rfl ?_
                  refine Ls_run (run_geq rfl rfl) rfl ?_
                  refine Ls_run (run_move rfl) rfl ?_
                  refine Ls_partP (t := 136) rfl (fun h232 => ?_) (fun h232 => ?_)
                  · skip
                    refine Ls_on rfl rfl ?_
                    refine Ls_run (run_move rfl) rfl ?_
                    refine Ls_on rfl rfl ?_
                    refine Ls_run (run_leq rfl rfl) rfl ?_
                    refine Ls_run (run_pick_t rfl rfl) rfl ?_
                    refine Ls_run (run_asB (c := true) (run_eql_bool Try.underlying4 rfl rfl) (by first | exact eq_f (fun q => by have := (kinds_b hso).1 q; omega) | exact eq_d ((kinds_b hso).trans ⟨fun q => by omega, fun q => by omega⟩))) rfl ?_
                    refine Ls_run (run_assign rfl) rfl ?_
                    refine Ls_nil ?_
                    refine Jm_seq ?_
                    refine St_ret ?_
                    refine Jm_ret1 rfl rfl ?_
                    exact ⟨_, rfl, rfl, hs.below⟩
                  · skip
                    refine Ls_off rfl rfl rfl rfl ?_
                    refine Ls_off rfl rfl rfl rfl ?_
                    refine Ls_run (run_pick_f rfl rfl) rfl ?_
                    refine Ls_run (run_asB (c := true) (run_eql_bool Try.underlying4 rfl rfl) (by first | exact eq_f (fun q => by have := (kinds_b hso).1 q; omega) | exact eq_d ((kinds_b hso).trans ⟨fun q => by omega, fun q => by omega⟩))) rfl ?_
                    refine Ls_run (run_assign rfl) rfl ?_
                    refine Ls_nil ?_
                    refine Jm_seq ?_
                    refine St_ret ?_
                    refine Jm_ret1 rfl rfl ?_
                    exact ⟨_, rfl, rfl, hs.below⟩
                · skip
                  refine Ls_off rfl rfl rfl rfl ?_
                  refine Ls_off rfl rfl rfl rfl ?_
                  refine Ls_run (run_pick_f rfl rfl) rfl ?_
                  refine Ls_run (run_asB (c := false) (run_neq_bool Try.underlying4 rfl rfl) (by first | exact ne_f (fun q => by have := (kinds_a hso).1 q; omega) | exact ne_d ((kinds_a hso).trans ⟨fun q => by omega, fun q => by omega⟩))) rfl ?_
                  refine Ls_nil ?_
                  refine Jm_seq ?_
                  refine St_iff rfl ?_
                  refine St_skip ?_
                  refine Jm_seq ?_
                  refine St_seq ?_
                  refine St_region ?_
                  refine Ls_run (run_as (run_load_agg agg26 inf26 rfl rfl (hs.blk_cells 1 rfl 0 9)) (show _ = Value.agg #[.int .i64 x.k, .int .i64 x.f, .int .i64 x.t, .int .i64 x.b, .int .i64 x.a, .int .i64 x.c, .slice p.eA p.en p.ec, .slice p.kA p.kn p.kc, .slice p.pA p.pn p.pc] from rfl)) rfl ?_
                  refine Ls_storeAgg hs inf26 rfl rfl rfl rfl (by simp [Value.oneCell']) ?_
                  intro w234 hs
                  refine Ls_nil ?_
                  refine Jm_seq ?_
                  refine St_seq ?_
                  refine St_region ?_
                  refine Ls_run (run_move rfl) rfl ?_
                  refine Ls_run (run_as (run_field Try.underlying26 rfl inf3 (by decide) rfl) (show _ = Value.pointer (some ⟨b13, 3, none⟩) from rfl)) rfl ?_
                  refine Ls_store hs inf3 rfl rfl rfl rfl ?_
                  intro w235 hs
                  try simp only [List.set_cons_zero, List.set_cons_succ] at hs
                  refine Ls_nil ?_
                  refine Jm_seq ?_
                  refine St_seq ?_
                  refine St_region ?_
                  refine Ls_run (run_as (run_load_agg agg26 inf26 rfl rfl (hs.blk_cells 0 rfl 0 9)) (show _ = Value.agg #[.int .i64 ({ x with b := bv } : MC).k, .int .i64 ({ x with b := bv } : MC).f, .int .i64 ({ x with b := bv } : MC).t, .int .i64 ({ x with b := bv } : MC).b, .int .i64 ({ x with b := bv } : MC).a, .int .i64 ({ x with b := bv } : MC).c, .slice p.eA p.en p.ec, .slice p.kA p.kn p.kc, .slice p.pA p.pn p.pc] from rfl)) rfl ?_
                  refine Ls_call Try.func18 nm18 rfl rfl (Sound_c w235 { x with b := bv } p ⟨(hm.inB hs).e, (hm.inB hs).k, (hm.inB hs).p⟩ hze hzk hzp) rfl ?_
                  rintro v236 w237 ⟨rfl, hsQ238⟩
                  replace hs := hs.trans hsQ238
                  simp only [List.nil_append, List.cons_append] at hs
                  refine Ls_run (run_move rfl) rfl ?_
                  refine Ls_run (run_geq rfl rfl) rfl ?_
                  refine Ls_run (run_move rfl) rfl ?_
                  refine Ls_partP (t := 136) rfl (fun h239 => ?_) (fun h239 => ?_)
                  · skip
                    refine Ls_on rfl rfl ?_
                    refine Ls_run (run_move rfl) rfl ?_
                    refine Ls_on rfl rfl ?_
                    refine Ls_run (run_leq rfl rfl) rfl ?_
                    refine Ls_run (run_pick_t rfl rfl) rfl ?_
                    refine Ls_run (run_asB (c := true) (run_eql_bool Try.underlying4 rfl rfl) (by first | exact eq_f (fun q => by have := (kinds_b hso).1 q; omega) | exact eq_d ((kinds_b hso).trans ⟨fun q => by omega, fun q => by omega⟩))) rfl ?_
                    refine Ls_run (run_assign rfl) rfl ?_
                    refine Ls_nil ?_
                    refine Jm_seq ?_
                    refine St_ret ?_
                    refine Jm_ret1 rfl rfl ?_
                    exact ⟨_, rfl, rfl, hs.below⟩
                  · skip
                    refine Ls_off rfl rfl rfl rfl ?_
                    refine Ls_off rfl rfl rfl rfl ?_
                    refine Ls_run (run_pick_f rfl rfl) rfl ?_
                    refine Ls_run (run_asB (c := true) (run_eql_bool Try.underlying4 rfl rfl) (by first | exact eq_f (fun q => by have := (kinds_b hso).1 q; omega) | exact eq_d ((kinds_b hso).trans ⟨fun q => by omega, fun q => by omega⟩))) rfl ?_
                    refine Ls_run (run_assign rfl) rfl ?_
                    refine Ls_nil ?_
                    refine Jm_seq ?_
                    refine St_ret ?_
                    refine Jm_ret1 rfl rfl ?_
                    exact ⟨_, rfl, rfl, hs.below⟩
            · skip
              refine Ls_off rfl rfl rfl rfl ?_
              refine Ls_off rfl rfl rfl rfl ?_
              refine Ls_run (run_pick_f rfl rfl) rfl ?_
              refine Ls_run (run_asB (c := false) (run_neq_bool Try.underlying4 rfl rfl) (by first | exact ne_f (fun q => by have := (kinds_f hso).1 q; omega) | exact ne_d ((kinds_f hso).trans ⟨fun q => by omega, fun q => by omega⟩))) rfl ?_
              refine Ls_nil ?_
              refine Jm_seq ?_
              refine St_iff rfl ?_
              refine St_skip ?_
              refine Jm_seq ?_
              refine St_seq ?_
              refine St_region ?_
              refine Ls_run (run_as (run_load_agg agg26 inf26 rfl rfl (hs.blk_cells 1 rfl 0 9)) (show _ = Value.agg #[.int .i64 x.k, .int .i64 x.f, .int .i64 x.t, .int .i64 x.b, .int .i64 x.a, .int .i64 x.c, .slice p.eA p.en p.ec, .slice p.kA p.kn p.kc, .slice p.pA p.pn p.pc] from rfl)) rfl ?_
              refine Ls_storeAgg hs inf26 rfl rfl rfl rfl (by simp [Value.oneCell']) ?_
              intro w241 hs
              refine Ls_nil ?_
              refine Jm_seq ?_
              refine St_seq ?_
              refine St_region ?_
              refine Ls_run (run_move rfl) rfl ?_
              refine Ls_run (run_as (run_field Try.underlying26 rfl inf3 (by decide) rfl) (show _ = Value.pointer (some ⟨b13, 2, none⟩) from rfl)) rfl ?_
              refine Ls_store hs inf3 rfl rfl rfl rfl ?_
              intro w242 hs
              try simp only [List.set_cons_zero, List.set_cons_succ] at hs
              refine Ls_nil ?_
              refine Jm_seq ?_
              refine St_seq ?_
              refine St_seq ?_
              refine St_region ?_
              refine Ls_run (run_as (run_load_agg agg26 inf26 rfl rfl (hs.blk_cells 0 rfl 0 9)) (show _ = Value.agg #[.int .i64 ({ x with t := bv } : MC).k, .int .i64 ({ x with t := bv } : MC).f, .int .i64 ({ x with t := bv } : MC).t, .int .i64 ({ x with t := bv } : MC).b, .int .i64 ({ x with t := bv } : MC).a, .int .i64 ({ x with t := bv } : MC).c, .slice p.eA p.en p.ec, .slice p.kA p.kn p.kc, .slice p.pA p.pn p.pc] from rfl)) rfl ?_
              refine Ls_call Try.func18 nm18 rfl rfl (Sound_c w242 { x with t := bv } p ⟨(hm.inB hs).e, (hm.inB hs).k, (hm.inB hs).p⟩ hze hzk hzp) rfl ?_
              rintro v243 w244 ⟨rfl, hsQ245⟩
              replace hs := hs.trans hsQ245
              simp only [List.nil_append, List.cons_append] at hs
              refine Ls_run (run_move rfl) rfl ?_
              refine Ls_run (run_geq rfl rfl) rfl ?_
              refine Ls_run (run_move rfl) rfl ?_
              refine Ls_partP (t := 112) rfl (fun h246 => ?_) (fun h246 => ?_)
              · skip
                refine Ls_on rfl rfl ?_
                refine Ls_run (run_move rfl) rfl ?_
                refine Ls_on rfl rfl ?_
                refine Ls_run (run_lss rfl rfl) rfl ?_
                refine Ls_run (run_pick_t rfl rfl) rfl ?_
                refine Ls_run (run_asB (c := false) (run_neq_bool Try.underlying4 rfl rfl) (by first | exact ne_f (fun q => by have := (kinds_t hso).1 q; omega) | exact ne_d ((kinds_t hso).trans ⟨fun q => by omega, fun q => by omega⟩))) rfl ?_
                refine Ls_nil ?_
                refine Jm_seq ?_
                refine St_iff rfl ?_
                refine St_skip ?_
                refine Jm_seq ?_
                refine St_seq ?_
                refine St_region ?_
                refine Ls_run (run_as (run_load_agg agg26 inf26 rfl rfl (hs.blk_cells 1 rfl 0 9)) (show _ = Value.agg #[.int .i64 x.k, .int .i64 x.f, .int .i64 x.t, .int .i64 x.b, .int .i64 x.a, .int .i64 x.c, .slice p.eA p.en p.ec, .slice p.kA p.kn p.kc, .slice p.pA p.pn p.pc] from rfl)) rfl ?_
                refine Ls_storeAgg hs inf26 rfl rfl rfl rfl (by simp [Value.oneCell']) ?_
                intro w248 hs
                refine Ls_nil ?_
                refine Jm_seq ?_
                refine St_seq ?_
                refine St_region ?_
                refine Ls_run (run_move rfl) rfl ?_
                refine Ls_run (run_as (run_field Try.underlying26 rfl inf3 (by decide) rfl) (show _ = Value.pointer (some ⟨b13, 4, none⟩) from rfl)) rfl ?_
                refine Ls_store hs inf3 rfl rfl rfl rfl ?_
                intro w249 hs
                try simp only [List.set_cons_zero, List.set_cons_succ] at hs
                refine Ls_nil ?_
                refine Jm_seq ?_
                refine St_seq ?_
                refine St_seq ?_
                refine St_region ?_
                refine Ls_run (run_as (run_load_agg agg26 inf26 rfl rfl (hs.blk_cells 0 rfl 0 9)) (show _ = Value.agg #[.int .i64 ({ x with a := bv } : MC).k, .int .i64 ({ x with a := bv } : MC).f, .int .i64 ({ x with a := bv } : MC).t, .int .i64 ({ x with a := bv } : MC).b, .int .i64 ({ x with a := bv } : MC).a, .int .i64 ({ x with a := bv } : MC).c, .slice p.eA p.en p.ec, .slice p.kA p.kn p.kc, .slice p.pA p.pn p.pc] from rfl)) rfl ?_
                refine Ls_call Try.func18 nm18 rfl rfl (Sound_c w249 { x with a := bv } p ⟨(hm.inB hs).e, (hm.inB hs).k, (hm.inB hs).p⟩ hze hzk hzp) rfl ?_
                rintro v250 w251 ⟨rfl, hsQ252⟩
                replace hs := hs.trans hsQ252
                simp only [List.nil_append, List.cons_append] at hs
                refine Ls_run (run_move rfl) rfl ?_
                refine Ls_run (run_geq rfl rfl) rfl ?_
                refine Ls_run (run_move rfl) rfl ?_
                refine Ls_partP (t := 124) rfl (fun h253 => ?_) (fun h253 => ?_)
                · skip
                  refine Ls_on rfl rfl ?_
                  refine Ls_run (run_move rfl) rfl ?_
                  refine Ls_on rfl rfl ?_
                  refine Ls_run (run_leq rfl rfl) rfl ?_
                  refine Ls_run (run_pick_t rfl rfl) rfl ?_
                  refine Ls_run (run_asB (c := false) (run_neq_bool Try.underlying4 rfl rfl) (by first | exact ne_f (fun q => by have := (kinds_a hso).1 q; omega) | exact ne_d ((kinds_a hso).trans ⟨fun q => by omega, fun q => by omega⟩))) rfl ?_
                  refine Ls_nil ?_
                  refine Jm_seq ?_
                  refine St_iff rfl ?_
                  refine St_skip ?_
                  refine Jm_seq ?_
                  refine St_seq ?_
                  refine St_region ?_
                  refine Ls_run (run_as (run_load_agg agg26 inf26 rfl rfl (hs.blk_cells 1 rfl 0 9)) (show _ = Value.agg #[.int .i64 x.k, .int .i64 x.f, .int .i64 x.t, .int .i64 x.b, .int .i64 x.a, .int .i64 x.c, .slice p.eA p.en p.ec, .slice p.kA p.kn p.kc, .slice p.pA p.pn p.pc] from rfl)) rfl ?_
                  refine Ls_storeAgg hs inf26 rfl rfl rfl rfl (by simp [Value.oneCell']) ?_
                  intro w255 hs
                  refine Ls_nil ?_
                  refine Jm_seq ?_
                  refine St_seq ?_
                  refine St_region ?_
                  refine Ls_run (run_move rfl) rfl ?_
                  refine Ls_run (run_as (run_field Try.underlying26 rfl inf3 (by decide) rfl) (show _ = Value.pointer (some ⟨b13, 3, none⟩) from rfl)) rfl ?_
                  refine Ls_store hs inf3 rfl rfl rfl rfl ?_
                  intro w256 hs
                  try simp only [List.set_cons_zero, List.set_cons_succ] at hs
                  refine Ls_nil ?_
                  refine Jm_seq ?_
                  refine St_seq ?_
                  refine St_region ?_
                  refine Ls_run (run_as (run_load_agg agg26 inf26 rfl rfl (hs.blk_cells 0 rfl 0 9)) (show _ = Value.agg #[.int .i64 ({ x with b := bv } : MC).k, .int .i64 ({ x with b := bv } : MC).f, .int .i64 ({ x with b := bv } : MC).t, .int .i64 ({ x with b := bv } : MC).b, .int .i64 ({ x with b := bv } : MC).a, .int .i64 ({ x with b := bv } : MC).c, .slice p.eA p.en p.ec, .slice p.kA p.kn p.kc, .slice p.pA p.pn p.pc] from rfl)) rfl ?_
                  refine Ls_call Try.func18 nm18 rfl rfl (Sound_c w256 { x with b := bv } p ⟨(hm.inB hs).e, (hm.inB hs).k, (hm.inB hs).p⟩ hze hzk hzp) rfl ?_
                  rintro v257 w258 ⟨rfl, hsQ259⟩
                  replace hs := hs.trans hsQ259
                  simp only [List.nil_append, List.cons_append] at hs
                  refine Ls_run (run_move rfl) rfl ?_
                  refine Ls_run (run_geq rfl rfl) rfl ?_
                  refine Ls_run (run_move rfl) rfl ?_
                  refine Ls_partP (t := 136) rfl (fun h260 => ?_) (fun h260 => ?_)
                  · skip
                    refine Ls_on rfl rfl ?_
                    refine Ls_run (run_move rfl) rfl ?_
                    refine Ls_on rfl rfl ?_
                    refine Ls_run (run_leq rfl rfl) rfl ?_
                    refine Ls_run (run_pick_t rfl rfl) rfl ?_
                    refine Ls_run (run_asB (c := true) (run_eql_bool Try.underlying4 rfl rfl) (by first | exact eq_f (fun q => by have := (kinds_b hso).1 q; omega) | exact eq_d ((kinds_b hso).trans ⟨fun q => by omega, fun q => by omega⟩))) rfl ?_
                    refine Ls_run (run_assign rfl) rfl ?_
                    refine Ls_nil ?_
                    refine Jm_seq ?_
                    refine St_ret ?_
                    refine Jm_ret1 rfl rfl ?_
                    exact ⟨_, rfl, rfl, hs.below⟩
                  · skip
                    refine Ls_off rfl rfl rfl rfl ?_
                    refine Ls_off rfl rfl rfl rfl ?_
                    refine Ls_run (run_pick_f rfl rfl) rfl ?_
                    refine Ls_run (run_asB (c := true) (run_eql_bool Try.underlying4 rfl rfl) (by first | exact eq_f (fun q => by have := (kinds_b hso).1 q; omega) | exact eq_d ((kinds_b hso).trans ⟨fun q => by omega, fun q => by omega⟩))) rfl ?_
                    refine Ls_run (run_assign rfl) rfl ?_
                    refine Ls_nil ?_
                    refine Jm_seq ?_
                    refine St_ret ?_
                    refine Jm_ret1 rfl rfl ?_
                    exact ⟨_, rfl, rfl, hs.below⟩
                · skip
                  refine Ls_off rfl rfl rfl rfl ?_
                  refine Ls_off rfl rfl rfl rfl ?_
                  refine Ls_run (run_pick_f rfl rfl) rfl ?_
                  refine Ls_run (run_asB (c := false) (run_neq_bool Try.underlying4 rfl rfl) (by first | exact ne_f (fun q => by have := (kinds_a hso).1 q; omega) | exact ne_d ((kinds_a hso).trans ⟨fun q => by omega, fun q => by omega⟩))) rfl ?_
                  refine Ls_nil ?_
                  refine Jm_seq ?_
                  refine St_iff rfl ?_
                  refine St_skip ?_
                  refine Jm_seq ?_
                  refine St_seq ?_
                  refine St_region ?_
                  refine Ls_run (run_as (run_load_agg agg26 inf26 rfl rfl (hs.blk_cells 1 rfl 0 9)) (show _ = Value.agg #[.int .i64 x.k, .int .i64 x.f, .int .i64 x.t, .int .i64 x.b, .int .i64 x.a, .int .i64 x.c, .slice p.eA p.en p.ec, .slice p.kA p.kn p.kc, .slice p.pA p.pn p.pc] from rfl)) rfl ?_
                  refine Ls_storeAgg hs inf26 rfl rfl rfl rfl (by simp [Value.oneCell']) ?_
                  intro w262 hs
                  refine Ls_nil ?_
                  refine Jm_seq ?_
                  refine St_seq ?_
                  refine St_region ?_
                  refine Ls_run (run_move rfl) rfl ?_
                  refine Ls_run (run_as (run_field Try.underlying26 rfl inf3 (by decide) rfl) (show _ = Value.pointer (some ⟨b13, 3, none⟩) from rfl)) rfl ?_
                  refine Ls_store hs inf3 rfl rfl rfl rfl ?_
                  intro w263 hs
                  try simp only [List.set_cons_zero, List.set_cons_succ] at hs
                  refine Ls_nil ?_
                  refine Jm_seq ?_
                  refine St_seq ?_
                  refine St_region ?_
                  refine Ls_run (run_as (run_load_agg agg26 inf26 rfl rfl (hs.blk_cells 0 rfl 0 9)) (show _ = Value.agg #[.int .i64 ({ x with b := bv } : MC).k, .int .i64 ({ x with b := bv } : MC).f, .int .i64 ({ x with b := bv } : MC).t, .int .i64 ({ x with b := bv } : MC).b, .int .i64 ({ x with b := bv } : MC).a, .int .i64 ({ x with b := bv } : MC).c, .slice p.eA p.en p.ec, .slice p.kA p.kn p.kc, .slice p.pA p.pn p.pc] from rfl)) rfl ?_
                  refine Ls_call Try.func18 nm18 rfl rfl (Sound_c w263 { x with b := bv } p ⟨(hm.inB hs).e, (hm.inB hs).k, (hm.inB hs).p⟩ hze hzk hzp) rfl ?_
                  rintro v264 w265 ⟨rfl, hsQ266⟩
                  replace hs := hs.trans hsQ266
                  simp only [List.nil_append, List.cons_append] at hs
                  refine Ls_run (run_move rfl) rfl ?_
                  refine Ls_run (run_geq rfl rfl) rfl ?_
                  refine Ls_run (run_move rfl) rfl ?_
                  refine Ls_partP (t := 136) rfl (fun h267 => ?_) (fun h267 => ?_)
                  · skip
                    refine Ls_on rfl rfl ?_
                    refine Ls_run (run_move rfl) rfl ?_
                    refine Ls_on rfl rfl ?_
                    refine Ls_run (run_leq rfl rfl) rfl ?_
                    refine Ls_run (run_pick_t rfl rfl) rfl ?_
                    refine Ls_run (run_asB (c := true) (run_eql_bool Try.underlying4 rfl rfl) (by first | exact eq_f (fun q => by have := (kinds_b hso).1 q; omega) | exact eq_d ((kinds_b hso).trans ⟨fun q => by omega, fun q => by omega⟩))) rfl ?_
                    refine Ls_run (run_assign rfl) rfl ?_
                    refine Ls_nil ?_
                    refine Jm_seq ?_
                    refine St_ret ?_
                    refine Jm_ret1 rfl rfl ?_
                    exact ⟨_, rfl, rfl, hs.below⟩
                  · skip
                    refine Ls_off rfl rfl rfl rfl ?_
                    refine Ls_off rfl rfl rfl rfl ?_
                    refine Ls_run (run_pick_f rfl rfl) rfl ?_
                    refine Ls_run (run_asB (c := true) (run_eql_bool Try.underlying4 rfl rfl) (by first | exact eq_f (fun q => by have := (kinds_b hso).1 q; omega) | exact eq_d ((kinds_b hso).trans ⟨fun q => by omega, fun q => by omega⟩))) rfl ?_
                    refine Ls_run (run_assign rfl) rfl ?_
                    refine Ls_nil ?_
                    refine Jm_seq ?_
                    refine St_ret ?_
                    refine Jm_ret1 rfl rfl ?_
                    exact ⟨_, rfl, rfl, hs.below⟩
              · skip
                refine Ls_off rfl rfl rfl rfl ?_
                refine Ls_off rfl rfl rfl rfl ?_
                refine Ls_run (run_pick_f rfl rfl) rfl ?_
                refine Ls_run (run_asB (c := false) (run_neq_bool Try.underlying4 rfl rfl) (by first | exact ne_f (fun q => by have := (kinds_t hso).1 q; omega) | exact ne_d ((kinds_t hso).trans ⟨fun q => by omega, fun q => by omega⟩))) rfl ?_
                refine Ls_nil ?_
                refine Jm_seq ?_
                refine St_iff rfl ?_
                refine St_skip ?_
                refine Jm_seq ?_
                refine St_seq ?_
                refine St_region ?_
                refine Ls_run (run_as (run_load_agg agg26 inf26 rfl rfl (hs.blk_cells 1 rfl 0 9)) (show _ = Value.agg #[.int .i64 x.k, .int .i64 x.f, .int .i64 x.t, .int .i64 x.b, .int .i64 x.a, .int .i64 x.c, .slice p.eA p.en p.ec, .slice p.kA p.kn p.kc, .slice p.pA p.pn p.pc] from rfl)) rfl ?_
                refine Ls_storeAgg hs inf26 rfl rfl rfl rfl (by simp [Value.oneCell']) ?_
                intro w269 hs
                refine Ls_nil ?_
                refine Jm_seq ?_
                refine St_seq ?_
                refine St_region ?_
                refine Ls_run (run_move rfl) rfl ?_
                refine Ls_run (run_as (run_field Try.underlying26 rfl inf3 (by decide) rfl) (show _ = Value.pointer (some ⟨b13, 4, none⟩) from rfl)) rfl ?_
                refine Ls_store hs inf3 rfl rfl rfl rfl ?_
                intro w270 hs
                try simp only [List.set_cons_zero, List.set_cons_succ] at hs
                refine Ls_nil ?_
                refine Jm_seq ?_
                refine St_seq ?_
                refine St_seq ?_
                refine St_region ?_
                refine Ls_run (run_as (run_load_agg agg26 inf26 rfl rfl (hs.blk_cells 0 rfl 0 9)) (show _ = Value.agg #[.int .i64 ({ x with a := bv } : MC).k, .int .i64 ({ x with a := bv } : MC).f, .int .i64 ({ x with a := bv } : MC).t, .int .i64 ({ x with a := bv } : MC).b, .int .i64 ({ x with a := bv } : MC).a, .int .i64 ({ x with a := bv } : MC).c, .slice p.eA p.en p.ec, .slice p.kA p.kn p.kc, .slice p.pA p.pn p.pc] from rfl)) rfl ?_
                refine Ls_call Try.func18 nm18 rfl rfl (Sound_c w270 { x with a := bv } p ⟨(hm.inB hs).e, (hm.inB hs).k, (hm.inB hs).p⟩ hze hzk hzp) rfl ?_
                rintro v271 w272 ⟨rfl, hsQ273⟩
                replace hs := hs.trans hsQ273
                simp only [List.nil_append, List.cons_append] at hs
                refine Ls_run (run_move rfl) rfl ?_
                refine Ls_run (run_geq rfl rfl) rfl ?_
                refine Ls_run (run_move rfl) rfl ?_
                refine Ls_partP (t := 124) rfl (fun h274 => ?_) (fun h274 => ?_)
                · skip
                  refine Ls_on rfl rfl ?_
                  refine Ls_run (run_move rfl) rfl ?_
                  refine Ls_on rfl rfl ?_
                  refine Ls_run (run_leq rfl rfl) rfl ?_
                  refine Ls_run (run_pick_t rfl rfl) rfl ?_
                  refine Ls_run (run_asB (c := false) (run_neq_bool Try.underlying4 rfl rfl) (by first | exact ne_f (fun q => by have := (kinds_a hso).1 q; omega) | exact ne_d ((kinds_a hso).trans ⟨fun q => by omega, fun q => by omega⟩))) rfl ?_
                  refine Ls_nil ?_
                  refine Jm_seq ?_
                  refine St_iff rfl ?_
                  refine St_skip ?_
                  refine Jm_seq ?_
                  refine St_seq ?_
                  refine St_region ?_
                  refine Ls_run (run_as (run_load_agg agg26 inf26 rfl rfl (hs.blk_cells 1 rfl 0 9)) (show _ = Value.agg #[.int .i64 x.k, .int .i64 x.f, .int .i64 x.t, .int .i64 x.b, .int .i64 x.a, .int .i64 x.c, .slice p.eA p.en p.ec, .slice p.kA p.kn p.kc, .slice p.pA p.pn p.pc] from rfl)) rfl ?_
                  refine Ls_storeAgg hs inf26 rfl rfl rfl rfl (by simp [Value.oneCell']) ?_
                  intro w276 hs
                  refine Ls_nil ?_
                  refine Jm_seq ?_
                  refine St_seq ?_
                  refine St_region ?_
                  refine Ls_run (run_move rfl) rfl ?_
                  refine Ls_run (run_as (run_field Try.underlying26 rfl inf3 (by decide) rfl) (show _ = Value.pointer (some ⟨b13, 3, none⟩) from rfl)) rfl ?_
                  refine Ls_store hs inf3 rfl rfl rfl rfl ?_
                  intro w277 hs
                  try simp only [List.set_cons_zero, List.set_cons_succ] at hs
                  refine Ls_nil ?_
                  refine Jm_seq ?_
                  refine St_seq ?_
                  refine St_region ?_
                  refine Ls_run (run_as (run_load_agg agg26 inf26 rfl rfl (hs.blk_cells 0 rfl 0 9)) (show _ = Value.agg #[.int .i64 ({ x with b := bv } : MC).k, .int .i64 ({ x with b := bv } : MC).f, .int .i64 ({ x with b := bv } : MC).t, .int .i64 ({ x with b := bv } : MC).b, .int .i64 ({ x with b := bv } : MC).a, .int .i64 ({ x with b := bv } : MC).c, .slice p.eA p.en p.ec, .slice p.kA p.kn p.kc, .slice p.pA p.pn p.pc] from rfl)) rfl ?_
                  refine Ls_call Try.func18 nm18 rfl rfl (Sound_c w277 { x with b := bv } p ⟨(hm.inB hs).e, (hm.inB hs).k, (hm.inB hs).p⟩ hze hzk hzp) rfl ?_
                  rintro v278 w279 ⟨rfl, hsQ280⟩
                  replace hs := hs.trans hsQ280
                  simp only [List.nil_append, List.cons_append] at hs
                  refine Ls_run (run_move rfl) rfl ?_
                  refine Ls_run (run_geq rfl rfl) rfl ?_
                  refine Ls_run (run_move rfl) rfl ?_
                  refine Ls_partP (t := 136) rfl (fun h281 => ?_) (fun h281 => ?_)
                  · skip
                    refine Ls_on rfl rfl ?_
                    refine Ls_run (run_move rfl) rfl ?_
                    refine Ls_on rfl rfl ?_
                    refine Ls_run (run_leq rfl rfl) rfl ?_
                    refine Ls_run (run_pick_t rfl rfl) rfl ?_
                    refine Ls_run (run_asB (c := true) (run_eql_bool Try.underlying4 rfl rfl) (by first | exact eq_f (fun q => by have := (kinds_b hso).1 q; omega) | exact eq_d ((kinds_b hso).trans ⟨fun q => by omega, fun q => by omega⟩))) rfl ?_
                    refine Ls_run (run_assign rfl) rfl ?_
                    refine Ls_nil ?_
                    refine Jm_seq ?_
                    refine St_ret ?_
                    refine Jm_ret1 rfl rfl ?_
                    exact ⟨_, rfl, rfl, hs.below⟩
                  · skip
                    refine Ls_off rfl rfl rfl rfl ?_
                    refine Ls_off rfl rfl rfl rfl ?_
                    refine Ls_run (run_pick_f rfl rfl) rfl ?_
                    refine Ls_run (run_asB (c := true) (run_eql_bool Try.underlying4 rfl rfl) (by first | exact eq_f (fun q => by have := (kinds_b hso).1 q; omega) | exact eq_d ((kinds_b hso).trans ⟨fun q => by omega, fun q => by omega⟩))) rfl ?_
                    refine Ls_run (run_assign rfl) rfl ?_
                    refine Ls_nil ?_
                    refine Jm_seq ?_
                    refine St_ret ?_
                    refine Jm_ret1 rfl rfl ?_
                    exact ⟨_, rfl, rfl, hs.below⟩
                · skip
                  refine Ls_off rfl rfl rfl rfl ?_
                  refine Ls_off rfl rfl rfl rfl ?_
                  refine Ls_run (run_pick_f rfl rfl) rfl ?_
                  refine Ls_run (run_asB (c := false) (run_neq_bool Try.underlying4 rfl rfl) (by first | exact ne_f (fun q => by have := (kinds_a hso).1 q; omega) | exact ne_d ((kinds_a hso).trans ⟨fun q => by omega, fun q => by omega⟩))) rfl ?_
                  refine Ls_nil ?_
                  refine Jm_seq ?_
                  refine St_iff rfl ?_
                  refine St_skip ?_
                  refine Jm_seq ?_
                  refine St_seq ?_
                  refine St_region ?_
                  refine Ls_run (run_as (run_load_agg agg26 inf26 rfl rfl (hs.blk_cells 1 rfl 0 9)) (show _ = Value.agg #[.int .i64 x.k, .int .i64 x.f, .int .i64 x.t, .int .i64 x.b, .int .i64 x.a, .int .i64 x.c, .slice p.eA p.en p.ec, .slice p.kA p.kn p.kc, .slice p.pA p.pn p.pc] from rfl)) rfl ?_
                  refine Ls_storeAgg hs inf26 rfl rfl rfl rfl (by simp [Value.oneCell']) ?_
                  intro w283 hs
                  refine Ls_nil ?_
                  refine Jm_seq ?_
                  refine St_seq ?_
                  refine St_region ?_
                  refine Ls_run (run_move rfl) rfl ?_
                  refine Ls_run (run_as (run_field Try.underlying26 rfl inf3 (by decide) rfl) (show _ = Value.pointer (some ⟨b13, 3, none⟩) from rfl)) rfl ?_
                  refine Ls_store hs inf3 rfl rfl rfl rfl ?_
                  intro w284 hs
                  try simp only [List.set_cons_zero, List.set_cons_succ] at hs
                  refine Ls_nil ?_
                  refine Jm_seq ?_
                  refine St_seq ?_
                  refine St_region ?_
                  refine Ls_run (run_as (run_load_agg agg26 inf26 rfl rfl (hs.blk_cells 0 rfl 0 9)) (show _ = Value.agg #[.int .i64 ({ x with b := bv } : MC).k, .int .i64 ({ x with b := bv } : MC).f, .int .i64 ({ x with b := bv } : MC).t, .int .i64 ({ x with b := bv } : MC).b, .int .i64 ({ x with b := bv } : MC).a, .int .i64 ({ x with b := bv } : MC).c, .slice p.eA p.en p.ec, .slice p.kA p.kn p.kc, .slice p.pA p.pn p.pc] from rfl)) rfl ?_
                  refine Ls_call Try.func18 nm18 rfl rfl (Sound_c w284 { x with b := bv } p ⟨(hm.inB hs).e, (hm.inB hs).k, (hm.inB hs).p⟩ hze hzk hzp) rfl ?_
                  rintro v285 w286 ⟨rfl, hsQ287⟩
                  replace hs := hs.trans hsQ287
                  simp only [List.nil_append, List.cons_append] at hs
                  refine Ls_run (run_move rfl) rfl ?_
                  refine Ls_run (run_geq rfl rfl) rfl ?_
                  refine Ls_run (run_move rfl) rfl ?_
                  refine Ls_partP (t := 136) rfl (fun h288 => ?_) (fun h288 => ?_)
                  · skip
                    refine Ls_on rfl rfl ?_
                    refine Ls_run (run_move rfl) rfl ?_
                    refine Ls_on rfl rfl ?_
                    refine Ls_run (run_leq rfl rfl) rfl ?_
                    refine Ls_run (run_pick_t rfl rfl) rfl ?_
                    refine Ls_run (run_asB (c := true) (run_eql_bool Try.underlying4 rfl rfl) (by first | exact eq_f (fun q => by have := (kinds_b hso).1 q; omega) | exact eq_d ((kinds_b hso).trans ⟨fun q => by omega, fun q => by omega⟩))) rfl ?_
                    refine Ls_run (run_assign rfl) rfl ?_
                    refine Ls_nil ?_
                    refine Jm_seq ?_
                    refine St_ret ?_
                    refine Jm_ret1 rfl rfl ?_
                    exact ⟨_, rfl, rfl, hs.below⟩
                  · skip
                    refine Ls_off rfl rfl rfl rfl ?_
                    refine Ls_off rfl rfl rfl rfl ?_
                    refine Ls_run (run_pick_f rfl rfl) rfl ?_
                    refine Ls_run (run_asB (c := true) (run_eql_bool Try.underlying4 rfl rfl) (by first | exact eq_f (fun q => by have := (kinds_b hso).1 q; omega) | exact eq_d ((kinds_b hso).trans ⟨fun q => by omega, fun q => by omega⟩))) rfl ?_
                    refine Ls_run (run_assign rfl) rfl ?_
                    refine Ls_nil ?_
                    refine Jm_seq ?_
                    refine St_ret ?_
                    refine Jm_ret1 rfl rfl ?_
                    exact ⟨_, rfl, rfl, hs.below⟩
end Go.Proofs.Ytipkfdeiallifaa.Lg
