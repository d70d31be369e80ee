/-
  The journal's Save, walked. By program (gen/jour3.py).
-/
import Derived.Test.YtpmkedgennnekaaJour2
set_option linter.unusedVariables false
set_option linter.unusedSimpArgs false
namespace Go.Proofs.Ytpmkedgennnekaa.Lg
open Go Go.RowKit Go.Proofs.Ytpmkedgennnekaa.WirePure
set_option maxRecDepth 100000 in
set_option maxHeartbeats 1000000 in
theorem Save_c (B w : World) (L : List Assn) (bj b : Nat) (j : JSt) (d : DSt) (hs : Sat B w (JA 98 3 bj (some ⟨b, 0, none⟩) j :: DiskA 85 31 5 b d :: L)) (hjo : JOk j) (hdok : ∀ x ∈ d.bl, IsBytes x ∧ x.length ≤ 1024) (n : NSt) (Np : Option Addr) (np : Nat) (Nc : Option Addr) (nc : Nat) (hrp : ∀ w' X, Sat B w' (X :: L) → Rd w' Np n.prev.length np 1 (KI.flat n.prev)) (hrc : ∀ w' X, Sat B w' (X :: L) → Rd w' Nc n.cur.length nc 1 (KI.flat n.cur)) (hzn : n.prev.length ≤ 9223372036854775807 ∧ n.cur.length ≤ 9223372036854775807) :
    Calls Try.prog 35 [.pointer (some ⟨bj, 0, none⟩), .agg #[.int .i64 n.batch, .slice Np n.prev.length np, .slice Nc n.cur.length nc, .int .i64 n.att]].toArray w (Ret (fun v' w' => v' = .int .i64 (jsave j d n).1 ∧ Sat B w' (JA 98 3 bj (some ⟨b, 0, none⟩) (jsave j d n).2.1 :: DiskA 85 31 5 b (jsave j d n).2.2 :: L))) := by
  obtain ⟨Ap, cp, Ac, cc, hs⟩ := hs.jopen
  have hlen := noteOk_len hjo.1
  have hp4 := hjo.2.2.1
  have hz : j.n.prev.length ≤ 1073741824 ∧ j.n.cur.length ≤ 1073741824 := by omega
  have eg : (jend j d).gen = j.gen := rfl
  have es : (jend j d).slot = j.slot := rfl
  have hgl := hjo.2.2.2.1
  have hgh := hjo.2.2.2.2.1
  have hsl := hjo.2.2.2.2.2
  refine Calls_body Try.func35 rfl rfl rfl (envE_cons (i := 0) (v := .pointer (some ⟨bj, 0, none⟩)) rfl (envE_cons (i := 1) (v := .agg #[.int .i64 n.batch, .slice Np n.prev.length np, .slice Nc n.cur.length nc, .int .i64 n.att]) rfl envE_nil)) ?_
  refine St_seq ?_
  refine St_region ?_
  refine Ls_box hs rfl rfl ?_
  intro b2 w1 hs
  refine Ls_run (run_assign rfl) rfl ?_
  refine Ls_nil ?_
  refine Jm_seq ?_
  refine St_seq ?_
  refine St_seq ?_
  refine St_region ?_
  refine Ls_run (run_move rfl) rfl ?_
  refine Ls_run (run_asB (c := false) (run_eql_ptr_nil Try.underlying59 rfl rfl) rfl) rfl ?_
  refine Ls_nil ?_
  refine Jm_seq ?_
  refine St_iff rfl ?_
  refine St_skip ?_
  refine Jm_seq ?_
  refine St_seq ?_
  obtain ⟨En4, hEn4⟩ : ∃ F : Nat → Env, ∀ (z : Nat), F z = [(0, .pointer (some ⟨bj, 0, none⟩)), (3, .pointer (some ⟨b2, 0, none⟩))] := ⟨(fun (z : Nat) => [(0, .pointer (some ⟨bj, 0, none⟩)), (3, .pointer (some ⟨b2, 0, none⟩))]), fun _ => rfl⟩
  obtain ⟨Iv5, hIv5⟩ : ∃ F : Nat → World → Prop, ∀ (z : Nat) (w6 : World), F z w6 = (Sat B w6 (Blk b2 [.int .i64 n.batch, .slice Np n.prev.length np, .slice Nc n.cur.length nc, .int .i64 n.att] 66 :: Blk bj (jcells (some ⟨b, 0, none⟩) (jend j d) Ap cp Ac cc) 98 :: Own 3 1 (.slice Ap j.n.prev.length cp) j.n.prev.length (KI.flat j.n.prev) :: Own 3 1 (.slice Ac j.n.cur.length cc) j.n.cur.length (KI.flat j.n.cur) :: DiskA 85 31 5 b d :: L)) := ⟨(fun (z : Nat) => fun (w6 : World) => Sat B w6 (Blk b2 [.int .i64 n.batch, .slice Np n.prev.length np, .slice Nc n.cur.length nc, .int .i64 n.att] 66 :: Blk bj (jcells (some ⟨b, 0, none⟩) (jend j d) Ap cp Ac cc) 98 :: Own 3 1 (.slice Ap j.n.prev.length cp) j.n.prev.length (KI.flat j.n.prev) :: Own 3 1 (.slice Ac j.n.cur.length cc) j.n.cur.length (KI.flat j.n.cur) :: DiskA 85 31 5 b d :: L)), fun _ _ => rfl⟩
  refine St_join En4 Iv5 ?_ ?_
  · skip
    refine St_region ?_
    refine Ls_run (run_move rfl) rfl ?_
    refine Ls_run (run_move rfl) rfl ?_
    refine Ls_run (run_nilCheck rfl) rfl ?_
    refine Ls_run (run_as (run_field Try.underlying98 rfl inf4 (by decide) rfl) (show _ = Value.pointer (some ⟨bj, 8, none⟩) from rfl)) rfl ?_
    refine Ls_run (run_load sc4 rfl (hs.blk_at 1 rfl 8 rfl)) rfl ?_
    refine Ls_run (run_move rfl) rfl ?_
    refine Ls_part (t := 14) rfl (fun h7 => ?_) (fun h7 => ?_)
    · skip
      refine Ls_off rfl rfl rfl rfl ?_
      refine Ls_off rfl rfl rfl rfl ?_
      refine Ls_off rfl rfl rfl rfl ?_
      refine Ls_off rfl rfl rfl rfl ?_
      refine Ls_off rfl rfl rfl rfl ?_
      refine Ls_run (run_pick_t rfl rfl) rfl ?_
      refine Ls_run (run_nilCheck rfl) rfl ?_
      refine Ls_run (run_as (run_field Try.underlying98 rfl inf4 (by decide) rfl) (show _ = Value.pointer (some ⟨bj, 8, none⟩) from rfl)) rfl ?_
      replace hs := hs.front 1 rfl
      simp only [List.cons_append, List.nil_append, List.eraseIdx_cons_zero, List.eraseIdx_cons_succ] at hs
      refine Ls_store hs inf4 rfl rfl rfl rfl ?_
      intro w9 hs
      try simp only [List.set_cons_zero, List.set_cons_succ] at hs
      refine Ls_nil ?_
      replace hs := hs.front 4 rfl
      simp only [List.cons_append, List.nil_append, List.eraseIdx_cons_zero, List.eraseIdx_cons_succ] at hs
      replace hs := hs.front 4 rfl
      simp only [List.cons_append, List.nil_append, List.eraseIdx_cons_zero, List.eraseIdx_cons_succ] at hs
      replace hs := hs.front 4 rfl
      simp only [List.cons_append, List.nil_append, List.eraseIdx_cons_zero, List.eraseIdx_cons_succ] at hs
      replace hs := hs.front 3 rfl
      simp only [List.cons_append, List.nil_append, List.eraseIdx_cons_zero, List.eraseIdx_cons_succ] at hs
      replace hs := hs.front 4 rfl
      simp only [List.cons_append, List.nil_append, List.eraseIdx_cons_zero, List.eraseIdx_cons_succ] at hs
      refine Jm_join 0 ?_ ?_
      · rw [hEn4]; exact (subE_cons rfl (subE_cons rfl subE_nil))
      · skip
        rw [hIv5]
        first | (have e6 : jcells (some ⟨b, 0, none⟩) (jend j d) Ap cp Ac cc = (jcells (some ⟨b, 0, none⟩) j Ap cp Ac cc).set 8 (.bool true) := (by simp [jcells, jend, *]); rw [e6]; exact hs) | (have e6 : jcells (some ⟨b, 0, none⟩) (jend j d) Ap cp Ac cc = (jcells (some ⟨b, 0, none⟩) j Ap cp Ac cc).set 8 (.bool d.down) := (by simp [jcells, jend, *]); rw [e6]; exact hs)
    · skip
      refine Ls_on rfl rfl ?_
      refine Ls_run (run_move rfl) rfl ?_
      refine Ls_on rfl rfl ?_
      refine Ls_run (run_nilCheck rfl) rfl ?_
      refine Ls_on rfl rfl ?_
      refine Ls_run (run_as (run_field Try.underlying98 rfl inf24 (by decide) rfl) (show _ = Value.pointer (some ⟨bj, 0, none⟩) from rfl)) rfl ?_
      refine Ls_on rfl rfl ?_
      refine Ls_run (run_load sc24 rfl (hs.blk_at 1 rfl 0 rfl)) rfl ?_
      refine Ls_on rfl rfl ?_
      replace hs := hs.front 4 rfl
      simp only [List.cons_append, List.nil_append, List.eraseIdx_cons_zero, List.eraseIdx_cons_succ] at hs
      obtain ⟨A0, c0, hd0⟩ := hs.dhd
      refine Ls_call Try.func16 nm16 rfl rfl (Down_c w1 b d A0 c0 hd0) rfl ?_
      rintro v10 w11 ⟨rfl, rfl⟩
      refine Ls_run (run_pick_f rfl rfl) rfl ?_
      refine Ls_run (run_nilCheck rfl) rfl ?_
      refine Ls_run (run_as (run_field Try.underlying98 rfl inf4 (by decide) rfl) (show _ = Value.pointer (some ⟨bj, 8, none⟩) from rfl)) rfl ?_
      replace hs := hs.front 2 rfl
      simp only [List.cons_append, List.nil_append, List.eraseIdx_cons_zero, List.eraseIdx_cons_succ] at hs
      refine Ls_store hs inf4 rfl rfl rfl rfl ?_
      intro w12 hs
      try simp only [List.set_cons_zero, List.set_cons_succ] at hs
      refine Ls_nil ?_
      replace hs := hs.front 1 rfl
      simp only [List.cons_append, List.nil_append, List.eraseIdx_cons_zero, List.eraseIdx_cons_succ] at hs
      replace hs := hs.front 4 rfl
      simp only [List.cons_append, List.nil_append, List.eraseIdx_cons_zero, List.eraseIdx_cons_succ] at hs
      replace hs := hs.front 4 rfl
      simp only [List.cons_append, List.nil_append, List.eraseIdx_cons_zero, List.eraseIdx_cons_succ] at hs
      replace hs := hs.front 3 rfl
      simp only [List.cons_append, List.nil_append, List.eraseIdx_cons_zero, List.eraseIdx_cons_succ] at hs
      replace hs := hs.front 4 rfl
      simp only [List.cons_append, List.nil_append, List.eraseIdx_cons_zero, List.eraseIdx_cons_succ] at hs
      refine Jm_join 0 ?_ ?_
      · rw [hEn4]; exact (subE_cons rfl (subE_cons rfl subE_nil))
      · skip
        rw [hIv5]
        first | (have e6 : jcells (some ⟨b, 0, none⟩) (jend j d) Ap cp Ac cc = (jcells (some ⟨b, 0, none⟩) j Ap cp Ac cc).set 8 (.bool true) := (by simp [jcells, jend, *]); rw [e6]; exact hs) | (have e6 : jcells (some ⟨b, 0, none⟩) (jend j d) Ap cp Ac cc = (jcells (some ⟨b, 0, none⟩) j Ap cp Ac cc).set 8 (.bool d.down) := (by simp [jcells, jend, *]); rw [e6]; exact hs)
  · skip
    rintro z w6 hI13
    rw [hIv5] at hI13
    replace hs := hI13
    refine Jm_eqE (hEn4 _) ?_
    refine Jm_seq ?_
    refine St_seq ?_
    refine St_block ?_
    refine St_seq ?_
    refine St_region ?_
    refine Ls_run (run_move rfl) rfl ?_
    refine Ls_run (run_nilCheck rfl) rfl ?_
    refine Ls_run (run_as (run_field Try.underlying98 rfl inf4 (by decide) rfl) (show _ = Value.pointer (some ⟨bj, 8, none⟩) from rfl)) rfl ?_
    refine Ls_run (run_load sc4 rfl (hs.blk_at 1 rfl 8 rfl)) rfl ?_
    refine Ls_run (run_assign rfl) rfl ?_
    refine Ls_nil ?_
    refine Jm_seq ?_
    refine St_if rfl (fun h14 => ?_) (fun h14 => ?_)
    · skip
      refine St_seq ?_
      refine St_region ?_
      refine Ls_run (run_assign rfl) rfl ?_
      refine Ls_nil ?_
      refine Jm_seq ?_
      refine St_ret ?_
      refine Jm_block_ret (Jm_then_ret  ?_)
      refine Jm_ret1 rfl rfl ?_
      replace hs := hs.erase 0
      simp only [List.cons_append, List.nil_append, List.eraseIdx_cons_zero, List.eraseIdx_cons_succ] at hs
      replace hs := hs.front 3 rfl
      simp only [List.cons_append, List.nil_append, List.eraseIdx_cons_zero, List.eraseIdx_cons_succ] at hs
      replace hs := hs.front 3 rfl
      simp only [List.cons_append, List.nil_append, List.eraseIdx_cons_zero, List.eraseIdx_cons_succ] at hs
      replace hs := hs.front 3 rfl
      simp only [List.cons_append, List.nil_append, List.eraseIdx_cons_zero, List.eraseIdx_cons_succ] at hs
      replace hs := hs.front 3 rfl
      simp only [List.cons_append, List.nil_append, List.eraseIdx_cons_zero, List.eraseIdx_cons_succ] at hs
      have e : jsave j d n = (80, jend j d, d) := by unfold jsave; rw [if_pos (by assumption)]
      rw [e]
      exact ⟨_, rfl, rfl, Sat.jshut (j := jend j d) hs⟩
    · skip
      have hne : (jend j d).ended = false := h14
      refine St_seq ?_
      refine St_draw (fun x => Below w6.heap.size w6 x) mixed ?_
      intro w15 q16
      have hH := q16.below
      replace hs := hs.quiet q16
      refine An_grow hH ?_
      replace hH := Below.refl w15.heap.size w15
      refine An_take 0 rfl (by kernel_rfl) (by kernel_rfl) (by kernel_rfl) (fun _ _ _ h => h) hH (fun x hx => run_load_agg agg66 inf66 rfl rfl ((hs.grow hx).blk_cells 0 rfl 0 4)) rfl ?_
      refine An_take 1 rfl (by kernel_rfl) (by kernel_rfl) (by kernel_rfl) (fun _ _ _ h => h) hH (fun x hx => run_move rfl) rfl ?_
      refine An_take 2 rfl (by kernel_rfl) (by kernel_rfl) (by kernel_rfl) (fun _ _ _ h => h) hH (fun x hx => run_nilCheck rfl) rfl ?_
      refine An_take 3 rfl (by kernel_rfl) (by kernel_rfl) (by kernel_rfl) (fun _ _ _ h => h) hH (fun x hx => run_as (run_field Try.underlying98 rfl inf3 (by decide) rfl) (show _ = Value.pointer (some ⟨bj, 1, none⟩) from rfl)) rfl ?_
      refine An_take 4 rfl (by kernel_rfl) (by kernel_rfl) (by kernel_rfl) (fun _ _ _ h => h) hH (fun x hx => run_load sc3 rfl ((hs.grow hx).blk_at 1 rfl 1 rfl)) rfl ?_
      refine An_only 5 (by kernel_rfl) rfl ?_
      refine Ls_call Try.func68 nm68 rfl rfl (isNote_c w15 n _ _ _ _ (Sat.rdL0 (pre := [_, _, _, _, _]) hrp hs) (Sat.rdL0 (pre := [_, _, _, _, _]) hrc hs) hzn j.parts) rfl ?_
      rintro v17 w18 ⟨rfl, hsI⟩
      replace hs := hs.trans hsI
      simp only [List.cons_append, List.nil_append] at hs
      replace hH := (hsI.below : Below w15.heap.size w15 w18)
      refine Ls_nil (Jm_An hH ?_)
      refine An_grow hH ?_
      replace hH := Below.refl w18.heap.size w18
      refine An_take 6 rfl (by kernel_rfl) (by kernel_rfl) (by kernel_rfl) (fun _ _ _ h => h) hH (fun x hx => run_not rfl) rfl ?_
      refine An_take 7 rfl (by kernel_rfl) (by kernel_rfl) (by kernel_rfl) (fun _ _ _ h => h) hH (fun x hx => run_assign rfl) rfl ?_
      refine An_done (by kernel_rfl) ?_
      refine Jm_seq ?_
      refine St_ifN rfl (fun h19 => ?_) (fun h19 => ?_)
      · skip
        refine St_seq ?_
        refine St_region ?_
        refine Ls_run (run_assign rfl) rfl ?_
        refine Ls_nil ?_
        refine Jm_seq ?_
        refine St_ret ?_
        refine Jm_block_ret (Jm_then_ret  ?_)
        refine Jm_ret1 rfl rfl ?_
        replace hs := hs.erase 0
        simp only [List.cons_append, List.nil_append, List.eraseIdx_cons_zero, List.eraseIdx_cons_succ] at hs
        replace hs := hs.front 3 rfl
        simp only [List.cons_append, List.nil_append, List.eraseIdx_cons_zero, List.eraseIdx_cons_succ] at hs
        replace hs := hs.front 3 rfl
        simp only [List.cons_append, List.nil_append, List.eraseIdx_cons_zero, List.eraseIdx_cons_succ] at hs
        replace hs := hs.front 3 rfl
        simp only [List.cons_append, List.nil_append, List.eraseIdx_cons_zero, List.eraseIdx_cons_succ] at hs
        replace hs := hs.front 3 rfl
        simp only [List.cons_append, List.nil_append, List.eraseIdx_cons_zero, List.eraseIdx_cons_succ] at hs
        have e : jsave j d n = (1, jend j d, d) := by unfold jsave; rw [if_neg (by simp [hne]), if_pos (by assumption)]
        rw [e]
        exact ⟨_, rfl, rfl, Sat.jshut (j := jend j d) hs⟩
      · skip
        have hnok : noteOk n j.parts := h19
        refine St_seq ?_
        refine St_region ?_
        refine Ls_run (run_move rfl) rfl ?_
        refine Ls_run (run_load_agg agg66 inf66 rfl rfl (hs.blk_cells 0 rfl 0 4)) rfl ?_
        replace hs := hs.front 3 rfl
        simp only [List.cons_append, List.nil_append, List.eraseIdx_cons_zero, List.eraseIdx_cons_succ] at hs
        replace hs := hs.front 3 rfl
        simp only [List.cons_append, List.nil_append, List.eraseIdx_cons_zero, List.eraseIdx_cons_succ] at hs
        replace hs := hs.front 3 rfl
        simp only [List.cons_append, List.nil_append, List.eraseIdx_cons_zero, List.eraseIdx_cons_succ] at hs
        refine Ls_call Try.func69 nm69 rfl rfl (follows_c B w18 _ bj _ (jend j d) Ap cp Ac cc hs hz hjo.1.1 n Np np Nc nc (fun w' X q => Sat.rdL0 (pre := [_, _, _]) hrp q) (fun w' X q => Sat.rdL0 (pre := [_, _, _]) hrc q) hzn) rfl ?_
        rintro v20 w21 ⟨rfl, hs⟩
        refine Ls_run (run_not rfl) rfl ?_
        refine Ls_run (run_assign rfl) rfl ?_
        refine Ls_nil ?_
        refine Jm_seq ?_
        refine St_ifN rfl (fun h22 => ?_) (fun h22 => ?_)
        · skip
          have hnf : ¬ follows j.n n := h22
          refine St_seq ?_
          refine St_region ?_
          refine Ls_run (run_assign rfl) rfl ?_
          refine Ls_nil ?_
          refine Jm_seq ?_
          refine St_ret ?_
          refine Jm_block_ret (Jm_then_ret  ?_)
          refine Jm_ret1 rfl rfl ?_
          replace hs := hs.erase 3
          simp only [List.cons_append, List.nil_append, List.eraseIdx_cons_zero, List.eraseIdx_cons_succ] at hs
          replace hs := hs.front 3 rfl
          simp only [List.cons_append, List.nil_append, List.eraseIdx_cons_zero, List.eraseIdx_cons_succ] at hs
          replace hs := hs.front 3 rfl
          simp only [List.cons_append, List.nil_append, List.eraseIdx_cons_zero, List.eraseIdx_cons_succ] at hs
          replace hs := hs.front 3 rfl
          simp only [List.cons_append, List.nil_append, List.eraseIdx_cons_zero, List.eraseIdx_cons_succ] at hs
          replace hs := hs.front 3 rfl
          simp only [List.cons_append, List.nil_append, List.eraseIdx_cons_zero, List.eraseIdx_cons_succ] at hs
          have e : jsave j d n = (7, jend j d, d) := by unfold jsave; rw [if_neg (by simp [hne]), if_neg (by simpa using hnok), if_pos hnf]
          rw [e]
          exact ⟨_, rfl, rfl, Sat.jshut (j := jend j d) hs⟩
        · skip
          have hfo : follows j.n n := h22
          refine St_seq ?_
          refine St_region ?_
          refine Ls_run (run_move rfl) rfl ?_
          refine Ls_run (run_nilCheck rfl) rfl ?_
          refine Ls_run (run_as (run_field Try.underlying98 rfl inf96 (by decide) rfl) (show _ = Value.pointer (some ⟨bj, 2, none⟩) from rfl)) rfl ?_
          refine Ls_run (run_as (run_field Try.underlying96 rfl inf3 (by decide) rfl) (show _ = Value.pointer (some ⟨bj, 6, none⟩) from rfl)) rfl ?_
          refine Ls_run (run_load sc3 rfl (hs.blk_at 0 rfl 6 rfl)) rfl ?_
          refine Ls_run (run_geq rfl rfl) rfl ?_
          refine Ls_run (run_assign rfl) rfl ?_
          refine Ls_nil ?_
          refine Jm_seq ?_
          refine St_ifP rfl (fun h23 => ?_) (fun h23 => ?_)
          · skip
            refine St_seq ?_
            refine St_region ?_
            refine Ls_run (run_assign rfl) rfl ?_
            refine Ls_nil ?_
            refine Jm_seq ?_
            refine St_ret ?_
            refine Jm_block_ret (Jm_then_ret  ?_)
            refine Jm_ret1 rfl rfl ?_
            replace hs := hs.erase 3
            simp only [List.cons_append, List.nil_append, List.eraseIdx_cons_zero, List.eraseIdx_cons_succ] at hs
            replace hs := hs.front 3 rfl
            simp only [List.cons_append, List.nil_append, List.eraseIdx_cons_zero, List.eraseIdx_cons_succ] at hs
            replace hs := hs.front 3 rfl
            simp only [List.cons_append, List.nil_append, List.eraseIdx_cons_zero, List.eraseIdx_cons_succ] at hs
            replace hs := hs.front 3 rfl
            simp only [List.cons_append, List.nil_append, List.eraseIdx_cons_zero, List.eraseIdx_cons_succ] at hs
            replace hs := hs.front 3 rfl
            simp only [List.cons_append, List.nil_append, List.eraseIdx_cons_zero, List.eraseIdx_cons_succ] at hs
            have e : jsave j d n = (92, jend j d, d) := by unfold jsave; rw [if_neg (by simp [hne]), if_neg (by simpa using hnok), if_neg (by simpa using hfo), if_pos (by omega)]
            rw [e]
            exact ⟨_, rfl, rfl, Sat.jshut (j := jend j d) hs⟩
          · skip
            refine St_skip ?_
            refine Jm_block_normal (Jm_seq ?_)
            refine St_seq ?_
            obtain ⟨En24, hEn24⟩ : ∃ F : Option Addr × Nat × Option Addr × Nat × Nat → Env, ∀ (Aq : Option Addr) (cq : Nat) (Ar : Option Addr) (cr : Nat) (g5 : Nat), F (Aq, cq, Ar, cr, g5) = [(0, .pointer (some ⟨bj, 0, none⟩)), (3, .pointer (some ⟨b2, 0, none⟩)), (5, .pointer (some ⟨g5, 0, none⟩))] := ⟨(fun (s : Option Addr × Nat × Option Addr × Nat × Nat) => match s with | (Aq, cq, Ar, cr, g5) => [(0, .pointer (some ⟨bj, 0, none⟩)), (3, .pointer (some ⟨b2, 0, none⟩)), (5, .pointer (some ⟨g5, 0, none⟩))]), fun _ _ _ _ _ => rfl⟩
            obtain ⟨Iv25, hIv25⟩ : ∃ F : Option Addr × Nat × Option Addr × Nat × Nat → World → Prop, ∀ (Aq : Option Addr) (cq : Nat) (Ar : Option Addr) (cr : Nat) (g5 : Nat) (w26 : World), F (Aq, cq, Ar, cr, g5) w26 = (Sat B w26 (Blk g5 [.int .i64 n.batch, .slice Aq n.prev.length cq, .slice Ar n.cur.length cr, .int .i64 n.att, .int .i64 (j.gen + 1)] 96 :: Own 3 1 (.slice Aq n.prev.length cq) n.prev.length (KI.flat n.prev) :: Own 3 1 (.slice Ar n.cur.length cr) n.cur.length (KI.flat n.cur) :: Blk bj (jcells (some ⟨b, 0, none⟩) (jend j d) Ap cp Ac cc) 98 :: Own 3 1 (.slice Ap j.n.prev.length cp) j.n.prev.length (KI.flat j.n.prev) :: Own 3 1 (.slice Ac j.n.cur.length cc) j.n.cur.length (KI.flat j.n.cur) :: DiskA 85 31 5 b d :: L)) := ⟨(fun (s : Option Addr × Nat × Option Addr × Nat × Nat) => match s with | (Aq, cq, Ar, cr, g5) => fun (w26 : World) => Sat B w26 (Blk g5 [.int .i64 n.batch, .slice Aq n.prev.length cq, .slice Ar n.cur.length cr, .int .i64 n.att, .int .i64 (j.gen + 1)] 96 :: Own 3 1 (.slice Aq n.prev.length cq) n.prev.length (KI.flat n.prev) :: Own 3 1 (.slice Ar n.cur.length cr) n.cur.length (KI.flat n.cur) :: Blk bj (jcells (some ⟨b, 0, none⟩) (jend j d) Ap cp Ac cc) 98 :: Own 3 1 (.slice Ap j.n.prev.length cp) j.n.prev.length (KI.flat j.n.prev) :: Own 3 1 (.slice Ac j.n.cur.length cc) j.n.cur.length (KI.flat j.n.cur) :: DiskA 85 31 5 b d :: L)), fun _ _ _ _ _ _ => rfl⟩
            refine St_join En24 Iv25 ?_ ?_
            · skip
              replace hs := hs.front 3 rfl
              simp only [List.cons_append, List.nil_append, List.eraseIdx_cons_zero, List.eraseIdx_cons_succ] at hs
              replace hs := hs.front 1 rfl
              simp only [List.cons_append, List.nil_append, List.eraseIdx_cons_zero, List.eraseIdx_cons_succ] at hs
              refine St_hold (Hold.of (Ls := [_, _]) hs) mixed ?_
              intro w27 q28
              replace hs := hs.quiet q28
              have hH := Hold.of (Ls := [_, _]) hs
              refine An_take 0 rfl (by kernel_rfl) (by kernel_rfl) (by kernel_rfl) (fun _ _ _ h => h) hH (fun x hx => run_load_agg agg66 inf66 rfl rfl (hx.choose_spec.blk_cells 1 rfl 0 4)) rfl ?_
              refine An_take 2 rfl (by kernel_rfl) (by kernel_rfl) (by kernel_rfl) (fun _ _ _ h => h) hH (fun x hx => run_move rfl) rfl ?_
              refine An_take 3 rfl (by kernel_rfl) (by kernel_rfl) (by kernel_rfl) (fun _ _ _ h => h) hH (fun x hx => run_nilCheck rfl) rfl ?_
              refine An_take 4 rfl (by kernel_rfl) (by kernel_rfl) (by kernel_rfl) (fun _ _ _ h => h) hH (fun x hx => run_as (run_field Try.underlying98 rfl inf96 (by decide) rfl) (show _ = Value.pointer (some ⟨bj, 2, none⟩) from rfl)) rfl ?_
              refine An_take 5 rfl (by kernel_rfl) (by kernel_rfl) (by kernel_rfl) (fun _ _ _ h => h) hH (fun x hx => run_as (run_field Try.underlying96 rfl inf3 (by decide) rfl) (show _ = Value.pointer (some ⟨bj, 6, none⟩) from rfl)) rfl ?_
              refine An_take 6 rfl (by kernel_rfl) (by kernel_rfl) (by kernel_rfl) (fun _ _ _ h => h) hH (fun x hx => run_load sc3 rfl (hx.choose_spec.blk_at 0 rfl 6 rfl)) rfl ?_
              refine An_take 7 rfl (by kernel_rfl) (by kernel_rfl) (by kernel_rfl) (fun _ _ _ h => h) hH (fun x hx => run_add rfl rfl (show _ = j.gen + 1 by rw [eg, w64 (by omega)])) rfl ?_
              refine An_two 1 9 (by kernel_rfl) rfl rfl ?_ ?_
              · skip
                refine Ls_call Try.func67 nm67 rfl rfl (jcopied_c w27 n _ _ _ _ (Sat.rdL0 (pre := [_, _, _, _, _]) hrp hs) (Sat.rdL0 (pre := [_, _, _, _, _]) hrc hs) (by have := noteOk_len hnok; omega)) rfl ?_
                rintro v29 w30 ⟨Aq31, cq32, Ar33, cr34, rfl, hsC⟩
                replace hs := hs.trans hsC
                simp only [List.cons_append, List.nil_append] at hs
                replace hs := hs.front 3 rfl
                simp only [List.cons_append, List.nil_append, List.eraseIdx_cons_zero, List.eraseIdx_cons_succ] at hs
                replace hs := hs.front 3 rfl
                simp only [List.cons_append, List.nil_append, List.eraseIdx_cons_zero, List.eraseIdx_cons_succ] at hs
                replace hH := Hold.of (Ls := [_, _]) hs
                refine Ls_nil (Jm_An hH ?_)
                refine An_take 8 rfl (by kernel_rfl) (by kernel_rfl) (by kernel_rfl) (fun _ _ _ h => h) hH (fun x hx => run_buildO (pv := [(0, _), (1, _)]) rfl (bld96_0_1 _ _ _ _ _ _ _ _ _)) rfl ?_
                refine An_only 9 (by kernel_rfl) rfl ?_
                refine Ls_alloc hs inf96 rfl ?_
                intro b36 w35 hs
                replace hs := hs.front 2 rfl
                simp only [List.cons_append, List.nil_append, List.eraseIdx_cons_zero, List.eraseIdx_cons_succ] at hs
                replace hs := hs.front 2 rfl
                simp only [List.cons_append, List.nil_append, List.eraseIdx_cons_zero, List.eraseIdx_cons_succ] at hs
                replace hH := Hold.of (Ls := [_, _]) hs
                refine Ls_nil (Jm_An hH ?_)
                refine An_only 10 (by kernel_rfl) rfl ?_
                replace hs := hs.front 2 rfl
                simp only [List.cons_append, List.nil_append, List.eraseIdx_cons_zero, List.eraseIdx_cons_succ] at hs
                refine Ls_storeAgg hs inf96 rfl rfl rfl rfl (by simp [Value.oneCell', Value.cells, jcells]) ?_
                intro w37 hs
                replace hs := hs.front 2 rfl
                simp only [List.cons_append, List.nil_append, List.eraseIdx_cons_zero, List.eraseIdx_cons_succ] at hs
                replace hs := hs.front 2 rfl
                simp only [List.cons_append, List.nil_append, List.eraseIdx_cons_zero, List.eraseIdx_cons_succ] at hs
                replace hH := Hold.of (Ls := [_, _]) hs
                refine Ls_nil (Jm_An hH ?_)
                refine An_done (by kernel_rfl) ?_
                replace hs := hs.erase 1
                simp only [List.cons_append, List.nil_append, List.eraseIdx_cons_zero, List.eraseIdx_cons_succ] at hs
                replace hs := hs.front 6 rfl
                simp only [List.cons_append, List.nil_append, List.eraseIdx_cons_zero, List.eraseIdx_cons_succ] at hs
                replace hs := hs.front 6 rfl
                simp only [List.cons_append, List.nil_append, List.eraseIdx_cons_zero, List.eraseIdx_cons_succ] at hs
                replace hs := hs.front 6 rfl
                simp only [List.cons_append, List.nil_append, List.eraseIdx_cons_zero, List.eraseIdx_cons_succ] at hs
                replace hs := hs.front 3 rfl
                simp only [List.cons_append, List.nil_append, List.eraseIdx_cons_zero, List.eraseIdx_cons_succ] at hs
                replace hs := hs.front 6 rfl
                simp only [List.cons_append, List.nil_append, List.eraseIdx_cons_zero, List.eraseIdx_cons_succ] at hs
                replace hs := hs.front 6 rfl
                simp only [List.cons_append, List.nil_append, List.eraseIdx_cons_zero, List.eraseIdx_cons_succ] at hs
                replace hs := hs.front 6 rfl
                simp only [List.cons_append, List.nil_append, List.eraseIdx_cons_zero, List.eraseIdx_cons_succ] at hs
                refine Jm_join (Aq31, cq32, Ar33, cr34, b36) ?_ ?_
                · rw [hEn24]; exact (subE_cons rfl (subE_cons rfl (subE_cons rfl subE_nil)))
                · skip
                  rw [hIv25]
                  exact hs
              · skip
                refine Ls_alloc hs inf96 rfl ?_
                intro b39 w38 hs
                replace hs := hs.front 2 rfl
                simp only [List.cons_append, List.nil_append, List.eraseIdx_cons_zero, List.eraseIdx_cons_succ] at hs
                replace hs := hs.front 2 rfl
                simp only [List.cons_append, List.nil_append, List.eraseIdx_cons_zero, List.eraseIdx_cons_succ] at hs
                replace hH := Hold.of (Ls := [_, _]) hs
                refine Ls_nil (Jm_An hH ?_)
                refine An_only 1 (by kernel_rfl) rfl ?_
                refine Ls_call Try.func67 nm67 rfl rfl (jcopied_c w38 n _ _ _ _ (Sat.rdL0 (pre := [_, _, _, _, _, _]) hrp hs) (Sat.rdL0 (pre := [_, _, _, _, _, _]) hrc hs) (by have := noteOk_len hnok; omega)) rfl ?_
                rintro v40 w41 ⟨Aq42, cq43, Ar44, cr45, rfl, hsC⟩
                replace hs := hs.trans hsC
                simp only [List.cons_append, List.nil_append] at hs
                replace hs := hs.front 3 rfl
                simp only [List.cons_append, List.nil_append, List.eraseIdx_cons_zero, List.eraseIdx_cons_succ] at hs
                replace hs := hs.front 3 rfl
                simp only [List.cons_append, List.nil_append, List.eraseIdx_cons_zero, List.eraseIdx_cons_succ] at hs
                replace hH := Hold.of (Ls := [_, _]) hs
                refine Ls_nil (Jm_An hH ?_)
                refine An_take 8 rfl (by kernel_rfl) (by kernel_rfl) (by kernel_rfl) (fun _ _ _ h => h) hH (fun x hx => run_buildO (pv := [(0, _), (1, _)]) rfl (bld96_0_1 _ _ _ _ _ _ _ _ _)) rfl ?_
                refine An_only 10 (by kernel_rfl) rfl ?_
                replace hs := hs.front 4 rfl
                simp only [List.cons_append, List.nil_append, List.eraseIdx_cons_zero, List.eraseIdx_cons_succ] at hs
                refine Ls_storeAgg hs inf96 rfl rfl rfl rfl (by simp [Value.oneCell', Value.cells, jcells]) ?_
                intro w46 hs
                replace hs := hs.front 2 rfl
                simp only [List.cons_append, List.nil_append, List.eraseIdx_cons_zero, List.eraseIdx_cons_succ] at hs
                replace hs := hs.front 2 rfl
                simp only [List.cons_append, List.nil_append, List.eraseIdx_cons_zero, List.eraseIdx_cons_succ] at hs
                replace hH := Hold.of (Ls := [_, _]) hs
                refine Ls_nil (Jm_An hH ?_)
                refine An_done (by kernel_rfl) ?_
                replace hs := hs.erase 1
                simp only [List.cons_append, List.nil_append, List.eraseIdx_cons_zero, List.eraseIdx_cons_succ] at hs
                replace hs := hs.front 6 rfl
                simp only [List.cons_append, List.nil_append, List.eraseIdx_cons_zero, List.eraseIdx_cons_succ] at hs
                replace hs := hs.front 6 rfl
                simp only [List.cons_append, List.nil_append, List.eraseIdx_cons_zero, List.eraseIdx_cons_succ] at hs
                replace hs := hs.front 6 rfl
                simp only [List.cons_append, List.nil_append, List.eraseIdx_cons_zero, List.eraseIdx_cons_succ] at hs
                replace hs := hs.front 3 rfl
                simp only [List.cons_append, List.nil_append, List.eraseIdx_cons_zero, List.eraseIdx_cons_succ] at hs
                replace hs := hs.front 6 rfl
                simp only [List.cons_append, List.nil_append, List.eraseIdx_cons_zero, List.eraseIdx_cons_succ] at hs
                replace hs := hs.front 6 rfl
                simp only [List.cons_append, List.nil_append, List.eraseIdx_cons_zero, List.eraseIdx_cons_succ] at hs
                replace hs := hs.front 6 rfl
                simp only [List.cons_append, List.nil_append, List.eraseIdx_cons_zero, List.eraseIdx_cons_succ] at hs
                refine Jm_join (Aq42, cq43, Ar44, cr45, b39) ?_ ?_
                · rw [hEn24]; exact (subE_cons rfl (subE_cons rfl (subE_cons rfl subE_nil)))
                · skip
                  rw [hIv25]
                  exact hs
            · skip
              rintro ⟨Aq, cq, Ar, cr, g5⟩ w26 hI47
              rw [hIv25] at hI47
              replace hs := hI47
              refine Jm_eqE (hEn24 _ _ _ _ _) ?_
              refine Jm_seq ?_
              refine St_seq ?_
              refine St_seq ?_
              replace hs := hs.front 3 rfl
              simp only [List.cons_append, List.nil_append, List.eraseIdx_cons_zero, List.eraseIdx_cons_succ] at hs
              refine St_hold (Hold.of (Ls := [_, _]) hs) mixed ?_
              intro w48 q49
              replace hs := hs.quiet q49
              have hH := Hold.of (Ls := [_, _]) hs
              refine An_take 0 rfl (by kernel_rfl) (by kernel_rfl) (by kernel_rfl) (fun _ _ _ h => h) hH (fun x hx => run_move rfl) rfl ?_
              refine An_take 1 rfl (by kernel_rfl) (by kernel_rfl) (by kernel_rfl) (fun _ _ _ h => h) hH (fun x hx => run_nilCheck rfl) rfl ?_
              refine An_take 2 rfl (by kernel_rfl) (by kernel_rfl) (by kernel_rfl) (fun _ _ _ h => h) hH (fun x hx => run_as (run_field Try.underlying98 rfl inf24 (by decide) rfl) (show _ = Value.pointer (some ⟨bj, 0, none⟩) from rfl)) rfl ?_
              refine An_take 3 rfl (by kernel_rfl) (by kernel_rfl) (by kernel_rfl) (fun _ _ _ h => h) hH (fun x hx => run_load sc24 rfl (hx.choose_spec.blk_at 0 rfl 0 rfl)) rfl ?_
              refine An_take 4 rfl (by kernel_rfl) (by kernel_rfl) (by kernel_rfl) (fun _ _ _ h => h) hH (fun x hx => run_move rfl) rfl ?_
              refine An_take 5 rfl (by kernel_rfl) (by kernel_rfl) (by kernel_rfl) (fun _ _ _ h => h) hH (fun x hx => run_nilCheck rfl) rfl ?_
              refine An_take 6 rfl (by kernel_rfl) (by kernel_rfl) (by kernel_rfl) (fun _ _ _ h => h) hH (fun x hx => run_as (run_field Try.underlying98 rfl inf3 (by decide) rfl) (show _ = Value.pointer (some ⟨bj, 7, none⟩) from rfl)) rfl ?_
              refine An_take 7 rfl (by kernel_rfl) (by kernel_rfl) (by kernel_rfl) (fun _ _ _ h => h) hH (fun x hx => run_load sc3 rfl (hx.choose_spec.blk_at 0 rfl 7 rfl)) rfl ?_
              refine An_take 8 rfl (by kernel_rfl) (by kernel_rfl) (by kernel_rfl) (fun _ _ _ h => h) hH (fun x hx => run_sub rfl rfl (show _ = 1 - j.slot by rw [es, w64 (by omega)])) rfl ?_
              refine An_take 9 rfl (by kernel_rfl) (by kernel_rfl) (by kernel_rfl) (fun _ _ _ h => h) hH (fun x hx => run_load_agg agg96 inf96 rfl rfl (hx.choose_spec.blk_cells 1 rfl 0 5)) rfl ?_
              refine An_only 10 (by kernel_rfl) rfl ?_
              refine Ls_call Try.func66 nm66 rfl rfl (bytes_c w48 n _ _ _ _ (hs.rd_at 2 rfl) (hs.rd_at 3 rfl) (by have := noteOk_len hnok; omega) (j.gen + 1) j.parts hnok hjo.2.2.1 (by omega)) rfl ?_
              rintro v50 w51 ⟨Ab, cb, rfl, hsB⟩
              replace hs := hs.trans hsB
              simp only [List.cons_append, List.nil_append] at hs
              have hnl := nbytes_len hnok hjo.2.2.1 (gen := j.gen + 1) (by omega)
              obtain ⟨nb, hnb⟩ : ∃ q, q = nbytes (j.gen + 1) n := ⟨_, rfl⟩
              rw [← hnb] at hs hnl ⊢
              replace hs := hs.front 2 rfl
              simp only [List.cons_append, List.nil_append, List.eraseIdx_cons_zero, List.eraseIdx_cons_succ] at hs
              replace hs := hs.front 2 rfl
              simp only [List.cons_append, List.nil_append, List.eraseIdx_cons_zero, List.eraseIdx_cons_succ] at hs
              replace hH := Hold.of (Ls := [_, _]) hs
              refine Ls_nil (Jm_An hH ?_)
              refine An_only 11 (by kernel_rfl) rfl ?_
              replace hs := hs.front 7 rfl
              simp only [List.cons_append, List.nil_append, List.eraseIdx_cons_zero, List.eraseIdx_cons_succ] at hs
              refine Ls_call Try.func17 nm17 rfl rfl (Write_c B w51 _ b d hs (fun r hr => (hdok r hr).2) (1 - j.slot) Ab nb.length cb nb (fun w' X q => q.rd_at 3 rfl) (by omega)) rfl ?_
              rintro v52 w53 ⟨rfl, hs⟩
              obtain ⟨⟨e2, d2⟩, hw2⟩ : ∃ q, dwrite d (1 - j.slot) nb = q := ⟨_, rfl⟩
              simp only [hw2] at hs ⊢
              replace hs := hs.front 2 rfl
              simp only [List.cons_append, List.nil_append, List.eraseIdx_cons_zero, List.eraseIdx_cons_succ] at hs
              replace hs := hs.front 2 rfl
              simp only [List.cons_append, List.nil_append, List.eraseIdx_cons_zero, List.eraseIdx_cons_succ] at hs
              replace hH := Hold.of (Ls := [_, _]) hs
              refine Ls_nil (Jm_An hH ?_)
              refine An_take 12 rfl (by kernel_rfl) (by kernel_rfl) (by kernel_rfl) (fun _ _ _ h => h) hH (fun x hx => run_assign rfl) rfl ?_
              refine An_done (by kernel_rfl) ?_
              refine Jm_seq ?_
              refine St_seq ?_
              refine St_region ?_
              refine Ls_run (run_move rfl) rfl ?_
              refine Ls_run (run_neq rfl rfl) rfl ?_
              refine Ls_nil ?_
              refine Jm_seq ?_
              refine St_ifP rfl (fun h54 => ?_) (fun h54 => ?_)
              · skip
                refine St_seq ?_
                refine St_region ?_
                refine Ls_run (run_move rfl) rfl ?_
                refine Ls_run (run_nilCheck rfl) rfl ?_
                refine Ls_run (run_as (run_field Try.underlying98 rfl inf4 (by decide) rfl) (show _ = Value.pointer (some ⟨bj, 8, none⟩) from rfl)) rfl ?_
                refine Ls_store hs inf4 rfl rfl rfl rfl ?_
                intro w55 hs
                try simp only [List.set_cons_zero, List.set_cons_succ] at hs
                refine Ls_nil ?_
                refine Jm_seq ?_
                refine St_seq ?_
                refine St_region ?_
                refine Ls_run (run_move rfl) rfl ?_
                refine Ls_run (run_assign rfl) rfl ?_
                refine Ls_nil ?_
                refine Jm_seq ?_
                refine St_ret ?_
                refine Jm_then_ret  ?_
                refine Jm_ret1 rfl rfl ?_
                replace hs := hs.erase 1
                simp only [List.cons_append, List.nil_append, List.eraseIdx_cons_zero, List.eraseIdx_cons_succ] at hs
                replace hs := hs.erase 2
                simp only [List.cons_append, List.nil_append, List.eraseIdx_cons_zero, List.eraseIdx_cons_succ] at hs
                replace hs := hs.erase 2
                simp only [List.cons_append, List.nil_append, List.eraseIdx_cons_zero, List.eraseIdx_cons_succ] at hs
                replace hs := hs.erase 2
                simp only [List.cons_append, List.nil_append, List.eraseIdx_cons_zero, List.eraseIdx_cons_succ] at hs
                replace hs := hs.front 1 rfl
                simp only [List.cons_append, List.nil_append, List.eraseIdx_cons_zero, List.eraseIdx_cons_succ] at hs
                replace hs := hs.front 3 rfl
                simp only [List.cons_append, List.nil_append, List.eraseIdx_cons_zero, List.eraseIdx_cons_succ] at hs
                replace hs := hs.front 3 rfl
                simp only [List.cons_append, List.nil_append, List.eraseIdx_cons_zero, List.eraseIdx_cons_succ] at hs
                replace hs := hs.front 3 rfl
                simp only [List.cons_append, List.nil_append, List.eraseIdx_cons_zero, List.eraseIdx_cons_succ] at hs
                have e : jsave j d n = (e2, { jend j d with ended := true }, d2) := by unfold jsave; rw [if_neg (by simp [hne]), if_neg (by simpa using hnok), if_neg (by simpa using hfo), if_neg (by omega), ← hnb, hw2, if_pos (by assumption)]
                rw [e]
                exact ⟨_, rfl, rfl, Sat.jshut (j := { jend j d with ended := true }) hs⟩
              · skip
                refine St_skip ?_
                refine Jm_seq ?_
                refine St_seq ?_
                replace hs := hs.front 1 rfl
                simp only [List.cons_append, List.nil_append, List.eraseIdx_cons_zero, List.eraseIdx_cons_succ] at hs
                replace hs := hs.front 1 rfl
                simp only [List.cons_append, List.nil_append, List.eraseIdx_cons_zero, List.eraseIdx_cons_succ] at hs
                refine St_holdAt 13 (HoldAt.of (Ls := [_]) (i := 7) (v := .int .i64 j.slot) rfl hs) mixed ?_
                intro w56 q57
                replace hs := hs.quiet q57
                have hH := HoldAt.of (Ls := [_]) (i := 7) (v := .int .i64 j.slot) rfl hs
                refine AnC_takeP 0 (by kernel_rfl) rfl (by kernel_rfl) (by kernel_rfl) (by kernel_rfl) (fun _ _ _ h => h) (fun _ => hH) (fun x => run_move rfl) rfl ?_
                refine AnC_takeP 1 (by kernel_rfl) rfl (by kernel_rfl) (by kernel_rfl) (by kernel_rfl) (fun _ _ _ h => h) (fun _ => hH) (fun x => run_move rfl) rfl ?_
                refine AnC_take 2 [13, 2] rfl (by kernel_rfl) (by kernel_rfl) (by kernel_rfl) (by kernel_rfl) (fun _ _ _ h => h) hH (fun x hx => run_load_agg agg96 inf96 rfl rfl (hx.hold.choose_spec.blk_cells 0 rfl 0 5)) rfl ?_
                refine AnC_takeP 3 (by kernel_rfl) rfl (by kernel_rfl) (by kernel_rfl) (by kernel_rfl) (fun _ _ _ h => h) (fun _ => hH) (fun x => run_move rfl) rfl ?_
                refine AnC_takeP 4 (by kernel_rfl) rfl (by kernel_rfl) (by kernel_rfl) (by kernel_rfl) (fun _ _ _ h => h) (fun _ => hH) (fun x => run_nilCheck rfl) rfl ?_
                refine AnC_takeP 5 (by kernel_rfl) rfl (by kernel_rfl) (by kernel_rfl) (by kernel_rfl) (fun _ _ _ h => h) (fun _ => hH) (fun x => run_as (run_field Try.underlying98 rfl inf3 (by decide) rfl) (show _ = Value.pointer (some ⟨bj, 7, none⟩) from rfl)) rfl ?_
                refine AnC_take 6 [13, 6] rfl (by kernel_rfl) (by kernel_rfl) (by kernel_rfl) (by kernel_rfl) (fun _ _ _ h => h) hH (fun x hx => run_load sc3 rfl hx.cell) rfl ?_
                refine AnC_takeP 7 (by kernel_rfl) rfl (by kernel_rfl) (by kernel_rfl) (by kernel_rfl) (fun _ _ _ h => h) (fun _ => hH) (fun x => run_sub rfl rfl (show _ = 1 - j.slot by rw [w64 (by omega)])) rfl ?_
                refine AnC_takeP 8 (by kernel_rfl) rfl (by kernel_rfl) (by kernel_rfl) (by kernel_rfl) (fun _ _ _ h => h) (fun _ => hH) (fun x => run_nilCheck rfl) rfl ?_
                refine AnC_takeP 9 (by kernel_rfl) rfl (by kernel_rfl) (by kernel_rfl) (by kernel_rfl) (fun _ _ _ h => h) (fun _ => hH) (fun x => run_as (run_field Try.underlying98 rfl inf96 (by decide) rfl) (show _ = Value.pointer (some ⟨bj, 2, none⟩) from rfl)) rfl ?_
                refine AnC_only 10 (by kernel_rfl) rfl ?_
                refine Ls_storeAggAt hs inf96 rfl rfl rfl (by first | decide | exact Nat.le_of_ble_eq_true rfl) (by simp [Value.oneCell', Value.cells, jcells]) ?_
                intro w58 hs
                simp only [jcells, ncells, Nat.reduceAdd, Nat.zero_add, List.take_succ_cons, List.take_zero, List.drop_succ_cons, List.drop_zero, List.cons_append, List.nil_append] at hs
                replace hs := hs.front 1 rfl
                simp only [List.cons_append, List.nil_append, List.eraseIdx_cons_zero, List.eraseIdx_cons_succ] at hs
                replace hs := hs.front 1 rfl
                simp only [List.cons_append, List.nil_append, List.eraseIdx_cons_zero, List.eraseIdx_cons_succ] at hs
                replace hH := HoldAt.of (Ls := [_]) (i := 7) (v := .int .i64 j.slot) rfl hs
                refine Ls_nil (Jm_AnC (fun _ => hH) ?_)
                refine AnC_takeP 11 (by kernel_rfl) rfl (by kernel_rfl) (by kernel_rfl) (by kernel_rfl) (fun _ _ _ h => h) (fun _ => hH) (fun x => run_nilCheck rfl) rfl ?_
                refine AnC_takeP 12 (by kernel_rfl) rfl (by kernel_rfl) (by kernel_rfl) (by kernel_rfl) (fun _ _ _ h => h) (fun _ => hH) (fun x => run_as (run_field Try.underlying98 rfl inf3 (by decide) rfl) (show _ = Value.pointer (some ⟨bj, 7, none⟩) from rfl)) rfl ?_
                refine AnC_only 13 (by kernel_rfl) rfl ?_
                refine Ls_store hs inf3 rfl rfl rfl rfl ?_
                intro w59 hs
                try simp only [List.set_cons_zero, List.set_cons_succ] at hs
                refine Ls_nil (Jm_AnC_closed (by kernel_rfl) ?_)
                refine AnC_done (by kernel_rfl) ?_
                refine Jm_seq ?_
                refine St_seq ?_
                refine St_region ?_
                refine Ls_run (run_assign rfl) rfl ?_
                refine Ls_nil ?_
                refine Jm_seq ?_
                refine St_ret ?_
                refine Jm_ret1 rfl rfl ?_
                replace hs := hs.erase 1
                simp only [List.cons_append, List.nil_append, List.eraseIdx_cons_zero, List.eraseIdx_cons_succ] at hs
                replace hs := hs.erase 2
                simp only [List.cons_append, List.nil_append, List.eraseIdx_cons_zero, List.eraseIdx_cons_succ] at hs
                replace hs := hs.erase 4
                simp only [List.cons_append, List.nil_append, List.eraseIdx_cons_zero, List.eraseIdx_cons_succ] at hs
                replace hs := hs.erase 4
                simp only [List.cons_append, List.nil_append, List.eraseIdx_cons_zero, List.eraseIdx_cons_succ] at hs
                replace hs := hs.front 1 rfl
                simp only [List.cons_append, List.nil_append, List.eraseIdx_cons_zero, List.eraseIdx_cons_succ] at hs
                replace hs := hs.front 3 rfl
                simp only [List.cons_append, List.nil_append, List.eraseIdx_cons_zero, List.eraseIdx_cons_succ] at hs
                replace hs := hs.front 3 rfl
                simp only [List.cons_append, List.nil_append, List.eraseIdx_cons_zero, List.eraseIdx_cons_succ] at hs
                replace hs := hs.front 3 rfl
                simp only [List.cons_append, List.nil_append, List.eraseIdx_cons_zero, List.eraseIdx_cons_succ] at hs
                have e : jsave j d n = (0, { jend j d with n := n, gen := j.gen + 1, slot := 1 - j.slot }, d2) := by unfold jsave; rw [if_neg (by simp [hne]), if_neg (by simpa using hnok), if_neg (by simpa using hfo), if_neg (by omega), ← hnb, hw2, if_neg (by assumption)]
                rw [e]
                exact ⟨_, rfl, rfl, Sat.jshut (j := { jend j d with n := n, gen := j.gen + 1, slot := 1 - j.slot }) hs⟩
end Go.Proofs.Ytpmkedgennnekaa.Lg
