/-
  The laws MsgForm and MsgBack, walked. By program (gen/msg7.py).
-/
import Derived.Test.YtipkfdeiallifaaMsg6
import Derived.Test.YtipkfdeiallifaaMsgP2
set_option linter.unusedVariables false
set_option linter.unusedSimpArgs false
namespace Go.Proofs.Ytipkfdeiallifaa.Lg
open Go Go.RowKit Go.Proofs.Ytipkfdeiallifaa.WirePure
theorem Menc_len {x : MC} (h : Msound x) (hi : MIn x) : (Menc x).length ≤ 4000 := by
  have hn := sound_num h
  have h1 := nmB_len (list := [x.k, x.f, x.t, x.b, x.a]) (fun y hy => by
    have hk := sound_k h
    simp only [List.mem_cons, List.not_mem_nil, or_false] at hy
    rcases hy with rfl | rfl | rfl | rfl | rfl <;> omega)
  have hp : ∀ l : List Pr, (∀ y ∈ l, PrOk y) → (pairsB l).length ≤ 18 * l.length := by
    intro l
    induction l with
    | nil => intro _; simp [pairsB]
    | cons y l ih =>
      intro hy
      have := ih (fun z hz => hy z (by simp [hz]))
      have hy1 := hy y (by simp)
      have h10 := pb_len10 (n := y.1.toNat) (by have := hy1.1; omega)
      have h8 := wd_len 8 y.2.2.toNat
      rw [pairsB_cons]
      simp only [List.length_append, List.length_cons]
      omega
  have h2 : (bodyB x).length ≤ 2000 := by
    unfold bodyB
    split
    · rename_i e
      have := nmB_len (list := x.es) (fun y hy => by have := (h.2.2.2.2.2.1 e).1 y hy; omega)
      have h10 := pb_len10 (n := x.es.length) (by omega)
      unfold nm; rw [List.length_append]; omega
    · split
      · have := nmB_len (list := x.ks) (fun y hy => by have := hi.ks y hy; omega)
        have h10 := pb_len10 (n := x.ks.length) (by omega)
        rw [List.length_append]; omega
      · split
        · have := hp x.ps hi.ps
          have h10 := pb_len10 (n := x.ps.length) (by omega)
          rw [List.length_append]; omega
        · split
          · have h10 := pb_len10 (n := x.c.toNat) (by omega)
            omega
          · simp
  unfold Menc
  rw [List.length_append]
  simp only [List.length_cons, List.length_nil] at h1
  omega
set_option maxRecDepth 100000 in
set_option maxHeartbeats 1000000 in
theorem MsgForm_c (w : World) (A : Option Addr) (n c : Nat) (l : List Int) (hr : Rd w A n c 1 (bytesV l)) (hb : IsBytes l) (hn : n ≤ 9223372036854775807) :
    Calls Try.prog 5 [.slice A n c].toArray w (Ret (fun v' w' => v' = .bool true ∧ Below w.heap.size w w')) := by
  have hs := Sat.start w
  refine Calls_body Try.func5 rfl rfl rfl (envE_cons (i := 0) (v := .slice A n c) rfl envE_nil) ?_
  refine St_seq ?_
  refine St_region ?_
  refine Ls_run (run_assign rfl) rfl ?_
  refine Ls_nil ?_
  refine Jm_seq ?_
  refine St_seq ?_
  refine St_seq ?_
  refine St_region ?_
  refine Ls_call Try.func15 nm15 rfl rfl (mawake_c w) rfl ?_
  rintro v1 w2 ⟨rfl, hsA3⟩
  replace hs := hs.trans hsA3
  simp only [List.nil_append, List.cons_append] at hs
  refine Ls_run (run_not rfl) rfl ?_
  refine Ls_nil ?_
  refine Jm_seq ?_
  refine St_iff rfl ?_
  refine St_skip ?_
  refine Jm_seq ?_
  refine St_seq ?_
  refine St_region ?_
  refine Ls_run (run_move rfl) rfl ?_
  refine Ls_call Try.func20 nm20 rfl rfl (Decode_c w2 _ _ _ (l) (hr.inB hs) hb hn) rfl ?_
  rintro v5 w6 ⟨⟨eAD, enD, ecD, kAD, knD, kcD, pAD, pnD, pcD⟩, rfl, hsD⟩
  obtain ⟨yD, eD, hMD⟩ : ∃ y e, Mdec (l) = (y, e) := ⟨_, _, rfl⟩
  rw [hMD] at hsD ⊢
  replace hs := hs.trans hsD
  simp only [List.nil_append, List.cons_append] at hs
  refine Ls_run (run_move rfl) rfl ?_
  refine Ls_run (run_extract rfl rfl) rfl ?_
  refine Ls_run (run_extract rfl rfl) rfl ?_
  refine Ls_alloc hs inf26 rfl ?_
  intro b8 w7 hs
  refine Ls_storeAgg hs inf26 rfl rfl rfl rfl (by simp [Value.oneCell']) ?_
  intro w9 hs
  refine Ls_run (run_assign rfl) rfl ?_
  refine Ls_nil ?_
  refine Jm_seq ?_
  refine St_seq ?_
  refine St_seq ?_
  refine St_region ?_
  refine Ls_run (run_move rfl) rfl ?_
  refine Ls_run (run_neq rfl rfl) rfl ?_
  refine Ls_nil ?_
  refine Jm_seq ?_
  refine St_ifP rfl (fun h10 => ?_) (fun h10 => ?_)
  · skip
    have hy0 : yD = MC0 := by have := Mdec_zero (l := l) (by rw [hMD]; assumption); rw [hMD] at this; exact this
    refine St_seq ?_
    refine St_region ?_
    refine Ls_run (run_as (run_load_agg agg26 inf26 rfl rfl (hs.blk_cells 0 rfl 0 9)) (show _ = Value.agg #[.int .i64 yD.k, .int .i64 yD.f, .int .i64 yD.t, .int .i64 yD.b, .int .i64 yD.a, .int .i64 yD.c, .slice (⟨eAD, enD, ecD, kAD, knD, kcD, pAD, pnD, pcD⟩ : MP).eA (⟨eAD, enD, ecD, kAD, knD, kcD, pAD, pnD, pcD⟩ : MP).en (⟨eAD, enD, ecD, kAD, knD, kcD, pAD, pnD, pcD⟩ : MP).ec, .slice (⟨eAD, enD, ecD, kAD, knD, kcD, pAD, pnD, pcD⟩ : MP).kA (⟨eAD, enD, ecD, kAD, knD, kcD, pAD, pnD, pcD⟩ : MP).kn (⟨eAD, enD, ecD, kAD, knD, kcD, pAD, pnD, pcD⟩ : MP).kc, .slice (⟨eAD, enD, ecD, kAD, knD, kcD, pAD, pnD, pcD⟩ : MP).pA (⟨eAD, enD, ecD, kAD, knD, kcD, pAD, pnD, pcD⟩ : MP).pn (⟨eAD, enD, ecD, kAD, knD, kcD, pAD, pnD, pcD⟩ : MP).pc] from rfl)) rfl ?_
    refine Ls_run (run_as (run_buildO (pv := []) rfl (bld26 )) (show _ = Value.agg #[.int .i64 MC0.k, .int .i64 MC0.f, .int .i64 MC0.t, .int .i64 MC0.b, .int .i64 MC0.a, .int .i64 MC0.c, .slice MP0.eA MP0.en MP0.ec, .slice MP0.kA MP0.kn MP0.kc, .slice MP0.pA MP0.pn MP0.pc] from rfl)) rfl ?_
    refine Ls_call Try.func22 nm22 rfl rfl (same_c w9 yD (⟨eAD, enD, ecD, kAD, knD, kcD, pAD, pnD, pcD⟩ : MP) ⟨hs.rd_at 1 rfl, hs.rd_at 2 rfl, hs.rd_at 3 rfl⟩ (hs.own_le 1 rfl) (hs.own_le 2 rfl) (hs.own_le 3 rfl) MC0 MP0 ⟨Rd.none _ 1, Rd.none _ 1, Rd.none _ 3⟩) rfl ?_
    rintro v11 w12 ⟨rfl, hsS⟩
    replace hs := hs.trans hsS
    simp only [List.nil_append, List.cons_append] at hs
    rw [decide_eq_true (hy0)]
    refine Ls_run (run_assign rfl) rfl ?_
    refine Ls_nil ?_
    refine Jm_seq ?_
    refine St_ret ?_
    refine Jm_then_ret  ?_
    refine Jm_ret1 rfl rfl ?_
    exact ⟨_, rfl, rfl, hs.below⟩
  · skip
    have he0 : eD = 0 := by omega
    subst he0
    obtain ⟨hso, hme, hyi⟩ := Mdec_ok hb hMD
    have hou : Mout yD = l := by unfold Mout; rw [if_pos hso, hme]
    refine St_skip ?_
    refine Jm_seq ?_
    refine St_seq ?_
    refine St_region ?_
    refine Ls_run (run_as (run_load_agg agg26 inf26 rfl rfl (hs.blk_cells 0 rfl 0 9)) (show _ = Value.agg #[.int .i64 yD.k, .int .i64 yD.f, .int .i64 yD.t, .int .i64 yD.b, .int .i64 yD.a, .int .i64 yD.c, .slice (⟨eAD, enD, ecD, kAD, knD, kcD, pAD, pnD, pcD⟩ : MP).eA (⟨eAD, enD, ecD, kAD, knD, kcD, pAD, pnD, pcD⟩ : MP).en (⟨eAD, enD, ecD, kAD, knD, kcD, pAD, pnD, pcD⟩ : MP).ec, .slice (⟨eAD, enD, ecD, kAD, knD, kcD, pAD, pnD, pcD⟩ : MP).kA (⟨eAD, enD, ecD, kAD, knD, kcD, pAD, pnD, pcD⟩ : MP).kn (⟨eAD, enD, ecD, kAD, knD, kcD, pAD, pnD, pcD⟩ : MP).kc, .slice (⟨eAD, enD, ecD, kAD, knD, kcD, pAD, pnD, pcD⟩ : MP).pA (⟨eAD, enD, ecD, kAD, knD, kcD, pAD, pnD, pcD⟩ : MP).pn (⟨eAD, enD, ecD, kAD, knD, kcD, pAD, pnD, pcD⟩ : MP).pc] from rfl)) rfl ?_
    refine Ls_call Try.func16 nm16 rfl rfl (EncodeU_c w9 yD (⟨eAD, enD, ecD, kAD, knD, kcD, pAD, pnD, pcD⟩ : MP) ⟨hs.rd_at 1 rfl, hs.rd_at 2 rfl, hs.rd_at 3 rfl⟩ (hs.own_le 1 rfl) (hs.own_le 2 rfl) (hs.own_le 3 rfl) hyi ) rfl ?_
    rintro v13 w14 ⟨AE, cE, rfl, hsE⟩
    replace hs := hs.trans hsE
    simp only [List.nil_append, List.cons_append] at hs
    refine Ls_run (run_move rfl) rfl ?_
    refine Ls_run (run_extract rfl rfl) rfl ?_
    refine Ls_run (run_extract rfl rfl) rfl ?_
    refine Ls_run (run_assign rfl) rfl ?_
    refine Ls_run (run_assign rfl) rfl ?_
    refine Ls_nil ?_
    refine Jm_seq ?_
    refine St_seq ?_
    refine St_region ?_
    refine Ls_run (run_move rfl) rfl ?_
    refine Ls_run (run_asB (c := true) (run_eql rfl rfl) (by simp [Merr, hso])) rfl ?_
    refine Ls_run (run_move rfl) rfl ?_
    refine Ls_on rfl rfl ?_
    refine Ls_run (run_move rfl) rfl ?_
    refine Ls_on rfl rfl ?_
    refine Ls_run (run_string Try.underlying28 Try.underlying5 Try.underlying9 rfl (hs.rd_at 0 rfl)) rfl ?_
    refine Ls_on rfl rfl ?_
    refine Ls_run (run_move rfl) rfl ?_
    refine Ls_on rfl rfl ?_
    refine Ls_run (run_string Try.underlying28 Try.underlying5 Try.underlying9 rfl (hr.inB hs)) rfl ?_
    refine Ls_on rfl rfl ?_
    refine Ls_run (run_asB (c := true) (run_eql_str rfl rfl) (by rw [hou]; simp)) rfl ?_
    refine Ls_run (run_pick_t rfl rfl) rfl ?_
    refine Ls_run (run_move rfl) rfl ?_
    refine Ls_on rfl rfl ?_
    refine Ls_run (run_as (run_load_agg agg26 inf26 rfl rfl (hs.blk_cells 1 rfl 0 9)) (show _ = Value.agg #[.int .i64 yD.k, .int .i64 yD.f, .int .i64 yD.t, .int .i64 yD.b, .int .i64 yD.a, .int .i64 yD.c, .slice (⟨eAD, enD, ecD, kAD, knD, kcD, pAD, pnD, pcD⟩ : MP).eA (⟨eAD, enD, ecD, kAD, knD, kcD, pAD, pnD, pcD⟩ : MP).en (⟨eAD, enD, ecD, kAD, knD, kcD, pAD, pnD, pcD⟩ : MP).ec, .slice (⟨eAD, enD, ecD, kAD, knD, kcD, pAD, pnD, pcD⟩ : MP).kA (⟨eAD, enD, ecD, kAD, knD, kcD, pAD, pnD, pcD⟩ : MP).kn (⟨eAD, enD, ecD, kAD, knD, kcD, pAD, pnD, pcD⟩ : MP).kc, .slice (⟨eAD, enD, ecD, kAD, knD, kcD, pAD, pnD, pcD⟩ : MP).pA (⟨eAD, enD, ecD, kAD, knD, kcD, pAD, pnD, pcD⟩ : MP).pn (⟨eAD, enD, ecD, kAD, knD, kcD, pAD, pnD, pcD⟩ : MP).pc] from rfl)) rfl ?_
    refine Ls_on rfl rfl ?_
    refine Ls_call Try.func18 nm18 rfl rfl (Sound_c w14 yD (⟨eAD, enD, ecD, kAD, knD, kcD, pAD, pnD, pcD⟩ : MP) ⟨hs.rd_at 2 rfl, hs.rd_at 3 rfl, hs.rd_at 4 rfl⟩ (hs.own_le 2 rfl) (hs.own_le 3 rfl) (hs.own_le 4 rfl)) rfl ?_
    rintro v15 w16 ⟨rfl, hsQ17⟩
    replace hs := hs.trans hsQ17
    simp only [List.nil_append, List.cons_append] at hs
    rw [decide_eq_true (hso)]
    refine Ls_run (run_pick_t rfl rfl) rfl ?_
    refine Ls_run (run_assign rfl) rfl ?_
    refine Ls_nil ?_
    refine Jm_seq ?_
    refine St_ret ?_
    refine Jm_ret1 rfl rfl ?_
    exact ⟨_, rfl, rfl, hs.below⟩
set_option maxRecDepth 100000 in
set_option maxHeartbeats 1000000 in
theorem MsgBack_c (w : World) (x : MC) (p : MP) (hm : MRd w x p) (hze : p.en ≤ 9223372036854775807) (hzk : p.kn ≤ 9223372036854775807) (hzp : p.pn ≤ 9223372036854775807) (hin : MIn x) :
    Calls Try.prog 6 [.agg #[.int .i64 x.k, .int .i64 x.f, .int .i64 x.t, .int .i64 x.b, .int .i64 x.a, .int .i64 x.c, .slice p.eA p.en p.ec, .slice p.kA p.kn p.kc, .slice p.pA p.pn p.pc]].toArray w (Ret (fun v' w' => v' = .bool true ∧ Below w.heap.size w w')) := by
  have hs := Sat.start w
  have hen := hm.en
  have hkn := hm.kn
  have hpn := hm.pn
  have hmr := mof_range x.k
  refine Calls_body Try.func6 rfl rfl rfl (envE_cons (i := 0) (v := .agg #[.int .i64 x.k, .int .i64 x.f, .int .i64 x.t, .int .i64 x.b, .int .i64 x.a, .int .i64 x.c, .slice p.eA p.en p.ec, .slice p.kA p.kn p.kc, .slice p.pA p.pn p.pc]) rfl envE_nil) ?_
  refine St_seq ?_
  refine St_region ?_
  refine Ls_box hs rfl rfl ?_
  intro b2 w1 hs
  refine Ls_run (run_assign rfl) rfl ?_
  refine Ls_nil ?_
  refine Jm_seq ?_
  refine St_seq ?_
  refine St_seq ?_
  refine St_region ?_
  refine Ls_call Try.func15 nm15 rfl rfl (mawake_c w1) rfl ?_
  rintro v3 w4 ⟨rfl, hsA5⟩
  replace hs := hs.trans hsA5
  simp only [List.nil_append, List.cons_append] at hs
  refine Ls_run (run_not rfl) rfl ?_
  refine Ls_nil ?_
  refine Jm_seq ?_
  refine St_iff rfl ?_
  refine St_skip ?_
  refine Jm_seq ?_
  refine St_seq ?_
  refine St_region ?_
  refine Ls_run (run_as (run_load_agg agg26 inf26 rfl rfl (hs.blk_cells 0 rfl 0 9)) (show _ = Value.agg #[.int .i64 x.k, .int .i64 x.f, .int .i64 x.t, .int .i64 x.b, .int .i64 x.a, .int .i64 x.c, .slice p.eA p.en p.ec, .slice p.kA p.kn p.kc, .slice p.pA p.pn p.pc] from rfl)) rfl ?_
  refine Ls_call Try.func16 nm16 rfl rfl (EncodeU_c w4 x p (hm.inB hs) hze hzk hzp hin ) rfl ?_
  rintro v7 w9 ⟨AE, cE, rfl, hsE⟩
  replace hs := hs.trans hsE
  simp only [List.nil_append, List.cons_append] at hs
  refine Ls_run (run_move rfl) rfl ?_
  refine Ls_run (run_extract rfl rfl) rfl ?_
  refine Ls_run (run_extract rfl rfl) rfl ?_
  refine Ls_run (run_assign rfl) rfl ?_
  refine Ls_run (run_assign rfl) rfl ?_
  refine Ls_nil ?_
  refine Jm_seq ?_
  refine St_seq ?_
  refine St_seq ?_
  refine St_region ?_
  refine Ls_run (run_move rfl) rfl ?_
  refine Ls_run (run_neq rfl rfl) rfl ?_
  refine Ls_nil ?_
  refine Jm_seq ?_
  refine St_ifP rfl (fun h10 => ?_) (fun h10 => ?_)
  · skip
    have hso0 : ¬ Msound x := fun q => by simp [Merr, q] at *
    refine St_seq ?_
    refine St_region ?_
    refine Ls_run (run_move rfl) rfl ?_
    refine Ls_run (run_asB (c := true) (run_eql rfl rfl) (by simp [Merr, hso0])) rfl ?_
    refine Ls_run (run_move rfl) rfl ?_
    refine Ls_on rfl rfl ?_
    refine Ls_run (run_move rfl) rfl ?_
    refine Ls_on rfl rfl ?_
    refine Ls_run (run_len Try.underlying28 rfl) rfl ?_
    refine Ls_on rfl rfl ?_
    refine Ls_run (run_asB (c := true) (run_eql rfl rfl) (by simp [Mout, hso0])) rfl ?_
    refine Ls_run (run_pick_t rfl rfl) rfl ?_
    refine Ls_run (run_move rfl) rfl ?_
    refine Ls_on rfl rfl ?_
    refine Ls_run (run_as (run_load_agg agg26 inf26 rfl rfl (hs.blk_cells 1 rfl 0 9)) (show _ = Value.agg #[.int .i64 x.k, .int .i64 x.f, .int .i64 x.t, .int .i64 x.b, .int .i64 x.a, .int .i64 x.c, .slice p.eA p.en p.ec, .slice p.kA p.kn p.kc, .slice p.pA p.pn p.pc] from rfl)) rfl ?_
    refine Ls_on rfl rfl ?_
    refine Ls_call Try.func18 nm18 rfl rfl (Sound_c w9 x p (hm.inB hs) hze hzk hzp) rfl ?_
    rintro v11 w12 ⟨rfl, hsQ13⟩
    replace hs := hs.trans hsQ13
    simp only [List.nil_append, List.cons_append] at hs
    rw [decide_eq_false (hso0)]
    refine Ls_on rfl rfl ?_
    refine Ls_run (run_not rfl) rfl ?_
    refine Ls_run (run_pick_t rfl rfl) rfl ?_
    refine Ls_run (run_assign rfl) rfl ?_
    refine Ls_nil ?_
    refine Jm_seq ?_
    refine St_ret ?_
    refine Jm_then_ret  ?_
    refine Jm_ret1 rfl rfl ?_
    exact ⟨_, rfl, rfl, hs.below⟩
  · skip
    have hso : Msound x := Decidable.not_not.1 (fun q => by simp [Merr, q] at *)
    have hou : Mout x = Menc x := by unfold Mout; rw [if_pos hso]
    have hbt := Menc_bytes x
    rw [hou] at hs ⊢
    refine St_skip ?_
    refine Jm_seq ?_
    refine St_seq ?_
    refine St_region ?_
    refine Ls_run (run_move rfl) rfl ?_
    refine Ls_call Try.func20 nm20 rfl rfl (Decode_c w9 _ _ _ (Menc x) (hs.rd_at 0 rfl) hbt (hs.own_le 0 rfl)) rfl ?_
    rintro v14 w15 ⟨⟨eAD, enD, ecD, kAD, knD, kcD, pAD, pnD, pcD⟩, rfl, hsD⟩
    obtain ⟨yD, eD, hMD⟩ : ∃ y e, Mdec (Menc x) = (y, e) := ⟨_, _, rfl⟩
    rw [hMD] at hsD ⊢
    replace hs := hs.trans hsD
    simp only [List.nil_append, List.cons_append] at hs
    have hq9 := Mdec_back hso hin []
    rw [List.append_nil, hMD, if_pos (show ([] : List Int).length = 0 from rfl), Prod.mk.injEq] at hq9
    obtain ⟨hyx, rfl⟩ := hq9
    replace hyx := hyx.symm
    subst hyx
    refine Ls_run (run_move rfl) rfl ?_
    refine Ls_run (run_extract rfl rfl) rfl ?_
    refine Ls_run (run_extract rfl rfl) rfl ?_
    refine Ls_alloc hs inf26 rfl ?_
    intro b17 w16 hs
    refine Ls_storeAgg hs inf26 rfl rfl rfl rfl (by simp [Value.oneCell']) ?_
    intro w18 hs
    refine Ls_run (run_assign rfl) rfl ?_
    refine Ls_nil ?_
    refine Jm_seq ?_
    refine St_seq ?_
    refine St_seq ?_
    refine St_region ?_
    refine Ls_run (run_move rfl) rfl ?_
    refine Ls_run (run_asB (c := false) (run_neq rfl rfl) rfl) rfl ?_
    refine Ls_run (run_move rfl) rfl ?_
    refine Ls_on rfl rfl ?_
    refine Ls_run (run_as (run_load_agg agg26 inf26 rfl rfl (hs.blk_cells 0 rfl 0 9)) (show _ = Value.agg #[.int .i64 x.k, .int .i64 x.f, .int .i64 x.t, .int .i64 x.b, .int .i64 x.a, .int .i64 x.c, .slice (⟨eAD, enD, ecD, kAD, knD, kcD, pAD, pnD, pcD⟩ : MP).eA (⟨eAD, enD, ecD, kAD, knD, kcD, pAD, pnD, pcD⟩ : MP).en (⟨eAD, enD, ecD, kAD, knD, kcD, pAD, pnD, pcD⟩ : MP).ec, .slice (⟨eAD, enD, ecD, kAD, knD, kcD, pAD, pnD, pcD⟩ : MP).kA (⟨eAD, enD, ecD, kAD, knD, kcD, pAD, pnD, pcD⟩ : MP).kn (⟨eAD, enD, ecD, kAD, knD, kcD, pAD, pnD, pcD⟩ : MP).kc, .slice (⟨eAD, enD, ecD, kAD, knD, kcD, pAD, pnD, pcD⟩ : MP).pA (⟨eAD, enD, ecD, kAD, knD, kcD, pAD, pnD, pcD⟩ : MP).pn (⟨eAD, enD, ecD, kAD, knD, kcD, pAD, pnD, pcD⟩ : MP).pc] from rfl)) rfl ?_
    refine Ls_on rfl rfl ?_
    refine Ls_run (run_as (run_load_agg agg26 inf26 rfl rfl (hs.blk_cells 5 rfl 0 9)) (show _ = Value.agg #[.int .i64 x.k, .int .i64 x.f, .int .i64 x.t, .int .i64 x.b, .int .i64 x.a, .int .i64 x.c, .slice p.eA p.en p.ec, .slice p.kA p.kn p.kc, .slice p.pA p.pn p.pc] from rfl)) rfl ?_
    refine Ls_on rfl rfl ?_
    refine Ls_call Try.func22 nm22 rfl rfl (same_c w18 x (⟨eAD, enD, ecD, kAD, knD, kcD, pAD, pnD, pcD⟩ : MP) ⟨hs.rd_at 1 rfl, hs.rd_at 2 rfl, hs.rd_at 3 rfl⟩ (hs.own_le 1 rfl) (hs.own_le 2 rfl) (hs.own_le 3 rfl) x p (hm.inB hs)) rfl ?_
    rintro v19 w20 ⟨rfl, hsS⟩
    replace hs := hs.trans hsS
    simp only [List.nil_append, List.cons_append] at hs
    rw [decide_eq_true (rfl)]
    refine Ls_on rfl rfl ?_
    refine Ls_run (run_not rfl) rfl ?_
    refine Ls_run (run_pick_f rfl rfl) rfl ?_
    refine Ls_nil ?_
    refine Jm_seq ?_
    refine St_iff rfl ?_
    refine St_skip ?_
    refine Jm_seq ?_
    refine St_seq ?_
    refine St_seq ?_
    refine St_region ?_
    refine Ls_run (run_assign rfl) rfl ?_
    refine Ls_nil ?_
    refine Jm_seq ?_
    refine St_block ?_
    replace hs := hs.erase 1
    simp only [List.cons_append, List.nil_append, List.eraseIdx_cons_zero, List.eraseIdx_cons_succ] at hs
    replace hs := hs.erase 1
    simp only [List.cons_append, List.nil_append, List.eraseIdx_cons_zero, List.eraseIdx_cons_succ] at hs
    replace hs := hs.erase 1
    simp only [List.cons_append, List.nil_append, List.eraseIdx_cons_zero, List.eraseIdx_cons_succ] at hs
    replace hs := hs.front 2 rfl
    simp only [List.cons_append, List.nil_append, List.eraseIdx_cons_zero, List.eraseIdx_cons_succ] at hs
    replace hs := hs.front 1 rfl
    simp only [List.cons_append, List.nil_append, List.eraseIdx_cons_zero, List.eraseIdx_cons_succ] at hs
    replace hs := hs.front 2 rfl
    simp only [List.cons_append, List.nil_append, List.eraseIdx_cons_zero, List.eraseIdx_cons_succ] at hs
    obtain ⟨En22, hEn22⟩ : ∃ F : Nat × List Value → Env, ∀ (i : Nat) (cs : List Value), F (i, cs) = [(1, .pointer (some ⟨b2, 0, none⟩)), (3, .slice AE (Menc x).length cE), (5, .pointer (some ⟨b17, 0, none⟩)), (6, .int .i64 (i : Int))] := ⟨(fun (s : Nat × List Value) => match s with | (i, cs) => [(1, .pointer (some ⟨b2, 0, none⟩)), (3, .slice AE (Menc x).length cE), (5, .pointer (some ⟨b17, 0, none⟩)), (6, .int .i64 (i : Int))]), fun _ _ => rfl⟩
    obtain ⟨Iv23, hIv23⟩ : ∃ F : Nat × List Value → World → Prop, ∀ (i : Nat) (cs : List Value) (wr : World), F (i, cs) wr = (Sat w wr [Own 5 1 (.slice AE (Menc x).length cE) (Menc x).length (bytesV (Menc x)), Blk b17 cs 26, Blk b2 [.int .i64 x.k, .int .i64 x.f, .int .i64 x.t, .int .i64 x.b, .int .i64 x.a, .int .i64 x.c, .slice p.eA p.en p.ec, .slice p.kA p.kn p.kc, .slice p.pA p.pn p.pc] 26] ∧ i ≤ (Menc x).length ∧ cs.length = 9) := ⟨(fun (s : Nat × List Value) => match s with | (i, cs) => fun (wr : World) => Sat w wr [Own 5 1 (.slice AE (Menc x).length cE) (Menc x).length (bytesV (Menc x)), Blk b17 cs 26, Blk b2 [.int .i64 x.k, .int .i64 x.f, .int .i64 x.t, .int .i64 x.b, .int .i64 x.a, .int .i64 x.c, .slice p.eA p.en p.ec, .slice p.kA p.kn p.kc, .slice p.pA p.pn p.pc] 26] ∧ i ≤ (Menc x).length ∧ cs.length = 9), fun _ _ _ => rfl⟩
    obtain ⟨ms24, hms24⟩ : ∃ F : Nat × List Value → Nat, ∀ (i : Nat) (cs : List Value), F (i, cs) = ((Menc x).length - i) := ⟨(fun (s : Nat × List Value) => match s with | (i, cs) => (Menc x).length - i), fun _ _ => rfl⟩
    refine St_loop En22 Iv23 ms24 (0, mcells x (⟨eAD, enD, ecD, kAD, knD, kcD, pAD, pnD, pcD⟩ : MP)) ?_ ?_ ?_
    · skip
      rw [hIv23]
      exact ⟨hs, by omega, rfl⟩
    · rw [hEn22]; exact (subE_cons rfl (subE_cons rfl (subE_cons rfl (subE_cons rfl subE_nil))))
    rintro ⟨i, cs⟩ wr hI25
    rw [hIv23] at hI25
    obtain ⟨hs, hi, hcs⟩ := hI25
    refine St_eqE (hEn22 _ _) ?_
    have hlE := hs.own_le 0 rfl
    have hcE := (hs.rd_at 0 rfl).cap
    refine St_seq ?_
    refine St_seq ?_
    refine St_region ?_
    refine Ls_run (run_move rfl) rfl ?_
    refine Ls_run (run_move rfl) rfl ?_
    refine Ls_run (run_len Try.underlying28 rfl) rfl ?_
    refine Ls_run (run_lss rfl rfl) rfl ?_
    refine Ls_nil ?_
    refine Jm_seq ?_
    refine St_ifP rfl (fun h26 => ?_) (fun h26 => ?_)
    · skip
      refine St_skip ?_
      refine Jm_seq ?_
      refine St_seq ?_
      refine St_block ?_
      refine St_seq ?_
      refine St_region ?_
      refine Ls_run (run_move rfl) rfl ?_
      refine Ls_run (run_move rfl) rfl ?_
      refine Ls_run (run_as (run_slice_h Try.underlying28 inf5 rfl rfl (by omega) (by omega)) (show _ = Value.slice AE i cE from rfl)) rfl ?_
      refine Ls_call Try.func20 nm20 rfl rfl (Decode_c wr _ i _ ((Menc x).take i) (rdB_take (hs.rd_at 0 rfl) i (by omega)) (hbt.take' i) (by omega)) rfl ?_
      rintro v27 w28 ⟨⟨eAF, enF, ecF, kAF, knF, kcF, pAF, pnF, pcF⟩, rfl, hsF⟩
      obtain ⟨yF, eF, hMF⟩ : ∃ y e, Mdec ((Menc x).take i) = (y, e) := ⟨_, _, rfl⟩
      rw [hMF] at hsF ⊢
      replace hs := hs.trans hsF
      simp only [List.nil_append, List.cons_append] at hs
      have hq8 := Mdec_cut hso hin (by omega) hbt (k := i)
      rw [hMF, Prod.mk.injEq] at hq8
      obtain ⟨rfl, rfl⟩ := hq8
      refine Ls_run (run_move rfl) rfl ?_
      refine Ls_run (run_extract rfl rfl) rfl ?_
      refine Ls_run (run_extract rfl rfl) rfl ?_
      replace hs := hs.front 4 rfl
      simp only [List.cons_append, List.nil_append, List.eraseIdx_cons_zero, List.eraseIdx_cons_succ] at hs
      refine Ls_storeAgg hs inf26 rfl rfl rfl hcs (by simp [Value.oneCell']) ?_
      intro w29 hs
      refine Ls_run (run_assign rfl) rfl ?_
      refine Ls_nil ?_
      refine Jm_seq ?_
      refine St_seq ?_
      refine St_region ?_
      refine Ls_run (run_move rfl) rfl ?_
      refine Ls_run (run_asB (c := false) (run_neq rfl rfl) rfl) rfl ?_
      refine Ls_run (run_move rfl) rfl ?_
      refine Ls_on rfl rfl ?_
      refine Ls_run (run_as (run_load_agg agg26 inf26 rfl rfl (hs.blk_cells 0 rfl 0 9)) (show _ = Value.agg #[.int .i64 MC0.k, .int .i64 MC0.f, .int .i64 MC0.t, .int .i64 MC0.b, .int .i64 MC0.a, .int .i64 MC0.c, .slice (⟨eAF, enF, ecF, kAF, knF, kcF, pAF, pnF, pcF⟩ : MP).eA (⟨eAF, enF, ecF, kAF, knF, kcF, pAF, pnF, pcF⟩ : MP).en (⟨eAF, enF, ecF, kAF, knF, kcF, pAF, pnF, pcF⟩ : MP).ec, .slice (⟨eAF, enF, ecF, kAF, knF, kcF, pAF, pnF, pcF⟩ : MP).kA (⟨eAF, enF, ecF, kAF, knF, kcF, pAF, pnF, pcF⟩ : MP).kn (⟨eAF, enF, ecF, kAF, knF, kcF, pAF, pnF, pcF⟩ : MP).kc, .slice (⟨eAF, enF, ecF, kAF, knF, kcF, pAF, pnF, pcF⟩ : MP).pA (⟨eAF, enF, ecF, kAF, knF, kcF, pAF, pnF, pcF⟩ : MP).pn (⟨eAF, enF, ecF, kAF, knF, kcF, pAF, pnF, pcF⟩ : MP).pc] from rfl)) rfl ?_
      refine Ls_on rfl rfl ?_
      refine Ls_run (run_as (run_buildO (pv := []) rfl (bld26 )) (show _ = Value.agg #[.int .i64 MC0.k, .int .i64 MC0.f, .int .i64 MC0.t, .int .i64 MC0.b, .int .i64 MC0.a, .int .i64 MC0.c, .slice MP0.eA MP0.en MP0.ec, .slice MP0.kA MP0.kn MP0.kc, .slice MP0.pA MP0.pn MP0.pc] from rfl)) rfl ?_
      refine Ls_on rfl rfl ?_
      refine Ls_call Try.func22 nm22 rfl rfl (same_c w29 MC0 (⟨eAF, enF, ecF, kAF, knF, kcF, pAF, pnF, pcF⟩ : MP) ⟨hs.rd_at 1 rfl, hs.rd_at 2 rfl, hs.rd_at 3 rfl⟩ (hs.own_le 1 rfl) (hs.own_le 2 rfl) (hs.own_le 3 rfl) MC0 MP0 ⟨Rd.none _ 1, Rd.none _ 1, Rd.none _ 3⟩) rfl ?_
      rintro v30 w31 ⟨rfl, hsS⟩
      replace hs := hs.trans hsS
      simp only [List.nil_append, List.cons_append] at hs
      rw [decide_eq_true (rfl)]
      refine Ls_on rfl rfl ?_
      refine Ls_run (run_not rfl) rfl ?_
      refine Ls_run (run_pick_f rfl rfl) rfl ?_
      refine Ls_nil ?_
      refine Jm_seq ?_
      refine St_iff rfl ?_
      refine St_skip ?_
      refine Jm_block_normal (Jm_seq ?_)
      refine St_region ?_
      refine Ls_run (run_move rfl) rfl ?_
      refine Ls_run (run_add rfl rfl (w64 (by omega))) rfl ?_
      refine Ls_run (run_assign rfl) rfl ?_
      refine Ls_nil ?_
      replace hs := hs.erase 1
      simp only [List.cons_append, List.nil_append, List.eraseIdx_cons_zero, List.eraseIdx_cons_succ] at hs
      replace hs := hs.erase 1
      simp only [List.cons_append, List.nil_append, List.eraseIdx_cons_zero, List.eraseIdx_cons_succ] at hs
      replace hs := hs.erase 1
      simp only [List.cons_append, List.nil_append, List.eraseIdx_cons_zero, List.eraseIdx_cons_succ] at hs
      replace hs := hs.front 2 rfl
      simp only [List.cons_append, List.nil_append, List.eraseIdx_cons_zero, List.eraseIdx_cons_succ] at hs
      replace hs := hs.front 1 rfl
      simp only [List.cons_append, List.nil_append, List.eraseIdx_cons_zero, List.eraseIdx_cons_succ] at hs
      replace hs := hs.front 2 rfl
      simp only [List.cons_append, List.nil_append, List.eraseIdx_cons_zero, List.eraseIdx_cons_succ] at hs
      refine Jm_round (i + 1, mcells MC0 (⟨eAF, enF, ecF, kAF, knF, kcF, pAF, pnF, pcF⟩ : MP)) ?_ ?_ ?_
      · rw [hEn22]; exact (subE_cons rfl (subE_cons rfl (subE_cons rfl (subE_cons rfl subE_nil))))
      · skip
        rw [hIv23]
        exact ⟨hs, by omega, rfl⟩
      · skip
        rw [hms24, hms24]
        omega
    · skip
      refine St_exit ?_
      refine Jm_then_exit (Jm_then_exit (Jm_block_same (Jm_seq ?_)))
      refine St_seq ?_
      refine St_region ?_
      refine Ls_literal [] hs Try.underlying28 inf5 rfl rfl rfl rfl rfl rfl ?_
      intro b33 w34 hs
      simp only [List.flatMap_cons, List.flatMap_nil, Value.cells, List.cons_append, List.nil_append] at hs
      replace hs := Sat.own_block hs 1 0 rfl (by decide)
      refine Ls_run (run_move rfl) rfl ?_
      have hlE := hs.own_le 0 rfl
      have hlm := Menc_len hso hin
      refine Ls_append hs Try.underlying28 inf5 rfl (by decide) (by decide) rfl rfl (hs.rd_at 1 rfl) (bytesV_one' _) (by omega) rfl ?_
      intro A35 c36 w37 hs
      refine Ls_literal [_] hs Try.underlying28 inf5 rfl rfl rfl rfl rfl rfl ?_
      intro b38 w39 hs
      simp only [List.flatMap_cons, List.flatMap_nil, Value.cells, List.cons_append, List.nil_append] at hs
      replace hs := hs.front 1 rfl
      simp only [List.cons_append, List.nil_append, List.eraseIdx_cons_zero, List.eraseIdx_cons_succ] at hs
      refine Ls_append hs Try.underlying28 inf5 rfl (by decide) (by decide) rfl rfl (rd_block (hs.is_at 1 rfl).2 1 1 rfl) (by simp [Value.oneCell']) (by omega) rfl ?_
      intro A40 c41 w42 hs
      replace hs := hs.erase 1
      simp only [List.cons_append, List.nil_append, List.eraseIdx_cons_zero, List.eraseIdx_cons_succ] at hs
      rw [show (bytesV (Menc x) ++ [Value.int .u8 0] : List Value) = bytesV (Menc x ++ [0]) from by rw [bytesV_append]; rfl] at hs
      refine Ls_call Try.func20 nm20 rfl rfl (Decode_c w42 _ _ _ (Menc x ++ [0]) (hs.rd_at 0 rfl) (fun q hq => by rcases List.mem_append.1 hq with hq | hq; exact hbt q hq; simp at hq; omega) (hs.own_le 0 rfl)) rfl ?_
      rintro v43 w44 ⟨⟨eAG, enG, ecG, kAG, knG, kcG, pAG, pnG, pcG⟩, rfl, hsG⟩
      obtain ⟨yG, eG, hMG⟩ : ∃ y e, Mdec (Menc x ++ [0]) = (y, e) := ⟨_, _, rfl⟩
      rw [hMG] at hsG ⊢
      replace hs := hs.trans hsG
      simp only [List.nil_append, List.cons_append] at hs
      have hq7 := Mdec_back hso hin [0]
      rw [hMG, if_neg (by simp), Prod.mk.injEq] at hq7
      obtain ⟨rfl, rfl⟩ := hq7
      refine Ls_run (run_move rfl) rfl ?_
      refine Ls_run (run_extract rfl rfl) rfl ?_
      refine Ls_run (run_extract rfl rfl) rfl ?_
      refine Ls_run (run_assign rfl) rfl ?_
      refine Ls_nil ?_
      refine Jm_seq ?_
      refine St_seq ?_
      refine St_region ?_
      refine Ls_run (run_move rfl) rfl ?_
      refine Ls_run (run_asB (c := true) (run_eql rfl rfl) rfl) rfl ?_
      refine Ls_run (run_assign rfl) rfl ?_
      refine Ls_nil ?_
      refine Jm_seq ?_
      refine St_ret ?_
      refine Jm_ret1 rfl rfl ?_
      exact ⟨_, rfl, rfl, hs.below⟩
end Go.Proofs.Ytipkfdeiallifaa.Lg
