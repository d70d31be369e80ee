/-
  Part 4 of the proof: Co5, Co6, Co7, Co8, Co9, Co10, CoInv, CoInv2, Co11, CoRun, Co12, Co13, CoRun2, Co14, Fi. No condition.
-/
import Derived.Test.YtcifdianinbkeaaCg3
set_option linter.unusedVariables false
set_option linter.unusedSimpArgs false
namespace Go.Proofs.Ytcifdianinbkeaa.Lg
open Go Go.RowKit Go.Proofs.Ytcifdianinbkeaa.WirePure Go.Proofs.Ytcifdianinbkeaa.PlanPure
theorem fst_getD (vt : List TT) (i : Nat) : (vt.map Prod.fst).getD i T0.1 = (vt.getD i T0).1 := by
  simp only [List.getD_eq_getElem?_getD, List.getElem?_map]
  cases vt[i]? <;> rfl
theorem flatKT_snoc (l : List TT) (x : TT) : KT.flat (l ++ [x]) = KT.flat l ++ tcells x := by simp [El.flat, KT]
theorem within_hi {x : Int} (h : within x) : 0 ≤ x ∧ x ≤ 1099511627776 := h
set_option maxRecDepth 100000 in
set_option maxHeartbeats 1000000 in
theorem cTick_c (B w : World) (L : List Assn) (bc bd bj : Nat) (p : PlanA) (ops : OpL) (tr : List TSt) (e : Bool) (j : JSt) (d : DSt) (hs : Sat B w (CA 79 43 bc bd bj p ops tr e :: JA 108 3 bj (some ⟨bd, 0, none⟩) j :: DiskA 122 125 5 bd d :: L)) (hti : ∀ t ∈ tr, -4611686018427387904 ≤ t.ti ∧ t.ti ≤ 4611686018427387904) (hwn : tr.length ≤ 1024) (hzt : ∀ t ∈ ageT p.gu tr, t.to.length ≤ 1073741824) (hjo : JOk j) (hdok : ∀ x ∈ d.bl, IsBytes x ∧ x.length ≤ 1024) (hpn : p.on ≤ 9223372036854775807) :
    Calls Try.prog 11 [.pointer (some ⟨bc, 0, none⟩)].toArray w (Ret (fun v' w' => ∃ v, v' = .tuple #[v, .int .i64 (ctick p ops tr e j d).2.1] ∧ Sat B w' (MO 41 3 v (ctick p ops tr e j d).1 :: CA 79 43 bc bd bj p ops (ctick p ops tr e j d).2.2.1 (ctick p ops tr e j d).2.2.2.1 :: JA 108 3 bj (some ⟨bd, 0, none⟩) (ctick p ops tr e j d).2.2.2.2.1 :: DiskA 122 125 5 bd (ctick p ops tr e j d).2.2.2.2.2 :: L))) := by
  have hlen := noteOk_len hjo.1
  have hp4 := hjo.2.2.1
  have hz : j.n.prev.length ≤ 1073741824 ∧ j.n.cur.length ≤ 1073741824 := by omega
  have hbt := within_hi hjo.1.1
  have hat := within_hi hjo.1.2.1
  refine Zb Try.func11 rfl rfl rfl (Zs (Za rfl (Za rfl (Zj (St_seq (Zs (Zm rfl (Zc fn32 rfl (ccheck_c B w L bc bd bj p ops tr e j d hs) rfl ?_))))))))
  rintro v1 w2 ⟨rfl, hs⟩
  refine Za rfl (Zt (Zm rfl (Zr (run_neq rfl rfl) rfl (Zj (St_ifP rfl (fun h3 => ?_) (fun h3 => ?_))))))
  · have hev : (e || j.ended || d.down) = true := by
      by_cases q : (e || j.ended || d.down) = true
      · exact q
      · rw [if_neg q] at h3; simp at h3
    refine Zs (Zm rfl (Za rfl (Za rfl (Zj (St_ret (Jm_then_ret (Jm_ret2 rfl rfl rfl ?_)))))))
    have e9 : ctick p ops tr e j d = (none, 80, tr, (e || j.ended || d.down), j, d) := by unfold ctick; rw [if_pos hev]
    rw [e9]
    exact ⟨_, rfl, _, by rw [if_pos hev], hs.toMoNone⟩
  have hev : ¬ (e || j.ended || d.down) = true := fun q => by rw [if_pos q] at h3; simp at h3
  refine St_skip (Zq (Zs (Zm rfl (Zc fn33 rfl (age_c B w2 _ bc bd bj p ops tr (e || j.ended || d.down) hs hti (by omega)) rfl ?_))))
  rintro v4 w5 ⟨rfl, hs⟩
  obtain ⟨ta, hta⟩ : ∃ q, ageT p.gu tr = q := ⟨_, rfl⟩
  have htl := ageT_len p.gu tr
  rw [hta] at hs htl hzt
  obtain ⟨vt, A, c, hvt, hs⟩ := hs.copen
  have hvl : vt.length = ta.length := by rw [← hvt, List.length_map]
  have hvl0 := hvl
  refine Zt (Zm rfl (Zk rfl (Zf un79 inf44 rfl 10 rfl (Zl sc44 rfl (hs.blk_at 0 rfl 10 rfl) (Zr (run_len un44 rfl) rfl (Za rfl (Zj (St_seq (Zs (Zm rfl (Zm rfl (Zk rfl (Zf un79 inf24 rfl 0 rfl (Zf un24 inf3 rfl 6 rfl (Zl sc3 rfl (hs.blk_at 0 rfl 6 rfl) (Zr (run_geq rfl rfl) rfl (Zm rfl (Ls_partP (t := 28) rfl (fun h6 => ?_) (fun h6 => ?_)))))))))))))))))))
  · refine Zx rfl (Zx rfl (Zx rfl (Zu rfl (Zu rfl (Zu rfl (Zu rfl (Zu rfl (Zu rfl (Zu rfl (Zu rfl (Zu rfl (Zu rfl (Zx rfl (Zr (run_pick_t rfl rfl) rfl (Zj (St_ift rfl (Zs (Za rfl (Za rfl (Zj (St_ret (Jm_then_ret (Jm_ret2 rfl rfl rfl ?_)))))))))))))))))))))))
    replace hs := hs.F4.F4.F4.F4.F4
    replace hs := Sat.cshut hvt hs
    have hcond : p.wi ≤ (ta.length : Int) ∨ (0 < ta.length ∧ (ta.getD (ta.length - 1) T0.1).ph = 1) := by
      first | exact .inl (by omega) | exact .inr ⟨by omega, by rw [← hvt, fst_getD, List.length_map, hxl0]; omega⟩
    have e9 : ctick p ops tr e j d = (none, 0, ta, (e || j.ended || d.down), j, d) := by unfold ctick; rw [if_neg hev, hta, if_pos hcond]
    rw [e9]
    exact ⟨_, rfl, _, rfl, hs.toMoNone⟩
  refine Zo rfl (Zm rfl (Zo rfl (Zr (run_gtr rfl rfl) rfl (Zo rfl (Zm rfl (Ls_partP (t := 31) rfl (fun h8 => ?_) (fun h8 => ?_)))))))
  · refine Zo rfl (Zm rfl (Zo rfl (Zk rfl (Zo rfl (Zf un79 inf44 rfl 10 rfl (Zo rfl (Zl sc44 rfl (hs.blk_at 0 rfl 10 rfl) (Zo rfl (Zm rfl (Zo rfl (Zr (run_sub rfl rfl (w64 (by omega))) rfl (Zo rfl ?_))))))))))))
    obtain ⟨xl, hxl0⟩ : ∃ q, vt.getD (vt.length - 1) T0 = q := ⟨_, rfl⟩
    have hxl : vt.getD ((vt.length : Int) - 1).toNat T0 = xl := by rw [show ((vt.length : Int) - 1).toNat = vt.length - 1 by omega]; exact hxl0
    have hxm : xl ∈ vt := by rw [← hxl0]; exact getD_mem3 (by omega)
    refine Ls_index (KT) (hs.rd_at 1 rfl) un44 inf43 rfl rfl (by omega) (by omega) hxl rfl (fun b9 o10 hc11 => (Zo rfl (Zr (run_field un43 rfl inf3 (by decide) rfl) rfl (Zo rfl (Zl sc3 rfl (hc11 3 _ rfl) (Zo rfl (Zr (run_eql rfl rfl) rfl (Zo rfl (Zr (run_pick_t rfl rfl) rfl (Zr (run_pick_f rfl rfl) rfl (Zj (St_ifP rfl (fun h12 => ?_) (fun h12 => ?_)))))))))))))
    · refine Zs (Za rfl (Za rfl (Zj (St_ret (Jm_then_ret (Jm_ret2 rfl rfl rfl ?_))))))
      replace hs := hs.F4.F4.F4.F4.F4
      replace hs := Sat.cshut hvt hs
      have hcond : p.wi ≤ (ta.length : Int) ∨ (0 < ta.length ∧ (ta.getD (ta.length - 1) T0.1).ph = 1) := by
        first | exact .inl (by omega) | exact .inr ⟨by omega, by rw [← hvt, fst_getD, List.length_map, hxl0]; omega⟩
      have e9 : ctick p ops tr e j d = (none, 0, ta, (e || j.ended || d.down), j, d) := by unfold ctick; rw [if_neg hev, hta, if_pos hcond]
      rw [e9]
      exact ⟨_, rfl, _, rfl, hs.toMoNone⟩
    refine St_skip (Zq (Zs ?_))
    have hncond : ¬ (p.wi ≤ (ta.length : Int) ∨ (0 < ta.length ∧ (ta.getD (ta.length - 1) T0.1).ph = 1)) := by
      rintro (q | ⟨q, q2⟩)
      · omega
      · first | omega | (rw [← hvt, fst_getD, List.length_map, hxl0] at q2; omega)
    refine Zm rfl (Zk rfl (Zf un79 inf77 rfl 9 rfl (Zl sc77 rfl (hs.blk_at 0 rfl 9 rfl) ?_)))
    replace hs := hs.F3
    refine Zc fn34 rfl (Note_c B w5 _ bj _ j hs hz) rfl ?_
    rintro v13 w14 ⟨Ap2, cp2, Ac2, cc2, rfl, hs⟩
    refine Ls_alloc hs inf53 rfl (fun b16 w15 hs => (Ls_storeAgg hs inf53 rfl rfl rfl rfl (by simp [Value.oneCell', Value.cells]) (fun w17 hs => (Zt (Zf un53 inf3 rfl 3 rfl (Zl sc3 rfl (hs.blk_at 0 rfl 3 rfl) (Zr (run_add rfl rfl (w64 (by omega))) rfl (Zf un53 inf3 rfl 3 rfl (Ls_store hs inf3 rfl rfl rfl rfl (fun w18 hs => ?_))))))))))
    try simp only [List.set_cons_zero, List.set_cons_succ] at hs
    refine Zj (St_seq (Zs (Zm rfl (Zr (run_load_agg agg53 inf53 rfl rfl (hs.blk_cells 0 rfl 0 4)) rfl ?_))))
    replace hs := hs.F2.F2.F7.F4.F7.F7.F7
    replace hs := Sat.cshut hvt hs
    refine Zc fn35 rfl (csave_c B w18 _ bc bd bj p ops ta (e || j.ended || d.down) j d hs hjo hdok (nextN j) Ap2 cp2 Ac2 cc2 (fun w' X q => q.rd_at 1 rfl) (fun w' X q => q.rd_at 2 rfl) (by show j.n.prev.length ≤ _ ∧ j.n.cur.length ≤ _; omega)) rfl ?_
    rintro v19 w20 ⟨rfl, hs⟩
    obtain ⟨⟨e2, j2, d2⟩, hj2⟩ : ∃ q, jsave j d (nextN j) = q := ⟨_, rfl⟩
    simp only [hj2] at hs ⊢
    refine Za rfl (Zt (Zm rfl (Zj (St_block (Zs (Zr (run_eql rfl rfl) rfl (Za rfl (Zj (St_ifP rfl (fun h21 => ?_) (fun h21 => ?_))))))))))
    · obtain ⟨vt2, A2, c2, hvt, h9⟩ := hs.copen
      replace hs := h9
      have hvl : vt2.length = ta.length := by rw [← hvt, List.length_map]
      refine St_skip (Jm_block_normal (Zq (St_seq ?_)))
      replace hs := hs.F7
      refine St_hold (Hold.of (Ls := [_, _]) hs) mixed (fun w22 q23 => ?_)
      replace hs := hs.quiet q23
      have hH := Hold.of (Ls := [_, _]) hs
      refine Ya hH 0 rfl (by kernel_rfl) (fun x hx => run_fd un53 inf51 rfl 0 rfl) (Ya hH 1 rfl (by kernel_rfl) (fun x hx => run_fd un51 inf3 rfl 0 rfl) (Ya hH 2 rfl (by kernel_rfl) (fun x hx => run_load sc3 rfl (hx.choose_spec.blk_at 0 rfl 0 rfl)) (Ym hH 3 rfl (by kernel_rfl) rfl (Ya hH 4 rfl (by kernel_rfl) (fun x hx => run_add rfl rfl (w64 (by omega))) (Ya hH 5 rfl (by kernel_rfl) (fun x hx => run_add rfl rfl (w64 (by omega))) (Ya hH 6 rfl (by kernel_rfl) (fun x hx => run_fd un53 inf3 rfl 3 rfl) (Ya hH 7 rfl (by kernel_rfl) (fun x hx => run_load sc3 rfl (hx.choose_spec.blk_at 0 rfl 3 rfl)) (Ym hH 8 rfl (by kernel_rfl) rfl (Ya hH 9 rfl (by kernel_rfl) (fun x hx => run_nilCheck rfl) (Ya hH 10 rfl (by kernel_rfl) (fun x hx => run_fd un79 inf24 rfl 0 rfl) (Ya hH 11 rfl (by kernel_rfl) (fun x hx => run_load_agg agg24 inf24 rfl rfl (hx.choose_spec.blk_cells 1 rfl 0 8)) (Ya hH 12 rfl (by kernel_rfl) (fun x hx => run_fd un53 inf3 rfl 3 rfl) (Ya hH 13 rfl (by kernel_rfl) (fun x hx => run_load sc3 rfl (hx.choose_spec.blk_at 0 rfl 3 rfl)) (Ya hH 15 rfl (by kernel_rfl) (fun x hx => run_fd un53 inf51 rfl 0 rfl) (Ya hH 16 rfl (by kernel_rfl) (fun x hx => run_fd un51 inf25 rfl 2 rfl) (Ya hH 17 rfl (by kernel_rfl) (fun x hx => run_load sc25 rfl (hx.choose_spec.blk_at 0 rfl 2 rfl)) (An_two 14 19 (by kernel_rfl) rfl rfl ?_ ?_)))))))))))))))))
      · refine Zc fn25 rfl (WorkerOf_c w22 p ops (hs.kept 3 rfl).2 hpn (j.n.att + 1) (by omega)) rfl ?_
        rintro v24 w25 ⟨rfl, hsQ⟩
        replace hs := hs.T hsQ
        replace hs := hs.F1.F1
        replace hH := Hold.of (Ls := [_, _]) hs
        refine Ls_nil (Jm_An hH (Ya hH 18 rfl (by kernel_rfl) (fun x hx => run_buildO (pv := [(0, _), (1, _), (2, _), (3, _), (5, _)]) rfl (bld43_0_1_2_3_5 _ _ _ _ _ _ _)) (An_only 19 (by kernel_rfl) rfl (Ls_alloc hs inf43 rfl (fun b27 w26 hs => ?_)))))
        replace hs := hs.F2.F2
        replace hH := Hold.of (Ls := [_, _]) hs
        refine Ls_nil (Jm_An hH (An_only 20 (by kernel_rfl) rfl ?_))
        replace hs := hs.F2
        refine Ls_storeAgg hs inf43 rfl rfl rfl rfl (by simp [Value.oneCell', Value.cells]) (fun w28 hs => ?_)
        replace hs := hs.F2.F2
        replace hH := Hold.of (Ls := [_, _]) hs
        refine Ls_nil (Jm_An hH (An_done (by kernel_rfl) (Zq (St_seq (Zs (Zm rfl (Zr (run_gtr rfl rfl) rfl (Zj (St_ifP rfl (fun h29 => ?_) (fun h29 => ?_))))))))))
        · refine St_region (Zm rfl (Zk rfl (Zf un79 inf44 rfl 10 rfl (Zl sc44 rfl (hs.blk_at 1 rfl 10 rfl) (Zm rfl (Zr (run_sub rfl rfl (w64 (by omega))) rfl ?_))))))
          obtain ⟨xl, hxl0⟩ : ∃ q, vt2.getD (vt2.length - 1) T0 = q := ⟨_, rfl⟩
          have hxl : vt2.getD ((vt.length : Int) - 1).toNat T0 = xl := by rw [show ((vt.length : Int) - 1).toNat = vt2.length - 1 by omega]; exact hxl0
          have hxm : xl ∈ vt2 := by rw [← hxl0]; exact getD_mem3 (by omega)
          refine Ls_index (KT) (hs.rd_at 3 rfl) un44 inf43 rfl rfl (by omega) (by omega) hxl rfl (fun b30 o31 hc32 => (Zr (run_field un43 rfl inf25 (by decide) rfl) rfl (Zl sc25 rfl (hc32 6 _ rfl) (Zc fn36 rfl (CloneI_c w28 _ _ _ xl.1.to (((hs.kept 4 rfl).1 _ hxm).2) (hzt xl.1 (by rw [← hvt]; exact List.mem_map_of_mem hxm))) rfl ?_))))
          rintro v33 w34 ⟨Acl, ccl, rfl, hsC⟩
          replace hs := hs.T hsC
          refine Zf un43 inf25 rfl 5 rfl ?_
          replace hs := hs.F3
          refine Ls_store hs inf25 rfl rfl rfl rfl (fun w35 hs => ?_)
          try simp only [List.set_cons_zero, List.set_cons_succ] at hs
          refine Zj (St_seq ?_)
          replace hs := hs.F3
          refine St_holdC 10 (Hold.of (Ls := [_, _]) hs) mixed (fun w36 q37 => ?_)
          replace hs := hs.quiet q37
          have hH := Hold.of (Ls := [_, _]) hs
          refine Yr (fun _ => hH) 0 rfl (by kernel_rfl) (fun x => run_move rfl) (Yr (fun _ => hH) 1 rfl (by kernel_rfl) (fun x => run_move rfl) (Yr (fun _ => hH) 2 rfl (by kernel_rfl) (fun x => run_nilCheck rfl) (Yr (fun _ => hH) 3 rfl (by kernel_rfl) (fun x => run_fd un79 inf44 rfl 10 rfl) (Yd hH 4 [10, 4] rfl (by kernel_rfl) (fun x hx => run_load sc44 rfl (hx.choose_spec.blk_at 0 rfl 10 rfl)) (Yd hH 5 [10, 5] rfl (by kernel_rfl) (fun x hx => run_load_agg agg43 inf43 rfl rfl (hx.choose_spec.blk_cells 1 rfl 0 7)) (AnC_only 6 (by kernel_rfl) rfl (Ls_literal [_] hs un44 inf43 rfl rfl rfl rfl rfl rfl (fun b38 w39 hs => ?_))))))))
          simp only [List.flatMap_cons, List.flatMap_nil, Value.cells, List.cons_append, List.nil_append] at hs
          replace hs := hs.F2.F2
          replace hH := Hold.of (Ls := [_, _]) hs
          refine Ls_nil (Jm_AnC (fun _ => hH) (AnC_only 7 (by kernel_rfl) rfl ?_))
          replace hs := hs.F5
          refine Ls_append hs un44 inf43 rfl (by decide) (by decide) rfl rfl (rd_block (hs.is_at 3 rfl).2 7 1 rfl) (by simp [Value.oneCell']) (by omega) rfl (fun A40 c41 w42 hs => ?_)
          replace hs := hs.E3
          have hx1 : newT p ops j ta = (⟨j.n.batch + (vt.length : Int) + 1, j.n.att + 1, workerOf p ops (j.n.att + 1), 1, 0, xl.1.to, []⟩ : TSt) := by
            unfold newT
            rw [if_pos (by omega), ← hvt, fst_getD, List.length_map, hxl0, show vt2.length = vt.length by omega]
          rw [show KT.flat vt2 ++ _ = KT.flat (vt2 ++ [((⟨j.n.batch + (vt.length : Int) + 1, j.n.att + 1, workerOf p ops (j.n.att + 1), 1, 0, xl.1.to, []⟩ : TSt), (⟨Acl, ccl, none, 0⟩ : TP))]) from by rw [flatKT_snoc]; rfl] at hs
          replace hs := hs.F2.F2
          replace hH := Hold.of (Ls := [_, _]) hs
          refine Ls_nil (Jm_AnC (fun _ => hH) (Yr (fun _ => hH) 8 rfl (by kernel_rfl) (fun x => run_nilCheck rfl) (Yr (fun _ => hH) 9 rfl (by kernel_rfl) (fun x => run_fd un79 inf44 rfl 10 rfl) (AnC_only 10 (by kernel_rfl) rfl (Ls_store hs inf44 rfl rfl rfl rfl (fun w43 hs => ?_))))))
          try simp only [List.set_cons_zero, List.set_cons_succ] at hs
          refine Ls_nil (Jm_AnC_closed (by kernel_rfl) (AnC_done (by kernel_rfl) (Zq (Zs (Zr (run_load_agg agg43 inf43 rfl rfl (hs.blk_cells 1 rfl 0 7)) rfl (Zf un43 inf25 rfl 5 rfl (Zl sc25 rfl (hs.blk_at 1 rfl 5 rfl) (Zc fn37 rfl (say_c w43 1 ((⟨j.n.batch + (vt.length : Int) + 1, j.n.att + 1, workerOf p ops (j.n.att + 1), 1, 0, xl.1.to, []⟩ : TSt), (⟨Acl, ccl, none, 0⟩ : TP)) Acl ccl xl.1.to (hs.rd_at 3 rfl) (by first | exact hz.2 | exact hzt xl.1 (by rw [← hvt]; exact List.mem_map_of_mem hxm))) rfl ?_))))))))
          rintro v44 w45 ⟨g, Ae, ce, rfl, hsS⟩
          replace hs := hs.T hsS
          refine Za rfl (Za rfl (Zj (St_ret (Jm_ret2 rfl rfl rfl ?_))))
          replace hs := hs.E3.E5.E8.E8.F5.F5
          replace hs := Sat.toKeep (L1 := [_, _]) (F := CKeep p ops (vt2 ++ [((⟨j.n.batch + (vt.length : Int) + 1, j.n.att + 1, workerOf p ops (j.n.att + 1), 1, 0, xl.1.to, []⟩ : TSt), (⟨Acl, ccl, none, 0⟩ : TP))])) (fun B w z => ⟨fun y hy => by
            rcases List.mem_append.1 hy with h1 | h1
            · exact (z.kept 1 rfl).1 y h1
            · rw [List.mem_singleton] at h1; subst h1; exact ⟨z.rd_at 0 rfl, Rd.none w 1⟩, (z.kept 1 rfl).2⟩) hs
          replace hs := hs.F2.F2.F6.F6.F4.F6.F6
          have hl9 : (vt2 ++ [((⟨j.n.batch + (vt.length : Int) + 1, j.n.att + 1, workerOf p ops (j.n.att + 1), 1, 0, xl.1.to, []⟩ : TSt), (⟨Acl, ccl, none, 0⟩ : TP))]).length = vt2.length + 1 := by simp
          have h8 := Sat.cshut (tr := ta ++ [(⟨j.n.batch + (vt.length : Int) + 1, j.n.att + 1, workerOf p ops (j.n.att + 1), 1, 0, xl.1.to, []⟩ : TSt)]) (vt := vt2 ++ [((⟨j.n.batch + (vt.length : Int) + 1, j.n.att + 1, workerOf p ops (j.n.att + 1), 1, 0, xl.1.to, []⟩ : TSt), (⟨Acl, ccl, none, 0⟩ : TP))]) (A := A40) (c := c41) (by rw [List.map_append, hvt]; rfl) (by rw [hl9]; exact hs)
          have h7 := h8.perm ((List.perm_append_comm (l₁ := [_, _, _]) (l₂ := [_, _])).append_right L)
          have e9 : ctick p ops tr e j d = (some (sayM 1 (newT p ops j ta) (newT p ops j ta).fr), 0, ta ++ [newT p ops j ta], ((e || j.ended || d.down) || decide (e2 = 80)), j2, d2) := by unfold ctick; rw [if_neg hev, hta, if_neg hncond]; simp only [hj2]; rw [if_pos (by assumption)]
          rw [e9]
          rw [hx1]
          refine ⟨_, rfl, _, rfl, ?_⟩
          exact Sat.toMoSome (m := sayM 1 (⟨j.n.batch + (vt.length : Int) + 1, j.n.att + 1, workerOf p ops (j.n.att + 1), 1, 0, xl.1.to, []⟩ : TSt) xl.1.to) h7
        refine St_skip (Zq (St_seq ?_))
        replace hs := hs.F2.F2
        refine St_holdC 10 (Hold.of (Ls := [_, _]) hs) mixed (fun w46 q47 => ?_)
        replace hs := hs.quiet q47
        have hH := Hold.of (Ls := [_, _]) hs
        refine Yr (fun _ => hH) 0 rfl (by kernel_rfl) (fun x => run_move rfl) (Yr (fun _ => hH) 1 rfl (by kernel_rfl) (fun x => run_move rfl) (Yr (fun _ => hH) 2 rfl (by kernel_rfl) (fun x => run_nilCheck rfl) (Yr (fun _ => hH) 3 rfl (by kernel_rfl) (fun x => run_fd un79 inf44 rfl 10 rfl) (Yd hH 4 [10, 4] rfl (by kernel_rfl) (fun x hx => run_load sc44 rfl (hx.choose_spec.blk_at 0 rfl 10 rfl)) (Yd hH 5 [10, 5] rfl (by kernel_rfl) (fun x hx => run_load_agg agg43 inf43 rfl rfl (hx.choose_spec.blk_cells 1 rfl 0 7)) (AnC_only 6 (by kernel_rfl) rfl (Ls_literal [_] hs un44 inf43 rfl rfl rfl rfl rfl rfl (fun b48 w49 hs => ?_))))))))
        simp only [List.flatMap_cons, List.flatMap_nil, Value.cells, List.cons_append, List.nil_append] at hs
        replace hs := hs.F2.F2
        replace hH := Hold.of (Ls := [_, _]) hs
        refine Ls_nil (Jm_AnC (fun _ => hH) (AnC_only 7 (by kernel_rfl) rfl ?_))
        replace hs := hs.F4
        refine Ls_append hs un44 inf43 rfl (by decide) (by decide) rfl rfl (rd_block (hs.is_at 3 rfl).2 7 1 rfl) (by simp [Value.oneCell']) (by omega) rfl (fun A50 c51 w52 hs => ?_)
        replace hs := hs.E3
        have hx1 : newT p ops j ta = (⟨j.n.batch + (vt.length : Int) + 1, j.n.att + 1, workerOf p ops (j.n.att + 1), 1, 0, j.n.cur, []⟩ : TSt) := by
          unfold newT
          rw [if_neg (by omega), ← hvl0]
        rw [show KT.flat vt2 ++ _ = KT.flat (vt2 ++ [((⟨j.n.batch + (vt.length : Int) + 1, j.n.att + 1, workerOf p ops (j.n.att + 1), 1, 0, j.n.cur, []⟩ : TSt), (⟨Ac2, cc2, none, 0⟩ : TP))]) from by rw [flatKT_snoc]; rfl] at hs
        replace hs := hs.F2.F2
        replace hH := Hold.of (Ls := [_, _]) hs
        refine Ls_nil (Jm_AnC (fun _ => hH) (Yr (fun _ => hH) 8 rfl (by kernel_rfl) (fun x => run_nilCheck rfl) (Yr (fun _ => hH) 9 rfl (by kernel_rfl) (fun x => run_fd un79 inf44 rfl 10 rfl) (AnC_only 10 (by kernel_rfl) rfl (Ls_store hs inf44 rfl rfl rfl rfl (fun w53 hs => ?_))))))
        try simp only [List.set_cons_zero, List.set_cons_succ] at hs
        refine Ls_nil (Jm_AnC_closed (by kernel_rfl) (AnC_done (by kernel_rfl) (Zq (Zs (Zr (run_load_agg agg43 inf43 rfl rfl (hs.blk_cells 1 rfl 0 7)) rfl (Zf un43 inf25 rfl 5 rfl (Zl sc25 rfl (hs.blk_at 1 rfl 5 rfl) (Zc fn37 rfl (say_c w53 1 ((⟨j.n.batch + (vt.length : Int) + 1, j.n.att + 1, workerOf p ops (j.n.att + 1), 1, 0, j.n.cur, []⟩ : TSt), (⟨Ac2, cc2, none, 0⟩ : TP)) Ac2 cc2 j.n.cur (hs.rd_at 8 rfl) (by first | exact hz.2 | exact hzt xl.1 (by rw [← hvt]; exact List.mem_map_of_mem hxm))) rfl ?_))))))))
        rintro v54 w55 ⟨g, Ae, ce, rfl, hsS⟩
        replace hs := hs.T hsS
        refine Za rfl (Za rfl (Zj (St_ret (Jm_ret2 rfl rfl rfl ?_))))
        replace hs := hs.E3.E4.E7.F4.F7
        replace hs := Sat.toKeep (L1 := [_, _]) (F := CKeep p ops (vt2 ++ [((⟨j.n.batch + (vt.length : Int) + 1, j.n.att + 1, workerOf p ops (j.n.att + 1), 1, 0, j.n.cur, []⟩ : TSt), (⟨Ac2, cc2, none, 0⟩ : TP))])) (fun B w z => ⟨fun y hy => by
          rcases List.mem_append.1 hy with h1 | h1
          · exact (z.kept 1 rfl).1 y h1
          · rw [List.mem_singleton] at h1; subst h1; exact ⟨z.rd_at 0 rfl, Rd.none w 1⟩, (z.kept 1 rfl).2⟩) hs
        replace hs := hs.F2.F2.F6.F6.F4.F6.F6
        have hl9 : (vt2 ++ [((⟨j.n.batch + (vt.length : Int) + 1, j.n.att + 1, workerOf p ops (j.n.att + 1), 1, 0, j.n.cur, []⟩ : TSt), (⟨Ac2, cc2, none, 0⟩ : TP))]).length = vt2.length + 1 := by simp
        have h8 := Sat.cshut (tr := ta ++ [(⟨j.n.batch + (vt.length : Int) + 1, j.n.att + 1, workerOf p ops (j.n.att + 1), 1, 0, j.n.cur, []⟩ : TSt)]) (vt := vt2 ++ [((⟨j.n.batch + (vt.length : Int) + 1, j.n.att + 1, workerOf p ops (j.n.att + 1), 1, 0, j.n.cur, []⟩ : TSt), (⟨Ac2, cc2, none, 0⟩ : TP))]) (A := A50) (c := c51) (by rw [List.map_append, hvt]; rfl) (by rw [hl9]; exact hs)
        have h7 := h8.perm ((List.perm_append_comm (l₁ := [_, _, _]) (l₂ := [_, _])).append_right L)
        have e9 : ctick p ops tr e j d = (some (sayM 1 (newT p ops j ta) (newT p ops j ta).fr), 0, ta ++ [newT p ops j ta], ((e || j.ended || d.down) || decide (e2 = 80)), j2, d2) := by unfold ctick; rw [if_neg hev, hta, if_neg hncond]; simp only [hj2]; rw [if_pos (by assumption)]
        rw [e9]
        rw [hx1]
        refine ⟨_, rfl, _, rfl, ?_⟩
        exact Sat.toMoSome (m := sayM 1 (⟨j.n.batch + (vt.length : Int) + 1, j.n.att + 1, workerOf p ops (j.n.att + 1), 1, 0, j.n.cur, []⟩ : TSt) j.n.cur) h7
      refine Ls_alloc hs inf43 rfl (fun b57 w56 hs => ?_)
      replace hs := hs.F2.F2
      replace hH := Hold.of (Ls := [_, _]) hs
      refine Ls_nil (Jm_An hH (An_only 14 (by kernel_rfl) rfl (Zc fn25 rfl (WorkerOf_c w56 p ops (hs.kept 4 rfl).2 hpn (j.n.att + 1) (by omega)) rfl ?_)))
      rintro v58 w59 ⟨rfl, hsQ⟩
      replace hs := hs.T hsQ
      replace hs := hs.F1.F1
      replace hH := Hold.of (Ls := [_, _]) hs
      refine Ls_nil (Jm_An hH (Ya hH 18 rfl (by kernel_rfl) (fun x hx => run_buildO (pv := [(0, _), (1, _), (2, _), (3, _), (5, _)]) rfl (bld43_0_1_2_3_5 _ _ _ _ _ _ _)) (An_only 20 (by kernel_rfl) rfl ?_)))
      replace hs := hs.F2
      refine Ls_storeAgg hs inf43 rfl rfl rfl rfl (by simp [Value.oneCell', Value.cells]) (fun w60 hs => ?_)
      replace hs := hs.F2.F2
      replace hH := Hold.of (Ls := [_, _]) hs
      refine Ls_nil (Jm_An hH (An_done (by kernel_rfl) (Zq (St_seq (Zs (Zm rfl (Zr (run_gtr rfl rfl) rfl (Zj (St_ifP rfl (fun h61 => ?_) (fun h61 => ?_))))))))))
      · refine St_region (Zm rfl (Zk rfl (Zf un79 inf44 rfl 10 rfl (Zl sc44 rfl (hs.blk_at 1 rfl 10 rfl) (Zm rfl (Zr (run_sub rfl rfl (w64 (by omega))) rfl ?_))))))
        obtain ⟨xl, hxl0⟩ : ∃ q, vt2.getD (vt2.length - 1) T0 = q := ⟨_, rfl⟩
        have hxl : vt2.getD ((vt.length : Int) - 1).toNat T0 = xl := by rw [show ((vt.length : Int) - 1).toNat = vt2.length - 1 by omega]; exact hxl0
        have hxm : xl ∈ vt2 := by rw [← hxl0]; exact getD_mem3 (by omega)
        refine Ls_index (KT) (hs.rd_at 3 rfl) un44 inf43 rfl rfl (by omega) (by omega) hxl rfl (fun b62 o63 hc64 => (Zr (run_field un43 rfl inf25 (by decide) rfl) rfl (Zl sc25 rfl (hc64 6 _ rfl) (Zc fn36 rfl (CloneI_c w60 _ _ _ xl.1.to (((hs.kept 4 rfl).1 _ hxm).2) (hzt xl.1 (by rw [← hvt]; exact List.mem_map_of_mem hxm))) rfl ?_))))
        rintro v65 w66 ⟨Acl, ccl, rfl, hsC⟩
        replace hs := hs.T hsC
        refine Zf un43 inf25 rfl 5 rfl ?_
        replace hs := hs.F3
        refine Ls_store hs inf25 rfl rfl rfl rfl (fun w67 hs => ?_)
        try simp only [List.set_cons_zero, List.set_cons_succ] at hs
        refine Zj (St_seq ?_)
        replace hs := hs.F3
        refine St_holdC 10 (Hold.of (Ls := [_, _]) hs) mixed (fun w68 q69 => ?_)
        replace hs := hs.quiet q69
        have hH := Hold.of (Ls := [_, _]) hs
        refine Yr (fun _ => hH) 0 rfl (by kernel_rfl) (fun x => run_move rfl) (Yr (fun _ => hH) 1 rfl (by kernel_rfl) (fun x => run_move rfl) (Yr (fun _ => hH) 2 rfl (by kernel_rfl) (fun x => run_nilCheck rfl) (Yr (fun _ => hH) 3 rfl (by kernel_rfl) (fun x => run_fd un79 inf44 rfl 10 rfl) (Yd hH 4 [10, 4] rfl (by kernel_rfl) (fun x hx => run_load sc44 rfl (hx.choose_spec.blk_at 0 rfl 10 rfl)) (Yd hH 5 [10, 5] rfl (by kernel_rfl) (fun x hx => run_load_agg agg43 inf43 rfl rfl (hx.choose_spec.blk_cells 1 rfl 0 7)) (AnC_only 6 (by kernel_rfl) rfl (Ls_literal [_] hs un44 inf43 rfl rfl rfl rfl rfl rfl (fun b70 w71 hs => ?_))))))))
        simp only [List.flatMap_cons, List.flatMap_nil, Value.cells, List.cons_append, List.nil_append] at hs
        replace hs := hs.F2.F2
        replace hH := Hold.of (Ls := [_, _]) hs
        refine Ls_nil (Jm_AnC (fun _ => hH) (AnC_only 7 (by kernel_rfl) rfl ?_))
        replace hs := hs.F5
        refine Ls_append hs un44 inf43 rfl (by decide) (by decide) rfl rfl (rd_block (hs.is_at 3 rfl).2 7 1 rfl) (by simp [Value.oneCell']) (by omega) rfl (fun A72 c73 w74 hs => ?_)
        replace hs := hs.E3
        have hx1 : newT p ops j ta = (⟨j.n.batch + (vt.length : Int) + 1, j.n.att + 1, workerOf p ops (j.n.att + 1), 1, 0, xl.1.to, []⟩ : TSt) := by
          unfold newT
          rw [if_pos (by omega), ← hvt, fst_getD, List.length_map, hxl0, show vt2.length = vt.length by omega]
        rw [show KT.flat vt2 ++ _ = KT.flat (vt2 ++ [((⟨j.n.batch + (vt.length : Int) + 1, j.n.att + 1, workerOf p ops (j.n.att + 1), 1, 0, xl.1.to, []⟩ : TSt), (⟨Acl, ccl, none, 0⟩ : TP))]) from by rw [flatKT_snoc]; rfl] at hs
        replace hs := hs.F2.F2
        replace hH := Hold.of (Ls := [_, _]) hs
        refine Ls_nil (Jm_AnC (fun _ => hH) (Yr (fun _ => hH) 8 rfl (by kernel_rfl) (fun x => run_nilCheck rfl) (Yr (fun _ => hH) 9 rfl (by kernel_rfl) (fun x => run_fd un79 inf44 rfl 10 rfl) (AnC_only 10 (by kernel_rfl) rfl (Ls_store hs inf44 rfl rfl rfl rfl (fun w75 hs => ?_))))))
        try simp only [List.set_cons_zero, List.set_cons_succ] at hs
        refine Ls_nil (Jm_AnC_closed (by kernel_rfl) (AnC_done (by kernel_rfl) (Zq (Zs (Zr (run_load_agg agg43 inf43 rfl rfl (hs.blk_cells 1 rfl 0 7)) rfl (Zf un43 inf25 rfl 5 rfl (Zl sc25 rfl (hs.blk_at 1 rfl 5 rfl) (Zc fn37 rfl (say_c w75 1 ((⟨j.n.batch + (vt.length : Int) + 1, j.n.att + 1, workerOf p ops (j.n.att + 1), 1, 0, xl.1.to, []⟩ : TSt), (⟨Acl, ccl, none, 0⟩ : TP)) Acl ccl xl.1.to (hs.rd_at 3 rfl) (by first | exact hz.2 | exact hzt xl.1 (by rw [← hvt]; exact List.mem_map_of_mem hxm))) rfl ?_))))))))
        rintro v76 w77 ⟨g, Ae, ce, rfl, hsS⟩
        replace hs := hs.T hsS
        refine Za rfl (Za rfl (Zj (St_ret (Jm_ret2 rfl rfl rfl ?_))))
        replace hs := hs.E3.E5.E8.E8.F5.F5
        replace hs := Sat.toKeep (L1 := [_, _]) (F := CKeep p ops (vt2 ++ [((⟨j.n.batch + (vt.length : Int) + 1, j.n.att + 1, workerOf p ops (j.n.att + 1), 1, 0, xl.1.to, []⟩ : TSt), (⟨Acl, ccl, none, 0⟩ : TP))])) (fun B w z => ⟨fun y hy => by
          rcases List.mem_append.1 hy with h1 | h1
          · exact (z.kept 1 rfl).1 y h1
          · rw [List.mem_singleton] at h1; subst h1; exact ⟨z.rd_at 0 rfl, Rd.none w 1⟩, (z.kept 1 rfl).2⟩) hs
        replace hs := hs.F2.F2.F6.F6.F4.F6.F6
        have hl9 : (vt2 ++ [((⟨j.n.batch + (vt.length : Int) + 1, j.n.att + 1, workerOf p ops (j.n.att + 1), 1, 0, xl.1.to, []⟩ : TSt), (⟨Acl, ccl, none, 0⟩ : TP))]).length = vt2.length + 1 := by simp
        have h8 := Sat.cshut (tr := ta ++ [(⟨j.n.batch + (vt.length : Int) + 1, j.n.att + 1, workerOf p ops (j.n.att + 1), 1, 0, xl.1.to, []⟩ : TSt)]) (vt := vt2 ++ [((⟨j.n.batch + (vt.length : Int) + 1, j.n.att + 1, workerOf p ops (j.n.att + 1), 1, 0, xl.1.to, []⟩ : TSt), (⟨Acl, ccl, none, 0⟩ : TP))]) (A := A72) (c := c73) (by rw [List.map_append, hvt]; rfl) (by rw [hl9]; exact hs)
        have h7 := h8.perm ((List.perm_append_comm (l₁ := [_, _, _]) (l₂ := [_, _])).append_right L)
        have e9 : ctick p ops tr e j d = (some (sayM 1 (newT p ops j ta) (newT p ops j ta).fr), 0, ta ++ [newT p ops j ta], ((e || j.ended || d.down) || decide (e2 = 80)), j2, d2) := by unfold ctick; rw [if_neg hev, hta, if_neg hncond]; simp only [hj2]; rw [if_pos (by assumption)]
        rw [e9]
        rw [hx1]
        refine ⟨_, rfl, _, rfl, ?_⟩
        exact Sat.toMoSome (m := sayM 1 (⟨j.n.batch + (vt.length : Int) + 1, j.n.att + 1, workerOf p ops (j.n.att + 1), 1, 0, xl.1.to, []⟩ : TSt) xl.1.to) h7
      refine St_skip (Zq (St_seq ?_))
      replace hs := hs.F2.F2
      refine St_holdC 10 (Hold.of (Ls := [_, _]) hs) mixed (fun w78 q79 => ?_)
      replace hs := hs.quiet q79
      have hH := Hold.of (Ls := [_, _]) hs
      refine Yr (fun _ => hH) 0 rfl (by kernel_rfl) (fun x => run_move rfl) (Yr (fun _ => hH) 1 rfl (by kernel_rfl) (fun x => run_move rfl) (Yr (fun _ => hH) 2 rfl (by kernel_rfl) (fun x => run_nilCheck rfl) (Yr (fun _ => hH) 3 rfl (by kernel_rfl) (fun x => run_fd un79 inf44 rfl 10 rfl) (Yd hH 4 [10, 4] rfl (by kernel_rfl) (fun x hx => run_load sc44 rfl (hx.choose_spec.blk_at 0 rfl 10 rfl)) (Yd hH 5 [10, 5] rfl (by kernel_rfl) (fun x hx => run_load_agg agg43 inf43 rfl rfl (hx.choose_spec.blk_cells 1 rfl 0 7)) (AnC_only 6 (by kernel_rfl) rfl (Ls_literal [_] hs un44 inf43 rfl rfl rfl rfl rfl rfl (fun b80 w81 hs => ?_))))))))
      simp only [List.flatMap_cons, List.flatMap_nil, Value.cells, List.cons_append, List.nil_append] at hs
      replace hs := hs.F2.F2
      replace hH := Hold.of (Ls := [_, _]) hs
      refine Ls_nil (Jm_AnC (fun _ => hH) (AnC_only 7 (by kernel_rfl) rfl ?_))
      replace hs := hs.F4
      refine Ls_append hs un44 inf43 rfl (by decide) (by decide) rfl rfl (rd_block (hs.is_at 3 rfl).2 7 1 rfl) (by simp [Value.oneCell']) (by omega) rfl (fun A82 c83 w84 hs => ?_)
      replace hs := hs.E3
      have hx1 : newT p ops j ta = (⟨j.n.batch + (vt.length : Int) + 1, j.n.att + 1, workerOf p ops (j.n.att + 1), 1, 0, j.n.cur, []⟩ : TSt) := by
        unfold newT
        rw [if_neg (by omega), ← hvl0]
      rw [show KT.flat vt2 ++ _ = KT.flat (vt2 ++ [((⟨j.n.batch + (vt.length : Int) + 1, j.n.att + 1, workerOf p ops (j.n.att + 1), 1, 0, j.n.cur, []⟩ : TSt), (⟨Ac2, cc2, none, 0⟩ : TP))]) from by rw [flatKT_snoc]; rfl] at hs
      replace hs := hs.F2.F2
      replace hH := Hold.of (Ls := [_, _]) hs
      refine Ls_nil (Jm_AnC (fun _ => hH) (Yr (fun _ => hH) 8 rfl (by kernel_rfl) (fun x => run_nilCheck rfl) (Yr (fun _ => hH) 9 rfl (by kernel_rfl) (fun x => run_fd un79 inf44 rfl 10 rfl) (AnC_only 10 (by kernel_rfl) rfl (Ls_store hs inf44 rfl rfl rfl rfl (fun w85 hs => ?_))))))
      try simp only [List.set_cons_zero, List.set_cons_succ] at hs
      refine Ls_nil (Jm_AnC_closed (by kernel_rfl) (AnC_done (by kernel_rfl) (Zq (Zs (Zr (run_load_agg agg43 inf43 rfl rfl (hs.blk_cells 1 rfl 0 7)) rfl (Zf un43 inf25 rfl 5 rfl (Zl sc25 rfl (hs.blk_at 1 rfl 5 rfl) (Zc fn37 rfl (say_c w85 1 ((⟨j.n.batch + (vt.length : Int) + 1, j.n.att + 1, workerOf p ops (j.n.att + 1), 1, 0, j.n.cur, []⟩ : TSt), (⟨Ac2, cc2, none, 0⟩ : TP)) Ac2 cc2 j.n.cur (hs.rd_at 8 rfl) (by first | exact hz.2 | exact hzt xl.1 (by rw [← hvt]; exact List.mem_map_of_mem hxm))) rfl ?_))))))))
      rintro v86 w87 ⟨g, Ae, ce, rfl, hsS⟩
      replace hs := hs.T hsS
      refine Za rfl (Za rfl (Zj (St_ret (Jm_ret2 rfl rfl rfl ?_))))
      replace hs := hs.E3.E4.E7.F4.F7
      replace hs := Sat.toKeep (L1 := [_, _]) (F := CKeep p ops (vt2 ++ [((⟨j.n.batch + (vt.length : Int) + 1, j.n.att + 1, workerOf p ops (j.n.att + 1), 1, 0, j.n.cur, []⟩ : TSt), (⟨Ac2, cc2, none, 0⟩ : TP))])) (fun B w z => ⟨fun y hy => by
        rcases List.mem_append.1 hy with h1 | h1
        · exact (z.kept 1 rfl).1 y h1
        · rw [List.mem_singleton] at h1; subst h1; exact ⟨z.rd_at 0 rfl, Rd.none w 1⟩, (z.kept 1 rfl).2⟩) hs
      replace hs := hs.F2.F2.F6.F6.F4.F6.F6
      have hl9 : (vt2 ++ [((⟨j.n.batch + (vt.length : Int) + 1, j.n.att + 1, workerOf p ops (j.n.att + 1), 1, 0, j.n.cur, []⟩ : TSt), (⟨Ac2, cc2, none, 0⟩ : TP))]).length = vt2.length + 1 := by simp
      have h8 := Sat.cshut (tr := ta ++ [(⟨j.n.batch + (vt.length : Int) + 1, j.n.att + 1, workerOf p ops (j.n.att + 1), 1, 0, j.n.cur, []⟩ : TSt)]) (vt := vt2 ++ [((⟨j.n.batch + (vt.length : Int) + 1, j.n.att + 1, workerOf p ops (j.n.att + 1), 1, 0, j.n.cur, []⟩ : TSt), (⟨Ac2, cc2, none, 0⟩ : TP))]) (A := A82) (c := c83) (by rw [List.map_append, hvt]; rfl) (by rw [hl9]; exact hs)
      have h7 := h8.perm ((List.perm_append_comm (l₁ := [_, _, _]) (l₂ := [_, _])).append_right L)
      have e9 : ctick p ops tr e j d = (some (sayM 1 (newT p ops j ta) (newT p ops j ta).fr), 0, ta ++ [newT p ops j ta], ((e || j.ended || d.down) || decide (e2 = 80)), j2, d2) := by unfold ctick; rw [if_neg hev, hta, if_neg hncond]; simp only [hj2]; rw [if_pos (by assumption)]
      rw [e9]
      rw [hx1]
      refine ⟨_, rfl, _, rfl, ?_⟩
      exact Sat.toMoSome (m := sayM 1 (⟨j.n.batch + (vt.length : Int) + 1, j.n.att + 1, workerOf p ops (j.n.att + 1), 1, 0, j.n.cur, []⟩ : TSt) j.n.cur) h7
    refine Zs (Zr (run_eql rfl rfl) rfl (Za rfl (Zj (St_ifP rfl (fun h88 => ?_) (fun h88 => ?_)))))
    · refine Zs (Zm rfl (Za rfl (Za rfl (Zj (St_ret (Jm_block_ret (Jm_then_ret (Jm_ret2 rfl rfl rfl ?_))))))))
      replace hs := hs.E3.E3.E3.F2.F2.F2
      first
      | (have h80 : e2 = 80 := by assumption
         have e9 : ctick p ops tr e j d = (none, 80, ta, ((e || j.ended || d.down) || decide (e2 = 80)), j2, d2) := by unfold ctick; rw [if_neg hev, hta, if_neg hncond]; simp only [hj2]; rw [if_neg (by assumption), if_pos h80]
         rw [e9]; exact ⟨_, rfl, _, by rw [h80], hs.toMoNone⟩)
      | (have e9 : ctick p ops tr e j d = (none, 0, ta, ((e || j.ended || d.down) || decide (e2 = 80)), j2, d2) := by unfold ctick; rw [if_neg hev, hta, if_neg hncond]; simp only [hj2]; rw [if_neg (by assumption), if_neg (by assumption)]
         rw [e9]; exact ⟨_, rfl, _, rfl, hs.toMoNone⟩)
    refine Zs (Za rfl (Za rfl (Zj (St_ret (Jm_block_ret (Jm_then_ret (Jm_ret2 rfl rfl rfl ?_)))))))
    replace hs := hs.E3.E3.E3.F2.F2.F2
    first
    | (have h80 : e2 = 80 := by assumption
       have e9 : ctick p ops tr e j d = (none, 80, ta, ((e || j.ended || d.down) || decide (e2 = 80)), j2, d2) := by unfold ctick; rw [if_neg hev, hta, if_neg hncond]; simp only [hj2]; rw [if_neg (by assumption), if_pos h80]
       rw [e9]; exact ⟨_, rfl, _, by rw [h80], hs.toMoNone⟩)
    | (have e9 : ctick p ops tr e j d = (none, 0, ta, ((e || j.ended || d.down) || decide (e2 = 80)), j2, d2) := by unfold ctick; rw [if_neg hev, hta, if_neg hncond]; simp only [hj2]; rw [if_neg (by assumption), if_neg (by assumption)]
       rw [e9]; exact ⟨_, rfl, _, rfl, hs.toMoNone⟩)
  refine Zx rfl (Zx rfl (Zx rfl (Zx rfl (Zx rfl (Zx rfl (Zx rfl (Zx rfl (Zx rfl (Zx rfl (Zo rfl (Zr (run_pick_f rfl rfl) rfl (Zr (run_pick_f rfl rfl) rfl (Zj (St_iff rfl (St_skip (Zq (Zs ?_)))))))))))))))))
  have hncond : ¬ (p.wi ≤ (ta.length : Int) ∨ (0 < ta.length ∧ (ta.getD (ta.length - 1) T0.1).ph = 1)) := by
    rintro (q | ⟨q, q2⟩)
    · omega
    · first | omega | (rw [← hvt, fst_getD, List.length_map, hxl0] at q2; omega)
  refine Zm rfl (Zk rfl (Zf un79 inf77 rfl 9 rfl (Zl sc77 rfl (hs.blk_at 0 rfl 9 rfl) ?_)))
  replace hs := hs.F3
  refine Zc fn34 rfl (Note_c B w5 _ bj _ j hs hz) rfl ?_
  rintro v90 w91 ⟨Ap2, cp2, Ac2, cc2, rfl, hs⟩
  refine Ls_alloc hs inf53 rfl (fun b93 w92 hs => (Ls_storeAgg hs inf53 rfl rfl rfl rfl (by simp [Value.oneCell', Value.cells]) (fun w94 hs => (Zt (Zf un53 inf3 rfl 3 rfl (Zl sc3 rfl (hs.blk_at 0 rfl 3 rfl) (Zr (run_add rfl rfl (w64 (by omega))) rfl (Zf un53 inf3 rfl 3 rfl (Ls_store hs inf3 rfl rfl rfl rfl (fun w95 hs => ?_))))))))))
  try simp only [List.set_cons_zero, List.set_cons_succ] at hs
  refine Zj (St_seq (Zs (Zm rfl (Zr (run_load_agg agg53 inf53 rfl rfl (hs.blk_cells 0 rfl 0 4)) rfl ?_))))
  replace hs := hs.F2.F2.F7.F4.F7.F7.F7
  replace hs := Sat.cshut hvt hs
  refine Zc fn35 rfl (csave_c B w95 _ bc bd bj p ops ta (e || j.ended || d.down) j d hs hjo hdok (nextN j) Ap2 cp2 Ac2 cc2 (fun w' X q => q.rd_at 1 rfl) (fun w' X q => q.rd_at 2 rfl) (by show j.n.prev.length ≤ _ ∧ j.n.cur.length ≤ _; omega)) rfl ?_
  rintro v96 w97 ⟨rfl, hs⟩
  obtain ⟨⟨e2, j2, d2⟩, hj2⟩ : ∃ q, jsave j d (nextN j) = q := ⟨_, rfl⟩
  simp only [hj2] at hs ⊢
  refine Za rfl (Zt (Zm rfl (Zj (St_block (Zs (Zr (run_eql rfl rfl) rfl (Za rfl (Zj (St_ifP rfl (fun h98 => ?_) (fun h98 => ?_))))))))))
  · obtain ⟨vt2, A2, c2, hvt, h9⟩ := hs.copen
    replace hs := h9
    have hvl : vt2.length = ta.length := by rw [← hvt, List.length_map]
    refine St_skip (Jm_block_normal (Zq (St_seq ?_)))
    replace hs := hs.F7
    refine St_hold (Hold.of (Ls := [_, _]) hs) mixed (fun w99 q100 => ?_)
    replace hs := hs.quiet q100
    have hH := Hold.of (Ls := [_, _]) hs
    refine Ya hH 0 rfl (by kernel_rfl) (fun x hx => run_fd un53 inf51 rfl 0 rfl) (Ya hH 1 rfl (by kernel_rfl) (fun x hx => run_fd un51 inf3 rfl 0 rfl) (Ya hH 2 rfl (by kernel_rfl) (fun x hx => run_load sc3 rfl (hx.choose_spec.blk_at 0 rfl 0 rfl)) (Ym hH 3 rfl (by kernel_rfl) rfl (Ya hH 4 rfl (by kernel_rfl) (fun x hx => run_add rfl rfl (w64 (by omega))) (Ya hH 5 rfl (by kernel_rfl) (fun x hx => run_add rfl rfl (w64 (by omega))) (Ya hH 6 rfl (by kernel_rfl) (fun x hx => run_fd un53 inf3 rfl 3 rfl) (Ya hH 7 rfl (by kernel_rfl) (fun x hx => run_load sc3 rfl (hx.choose_spec.blk_at 0 rfl 3 rfl)) (Ym hH 8 rfl (by kernel_rfl) rfl (Ya hH 9 rfl (by kernel_rfl) (fun x hx => run_nilCheck rfl) (Ya hH 10 rfl (by kernel_rfl) (fun x hx => run_fd un79 inf24 rfl 0 rfl) (Ya hH 11 rfl (by kernel_rfl) (fun x hx => run_load_agg agg24 inf24 rfl rfl (hx.choose_spec.blk_cells 1 rfl 0 8)) (Ya hH 12 rfl (by kernel_rfl) (fun x hx => run_fd un53 inf3 rfl 3 rfl) (Ya hH 13 rfl (by kernel_rfl) (fun x hx => run_load sc3 rfl (hx.choose_spec.blk_at 0 rfl 3 rfl)) (Ya hH 15 rfl (by kernel_rfl) (fun x hx => run_fd un53 inf51 rfl 0 rfl) (Ya hH 16 rfl (by kernel_rfl) (fun x hx => run_fd un51 inf25 rfl 2 rfl) (Ya hH 17 rfl (by kernel_rfl) (fun x hx => run_load sc25 rfl (hx.choose_spec.blk_at 0 rfl 2 rfl)) (An_two 14 19 (by kernel_rfl) rfl rfl ?_ ?_)))))))))))))))))
    · refine Zc fn25 rfl (WorkerOf_c w99 p ops (hs.kept 3 rfl).2 hpn (j.n.att + 1) (by omega)) rfl ?_
      rintro v101 w102 ⟨rfl, hsQ⟩
      replace hs := hs.T hsQ
      replace hs := hs.F1.F1
      replace hH := Hold.of (Ls := [_, _]) hs
      refine Ls_nil (Jm_An hH (Ya hH 18 rfl (by kernel_rfl) (fun x hx => run_buildO (pv := [(0, _), (1, _), (2, _), (3, _), (5, _)]) rfl (bld43_0_1_2_3_5 _ _ _ _ _ _ _)) (An_only 19 (by kernel_rfl) rfl (Ls_alloc hs inf43 rfl (fun b104 w103 hs => ?_)))))
      replace hs := hs.F2.F2
      replace hH := Hold.of (Ls := [_, _]) hs
      refine Ls_nil (Jm_An hH (An_only 20 (by kernel_rfl) rfl ?_))
      replace hs := hs.F2
      refine Ls_storeAgg hs inf43 rfl rfl rfl rfl (by simp [Value.oneCell', Value.cells]) (fun w105 hs => ?_)
      replace hs := hs.F2.F2
      replace hH := Hold.of (Ls := [_, _]) hs
      refine Ls_nil (Jm_An hH (An_done (by kernel_rfl) (Zq (St_seq (Zs (Zm rfl (Zr (run_gtr rfl rfl) rfl (Zj (St_ifP rfl (fun h106 => ?_) (fun h106 => ?_))))))))))
      · refine St_region (Zm rfl (Zk rfl (Zf un79 inf44 rfl 10 rfl (Zl sc44 rfl (hs.blk_at 1 rfl 10 rfl) (Zm rfl (Zr (run_sub rfl rfl (w64 (by omega))) rfl ?_))))))
        obtain ⟨xl, hxl0⟩ : ∃ q, vt2.getD (vt2.length - 1) T0 = q := ⟨_, rfl⟩
        have hxl : vt2.getD ((vt.length : Int) - 1).toNat T0 = xl := by rw [show ((vt.length : Int) - 1).toNat = vt2.length - 1 by omega]; exact hxl0
        have hxm : xl ∈ vt2 := by rw [← hxl0]; exact getD_mem3 (by omega)
        refine Ls_index (KT) (hs.rd_at 3 rfl) un44 inf43 rfl rfl (by omega) (by omega) hxl rfl (fun b107 o108 hc109 => (Zr (run_field un43 rfl inf25 (by decide) rfl) rfl (Zl sc25 rfl (hc109 6 _ rfl) (Zc fn36 rfl (CloneI_c w105 _ _ _ xl.1.to (((hs.kept 4 rfl).1 _ hxm).2) (hzt xl.1 (by rw [← hvt]; exact List.mem_map_of_mem hxm))) rfl ?_))))
        rintro v110 w111 ⟨Acl, ccl, rfl, hsC⟩
        replace hs := hs.T hsC
        refine Zf un43 inf25 rfl 5 rfl ?_
        replace hs := hs.F3
        refine Ls_store hs inf25 rfl rfl rfl rfl (fun w112 hs => ?_)
        try simp only [List.set_cons_zero, List.set_cons_succ] at hs
        refine Zj (St_seq ?_)
        replace hs := hs.F3
        refine St_holdC 10 (Hold.of (Ls := [_, _]) hs) mixed (fun w113 q114 => ?_)
        replace hs := hs.quiet q114
        have hH := Hold.of (Ls := [_, _]) hs
        refine Yr (fun _ => hH) 0 rfl (by kernel_rfl) (fun x => run_move rfl) (Yr (fun _ => hH) 1 rfl (by kernel_rfl) (fun x => run_move rfl) (Yr (fun _ => hH) 2 rfl (by kernel_rfl) (fun x => run_nilCheck rfl) (Yr (fun _ => hH) 3 rfl (by kernel_rfl) (fun x => run_fd un79 inf44 rfl 10 rfl) (Yd hH 4 [10, 4] rfl (by kernel_rfl) (fun x hx => run_load sc44 rfl (hx.choose_spec.blk_at 0 rfl 10 rfl)) (Yd hH 5 [10, 5] rfl (by kernel_rfl) (fun x hx => run_load_agg agg43 inf43 rfl rfl (hx.choose_spec.blk_cells 1 rfl 0 7)) (AnC_only 6 (by kernel_rfl) rfl (Ls_literal [_] hs un44 inf43 rfl rfl rfl rfl rfl rfl (fun b115 w116 hs => ?_))))))))
        simp only [List.flatMap_cons, List.flatMap_nil, Value.cells, List.cons_append, List.nil_append] at hs
        replace hs := hs.F2.F2
        replace hH := Hold.of (Ls := [_, _]) hs
        refine Ls_nil (Jm_AnC (fun _ => hH) (AnC_only 7 (by kernel_rfl) rfl ?_))
        replace hs := hs.F5
        refine Ls_append hs un44 inf43 rfl (by decide) (by decide) rfl rfl (rd_block (hs.is_at 3 rfl).2 7 1 rfl) (by simp [Value.oneCell']) (by omega) rfl (fun A117 c118 w119 hs => ?_)
        replace hs := hs.E3
        have hx1 : newT p ops j ta = (⟨j.n.batch + (vt.length : Int) + 1, j.n.att + 1, workerOf p ops (j.n.att + 1), 1, 0, xl.1.to, []⟩ : TSt) := by
          unfold newT
          rw [if_pos (by omega), ← hvt, fst_getD, List.length_map, hxl0, show vt2.length = vt.length by omega]
        rw [show KT.flat vt2 ++ _ = KT.flat (vt2 ++ [((⟨j.n.batch + (vt.length : Int) + 1, j.n.att + 1, workerOf p ops (j.n.att + 1), 1, 0, xl.1.to, []⟩ : TSt), (⟨Acl, ccl, none, 0⟩ : TP))]) from by rw [flatKT_snoc]; rfl] at hs
        replace hs := hs.F2.F2
        replace hH := Hold.of (Ls := [_, _]) hs
        refine Ls_nil (Jm_AnC (fun _ => hH) (Yr (fun _ => hH) 8 rfl (by kernel_rfl) (fun x => run_nilCheck rfl) (Yr (fun _ => hH) 9 rfl (by kernel_rfl) (fun x => run_fd un79 inf44 rfl 10 rfl) (AnC_only 10 (by kernel_rfl) rfl (Ls_store hs inf44 rfl rfl rfl rfl (fun w120 hs => ?_))))))
        try simp only [List.set_cons_zero, List.set_cons_succ] at hs
        refine Ls_nil (Jm_AnC_closed (by kernel_rfl) (AnC_done (by kernel_rfl) (Zq (Zs (Zr (run_load_agg agg43 inf43 rfl rfl (hs.blk_cells 1 rfl 0 7)) rfl (Zf un43 inf25 rfl 5 rfl (Zl sc25 rfl (hs.blk_at 1 rfl 5 rfl) (Zc fn37 rfl (say_c w120 1 ((⟨j.n.batch + (vt.length : Int) + 1, j.n.att + 1, workerOf p ops (j.n.att + 1), 1, 0, xl.1.to, []⟩ : TSt), (⟨Acl, ccl, none, 0⟩ : TP)) Acl ccl xl.1.to (hs.rd_at 3 rfl) (by first | exact hz.2 | exact hzt xl.1 (by rw [← hvt]; exact List.mem_map_of_mem hxm))) rfl ?_))))))))
        rintro v121 w122 ⟨g, Ae, ce, rfl, hsS⟩
        replace hs := hs.T hsS
        refine Za rfl (Za rfl (Zj (St_ret (Jm_ret2 rfl rfl rfl ?_))))
        replace hs := hs.E3.E5.E8.E8.F5.F5
        replace hs := Sat.toKeep (L1 := [_, _]) (F := CKeep p ops (vt2 ++ [((⟨j.n.batch + (vt.length : Int) + 1, j.n.att + 1, workerOf p ops (j.n.att + 1), 1, 0, xl.1.to, []⟩ : TSt), (⟨Acl, ccl, none, 0⟩ : TP))])) (fun B w z => ⟨fun y hy => by
          rcases List.mem_append.1 hy with h1 | h1
          · exact (z.kept 1 rfl).1 y h1
          · rw [List.mem_singleton] at h1; subst h1; exact ⟨z.rd_at 0 rfl, Rd.none w 1⟩, (z.kept 1 rfl).2⟩) hs
        replace hs := hs.F2.F2.F6.F6.F4.F6.F6
        have hl9 : (vt2 ++ [((⟨j.n.batch + (vt.length : Int) + 1, j.n.att + 1, workerOf p ops (j.n.att + 1), 1, 0, xl.1.to, []⟩ : TSt), (⟨Acl, ccl, none, 0⟩ : TP))]).length = vt2.length + 1 := by simp
        have h8 := Sat.cshut (tr := ta ++ [(⟨j.n.batch + (vt.length : Int) + 1, j.n.att + 1, workerOf p ops (j.n.att + 1), 1, 0, xl.1.to, []⟩ : TSt)]) (vt := vt2 ++ [((⟨j.n.batch + (vt.length : Int) + 1, j.n.att + 1, workerOf p ops (j.n.att + 1), 1, 0, xl.1.to, []⟩ : TSt), (⟨Acl, ccl, none, 0⟩ : TP))]) (A := A117) (c := c118) (by rw [List.map_append, hvt]; rfl) (by rw [hl9]; exact hs)
        have h7 := h8.perm ((List.perm_append_comm (l₁ := [_, _, _]) (l₂ := [_, _])).append_right L)
        have e9 : ctick p ops tr e j d = (some (sayM 1 (newT p ops j ta) (newT p ops j ta).fr), 0, ta ++ [newT p ops j ta], ((e || j.ended || d.down) || decide (e2 = 80)), j2, d2) := by unfold ctick; rw [if_neg hev, hta, if_neg hncond]; simp only [hj2]; rw [if_pos (by assumption)]
        rw [e9]
        rw [hx1]
        refine ⟨_, rfl, _, rfl, ?_⟩
        exact Sat.toMoSome (m := sayM 1 (⟨j.n.batch + (vt.length : Int) + 1, j.n.att + 1, workerOf p ops (j.n.att + 1), 1, 0, xl.1.to, []⟩ : TSt) xl.1.to) h7
      refine St_skip (Zq (St_seq ?_))
      replace hs := hs.F2.F2
      refine St_holdC 10 (Hold.of (Ls := [_, _]) hs) mixed (fun w123 q124 => ?_)
      replace hs := hs.quiet q124
      have hH := Hold.of (Ls := [_, _]) hs
      refine Yr (fun _ => hH) 0 rfl (by kernel_rfl) (fun x => run_move rfl) (Yr (fun _ => hH) 1 rfl (by kernel_rfl) (fun x => run_move rfl) (Yr (fun _ => hH) 2 rfl (by kernel_rfl) (fun x => run_nilCheck rfl) (Yr (fun _ => hH) 3 rfl (by kernel_rfl) (fun x => run_fd un79 inf44 rfl 10 rfl) (Yd hH 4 [10, 4] rfl (by kernel_rfl) (fun x hx => run_load sc44 rfl (hx.choose_spec.blk_at 0 rfl 10 rfl)) (Yd hH 5 [10, 5] rfl (by kernel_rfl) (fun x hx => run_load_agg agg43 inf43 rfl rfl (hx.choose_spec.blk_cells 1 rfl 0 7)) (AnC_only 6 (by kernel_rfl) rfl (Ls_literal [_] hs un44 inf43 rfl rfl rfl rfl rfl rfl (fun b125 w126 hs => ?_))))))))
      simp only [List.flatMap_cons, List.flatMap_nil, Value.cells, List.cons_append, List.nil_append] at hs
      replace hs := hs.F2.F2
      replace hH := Hold.of (Ls := [_, _]) hs
      refine Ls_nil (Jm_AnC (fun _ => hH) (AnC_only 7 (by kernel_rfl) rfl ?_))
      replace hs := hs.F4
      refine Ls_append hs un44 inf43 rfl (by decide) (by decide) rfl rfl (rd_block (hs.is_at 3 rfl).2 7 1 rfl) (by simp [Value.oneCell']) (by omega) rfl (fun A127 c128 w129 hs => ?_)
      replace hs := hs.E3
      have hx1 : newT p ops j ta = (⟨j.n.batch + (vt.length : Int) + 1, j.n.att + 1, workerOf p ops (j.n.att + 1), 1, 0, j.n.cur, []⟩ : TSt) := by
        unfold newT
        rw [if_neg (by omega), ← hvl0]
      rw [show KT.flat vt2 ++ _ = KT.flat (vt2 ++ [((⟨j.n.batch + (vt.length : Int) + 1, j.n.att + 1, workerOf p ops (j.n.att + 1), 1, 0, j.n.cur, []⟩ : TSt), (⟨Ac2, cc2, none, 0⟩ : TP))]) from by rw [flatKT_snoc]; rfl] at hs
      replace hs := hs.F2.F2
      replace hH := Hold.of (Ls := [_, _]) hs
      refine Ls_nil (Jm_AnC (fun _ => hH) (Yr (fun _ => hH) 8 rfl (by kernel_rfl) (fun x => run_nilCheck rfl) (Yr (fun _ => hH) 9 rfl (by kernel_rfl) (fun x => run_fd un79 inf44 rfl 10 rfl) (AnC_only 10 (by kernel_rfl) rfl (Ls_store hs inf44 rfl rfl rfl rfl (fun w130 hs => ?_))))))
      try simp only [List.set_cons_zero, List.set_cons_succ] at hs
      refine Ls_nil (Jm_AnC_closed (by kernel_rfl) (AnC_done (by kernel_rfl) (Zq (Zs (Zr (run_load_agg agg43 inf43 rfl rfl (hs.blk_cells 1 rfl 0 7)) rfl (Zf un43 inf25 rfl 5 rfl (Zl sc25 rfl (hs.blk_at 1 rfl 5 rfl) (Zc fn37 rfl (say_c w130 1 ((⟨j.n.batch + (vt.length : Int) + 1, j.n.att + 1, workerOf p ops (j.n.att + 1), 1, 0, j.n.cur, []⟩ : TSt), (⟨Ac2, cc2, none, 0⟩ : TP)) Ac2 cc2 j.n.cur (hs.rd_at 8 rfl) (by first | exact hz.2 | exact hzt xl.1 (by rw [← hvt]; exact List.mem_map_of_mem hxm))) rfl ?_))))))))
      rintro v131 w132 ⟨g, Ae, ce, rfl, hsS⟩
      replace hs := hs.T hsS
      refine Za rfl (Za rfl (Zj (St_ret (Jm_ret2 rfl rfl rfl ?_))))
      replace hs := hs.E3.E4.E7.F4.F7
      replace hs := Sat.toKeep (L1 := [_, _]) (F := CKeep p ops (vt2 ++ [((⟨j.n.batch + (vt.length : Int) + 1, j.n.att + 1, workerOf p ops (j.n.att + 1), 1, 0, j.n.cur, []⟩ : TSt), (⟨Ac2, cc2, none, 0⟩ : TP))])) (fun B w z => ⟨fun y hy => by
        rcases List.mem_append.1 hy with h1 | h1
        · exact (z.kept 1 rfl).1 y h1
        · rw [List.mem_singleton] at h1; subst h1; exact ⟨z.rd_at 0 rfl, Rd.none w 1⟩, (z.kept 1 rfl).2⟩) hs
      replace hs := hs.F2.F2.F6.F6.F4.F6.F6
      have hl9 : (vt2 ++ [((⟨j.n.batch + (vt.length : Int) + 1, j.n.att + 1, workerOf p ops (j.n.att + 1), 1, 0, j.n.cur, []⟩ : TSt), (⟨Ac2, cc2, none, 0⟩ : TP))]).length = vt2.length + 1 := by simp
      have h8 := Sat.cshut (tr := ta ++ [(⟨j.n.batch + (vt.length : Int) + 1, j.n.att + 1, workerOf p ops (j.n.att + 1), 1, 0, j.n.cur, []⟩ : TSt)]) (vt := vt2 ++ [((⟨j.n.batch + (vt.length : Int) + 1, j.n.att + 1, workerOf p ops (j.n.att + 1), 1, 0, j.n.cur, []⟩ : TSt), (⟨Ac2, cc2, none, 0⟩ : TP))]) (A := A127) (c := c128) (by rw [List.map_append, hvt]; rfl) (by rw [hl9]; exact hs)
      have h7 := h8.perm ((List.perm_append_comm (l₁ := [_, _, _]) (l₂ := [_, _])).append_right L)
      have e9 : ctick p ops tr e j d = (some (sayM 1 (newT p ops j ta) (newT p ops j ta).fr), 0, ta ++ [newT p ops j ta], ((e || j.ended || d.down) || decide (e2 = 80)), j2, d2) := by unfold ctick; rw [if_neg hev, hta, if_neg hncond]; simp only [hj2]; rw [if_pos (by assumption)]
      rw [e9]
      rw [hx1]
      refine ⟨_, rfl, _, rfl, ?_⟩
      exact Sat.toMoSome (m := sayM 1 (⟨j.n.batch + (vt.length : Int) + 1, j.n.att + 1, workerOf p ops (j.n.att + 1), 1, 0, j.n.cur, []⟩ : TSt) j.n.cur) h7
    refine Ls_alloc hs inf43 rfl (fun b134 w133 hs => ?_)
    replace hs := hs.F2.F2
    replace hH := Hold.of (Ls := [_, _]) hs
    refine Ls_nil (Jm_An hH (An_only 14 (by kernel_rfl) rfl (Zc fn25 rfl (WorkerOf_c w133 p ops (hs.kept 4 rfl).2 hpn (j.n.att + 1) (by omega)) rfl ?_)))
    rintro v135 w136 ⟨rfl, hsQ⟩
    replace hs := hs.T hsQ
    replace hs := hs.F1.F1
    replace hH := Hold.of (Ls := [_, _]) hs
    refine Ls_nil (Jm_An hH (Ya hH 18 rfl (by kernel_rfl) (fun x hx => run_buildO (pv := [(0, _), (1, _), (2, _), (3, _), (5, _)]) rfl (bld43_0_1_2_3_5 _ _ _ _ _ _ _)) (An_only 20 (by kernel_rfl) rfl ?_)))
    replace hs := hs.F2
    refine Ls_storeAgg hs inf43 rfl rfl rfl rfl (by simp [Value.oneCell', Value.cells]) (fun w137 hs => ?_)
    replace hs := hs.F2.F2
    replace hH := Hold.of (Ls := [_, _]) hs
    refine Ls_nil (Jm_An hH (An_done (by kernel_rfl) (Zq (St_seq (Zs (Zm rfl (Zr (run_gtr rfl rfl) rfl (Zj (St_ifP rfl (fun h138 => ?_) (fun h138 => ?_))))))))))
    · refine St_region (Zm rfl (Zk rfl (Zf un79 inf44 rfl 10 rfl (Zl sc44 rfl (hs.blk_at 1 rfl 10 rfl) (Zm rfl (Zr (run_sub rfl rfl (w64 (by omega))) rfl ?_))))))
      obtain ⟨xl, hxl0⟩ : ∃ q, vt2.getD (vt2.length - 1) T0 = q := ⟨_, rfl⟩
      have hxl : vt2.getD ((vt.length : Int) - 1).toNat T0 = xl := by rw [show ((vt.length : Int) - 1).toNat = vt2.length - 1 by omega]; exact hxl0
      have hxm : xl ∈ vt2 := by rw [← hxl0]; exact getD_mem3 (by omega)
      refine Ls_index (KT) (hs.rd_at 3 rfl) un44 inf43 rfl rfl (by omega) (by omega) hxl rfl (fun b139 o140 hc141 => (Zr (run_field un43 rfl inf25 (by decide) rfl) rfl (Zl sc25 rfl (hc141 6 _ rfl) (Zc fn36 rfl (CloneI_c w137 _ _ _ xl.1.to (((hs.kept 4 rfl).1 _ hxm).2) (hzt xl.1 (by rw [← hvt]; exact List.mem_map_of_mem hxm))) rfl ?_))))
      rintro v142 w143 ⟨Acl, ccl, rfl, hsC⟩
      replace hs := hs.T hsC
      refine Zf un43 inf25 rfl 5 rfl ?_
      replace hs := hs.F3
      refine Ls_store hs inf25 rfl rfl rfl rfl (fun w144 hs => ?_)
      try simp only [List.set_cons_zero, List.set_cons_succ] at hs
      refine Zj (St_seq ?_)
      replace hs := hs.F3
      refine St_holdC 10 (Hold.of (Ls := [_, _]) hs) mixed (fun w145 q146 => ?_)
      replace hs := hs.quiet q146
      have hH := Hold.of (Ls := [_, _]) hs
      refine Yr (fun _ => hH) 0 rfl (by kernel_rfl) (fun x => run_move rfl) (Yr (fun _ => hH) 1 rfl (by kernel_rfl) (fun x => run_move rfl) (Yr (fun _ => hH) 2 rfl (by kernel_rfl) (fun x => run_nilCheck rfl) (Yr (fun _ => hH) 3 rfl (by kernel_rfl) (fun x => run_fd un79 inf44 rfl 10 rfl) (Yd hH 4 [10, 4] rfl (by kernel_rfl) (fun x hx => run_load sc44 rfl (hx.choose_spec.blk_at 0 rfl 10 rfl)) (Yd hH 5 [10, 5] rfl (by kernel_rfl) (fun x hx => run_load_agg agg43 inf43 rfl rfl (hx.choose_spec.blk_cells 1 rfl 0 7)) (AnC_only 6 (by kernel_rfl) rfl (Ls_literal [_] hs un44 inf43 rfl rfl rfl rfl rfl rfl (fun b147 w148 hs => ?_))))))))
      simp only [List.flatMap_cons, List.flatMap_nil, Value.cells, List.cons_append, List.nil_append] at hs
      replace hs := hs.F2.F2
      replace hH := Hold.of (Ls := [_, _]) hs
      refine Ls_nil (Jm_AnC (fun _ => hH) (AnC_only 7 (by kernel_rfl) rfl ?_))
      replace hs := hs.F5
      refine Ls_append hs un44 inf43 rfl (by decide) (by decide) rfl rfl (rd_block (hs.is_at 3 rfl).2 7 1 rfl) (by simp [Value.oneCell']) (by omega) rfl (fun A149 c150 w151 hs => ?_)
      replace hs := hs.E3
      have hx1 : newT p ops j ta = (⟨j.n.batch + (vt.length : Int) + 1, j.n.att + 1, workerOf p ops (j.n.att + 1), 1, 0, xl.1.to, []⟩ : TSt) := by
        unfold newT
        rw [if_pos (by omega), ← hvt, fst_getD, List.length_map, hxl0, show vt2.length = vt.length by omega]
      rw [show KT.flat vt2 ++ _ = KT.flat (vt2 ++ [((⟨j.n.batch + (vt.length : Int) + 1, j.n.att + 1, workerOf p ops (j.n.att + 1), 1, 0, xl.1.to, []⟩ : TSt), (⟨Acl, ccl, none, 0⟩ : TP))]) from by rw [flatKT_snoc]; rfl] at hs
      replace hs := hs.F2.F2
      replace hH := Hold.of (Ls := [_, _]) hs
      refine Ls_nil (Jm_AnC (fun _ => hH) (Yr (fun _ => hH) 8 rfl (by kernel_rfl) (fun x => run_nilCheck rfl) (Yr (fun _ => hH) 9 rfl (by kernel_rfl) (fun x => run_fd un79 inf44 rfl 10 rfl) (AnC_only 10 (by kernel_rfl) rfl (Ls_store hs inf44 rfl rfl rfl rfl (fun w152 hs => ?_))))))
      try simp only [List.set_cons_zero, List.set_cons_succ] at hs
      refine Ls_nil (Jm_AnC_closed (by kernel_rfl) (AnC_done (by kernel_rfl) (Zq (Zs (Zr (run_load_agg agg43 inf43 rfl rfl (hs.blk_cells 1 rfl 0 7)) rfl (Zf un43 inf25 rfl 5 rfl (Zl sc25 rfl (hs.blk_at 1 rfl 5 rfl) (Zc fn37 rfl (say_c w152 1 ((⟨j.n.batch + (vt.length : Int) + 1, j.n.att + 1, workerOf p ops (j.n.att + 1), 1, 0, xl.1.to, []⟩ : TSt), (⟨Acl, ccl, none, 0⟩ : TP)) Acl ccl xl.1.to (hs.rd_at 3 rfl) (by first | exact hz.2 | exact hzt xl.1 (by rw [← hvt]; exact List.mem_map_of_mem hxm))) rfl ?_))))))))
      rintro v153 w154 ⟨g, Ae, ce, rfl, hsS⟩
      replace hs := hs.T hsS
      refine Za rfl (Za rfl (Zj (St_ret (Jm_ret2 rfl rfl rfl ?_))))
      replace hs := hs.E3.E5.E8.E8.F5.F5
      replace hs := Sat.toKeep (L1 := [_, _]) (F := CKeep p ops (vt2 ++ [((⟨j.n.batch + (vt.length : Int) + 1, j.n.att + 1, workerOf p ops (j.n.att + 1), 1, 0, xl.1.to, []⟩ : TSt), (⟨Acl, ccl, none, 0⟩ : TP))])) (fun B w z => ⟨fun y hy => by
        rcases List.mem_append.1 hy with h1 | h1
        · exact (z.kept 1 rfl).1 y h1
        · rw [List.mem_singleton] at h1; subst h1; exact ⟨z.rd_at 0 rfl, Rd.none w 1⟩, (z.kept 1 rfl).2⟩) hs
      replace hs := hs.F2.F2.F6.F6.F4.F6.F6
      have hl9 : (vt2 ++ [((⟨j.n.batch + (vt.length : Int) + 1, j.n.att + 1, workerOf p ops (j.n.att + 1), 1, 0, xl.1.to, []⟩ : TSt), (⟨Acl, ccl, none, 0⟩ : TP))]).length = vt2.length + 1 := by simp
      have h8 := Sat.cshut (tr := ta ++ [(⟨j.n.batch + (vt.length : Int) + 1, j.n.att + 1, workerOf p ops (j.n.att + 1), 1, 0, xl.1.to, []⟩ : TSt)]) (vt := vt2 ++ [((⟨j.n.batch + (vt.length : Int) + 1, j.n.att + 1, workerOf p ops (j.n.att + 1), 1, 0, xl.1.to, []⟩ : TSt), (⟨Acl, ccl, none, 0⟩ : TP))]) (A := A149) (c := c150) (by rw [List.map_append, hvt]; rfl) (by rw [hl9]; exact hs)
      have h7 := h8.perm ((List.perm_append_comm (l₁ := [_, _, _]) (l₂ := [_, _])).append_right L)
      have e9 : ctick p ops tr e j d = (some (sayM 1 (newT p ops j ta) (newT p ops j ta).fr), 0, ta ++ [newT p ops j ta], ((e || j.ended || d.down) || decide (e2 = 80)), j2, d2) := by unfold ctick; rw [if_neg hev, hta, if_neg hncond]; simp only [hj2]; rw [if_pos (by assumption)]
      rw [e9]
      rw [hx1]
      refine ⟨_, rfl, _, rfl, ?_⟩
      exact Sat.toMoSome (m := sayM 1 (⟨j.n.batch + (vt.length : Int) + 1, j.n.att + 1, workerOf p ops (j.n.att + 1), 1, 0, xl.1.to, []⟩ : TSt) xl.1.to) h7
    refine St_skip (Zq (St_seq ?_))
    replace hs := hs.F2.F2
    refine St_holdC 10 (Hold.of (Ls := [_, _]) hs) mixed (fun w155 q156 => ?_)
    replace hs := hs.quiet q156
    have hH := Hold.of (Ls := [_, _]) hs
    refine Yr (fun _ => hH) 0 rfl (by kernel_rfl) (fun x => run_move rfl) (Yr (fun _ => hH) 1 rfl (by kernel_rfl) (fun x => run_move rfl) (Yr (fun _ => hH) 2 rfl (by kernel_rfl) (fun x => run_nilCheck rfl) (Yr (fun _ => hH) 3 rfl (by kernel_rfl) (fun x => run_fd un79 inf44 rfl 10 rfl) (Yd hH 4 [10, 4] rfl (by kernel_rfl) (fun x hx => run_load sc44 rfl (hx.choose_spec.blk_at 0 rfl 10 rfl)) (Yd hH 5 [10, 5] rfl (by kernel_rfl) (fun x hx => run_load_agg agg43 inf43 rfl rfl (hx.choose_spec.blk_cells 1 rfl 0 7)) (AnC_only 6 (by kernel_rfl) rfl (Ls_literal [_] hs un44 inf43 rfl rfl rfl rfl rfl rfl (fun b157 w158 hs => ?_))))))))
    simp only [List.flatMap_cons, List.flatMap_nil, Value.cells, List.cons_append, List.nil_append] at hs
    replace hs := hs.F2.F2
    replace hH := Hold.of (Ls := [_, _]) hs
    refine Ls_nil (Jm_AnC (fun _ => hH) (AnC_only 7 (by kernel_rfl) rfl ?_))
    replace hs := hs.F4
    refine Ls_append hs un44 inf43 rfl (by decide) (by decide) rfl rfl (rd_block (hs.is_at 3 rfl).2 7 1 rfl) (by simp [Value.oneCell']) (by omega) rfl (fun A159 c160 w161 hs => ?_)
    replace hs := hs.E3
    have hx1 : newT p ops j ta = (⟨j.n.batch + (vt.length : Int) + 1, j.n.att + 1, workerOf p ops (j.n.att + 1), 1, 0, j.n.cur, []⟩ : TSt) := by
      unfold newT
      rw [if_neg (by omega), ← hvl0]
    rw [show KT.flat vt2 ++ _ = KT.flat (vt2 ++ [((⟨j.n.batch + (vt.length : Int) + 1, j.n.att + 1, workerOf p ops (j.n.att + 1), 1, 0, j.n.cur, []⟩ : TSt), (⟨Ac2, cc2, none, 0⟩ : TP))]) from by rw [flatKT_snoc]; rfl] at hs
    replace hs := hs.F2.F2
    replace hH := Hold.of (Ls := [_, _]) hs
    refine Ls_nil (Jm_AnC (fun _ => hH) (Yr (fun _ => hH) 8 rfl (by kernel_rfl) (fun x => run_nilCheck rfl) (Yr (fun _ => hH) 9 rfl (by kernel_rfl) (fun x => run_fd un79 inf44 rfl 10 rfl) (AnC_only 10 (by kernel_rfl) rfl (Ls_store hs inf44 rfl rfl rfl rfl (fun w162 hs => ?_))))))
    try simp only [List.set_cons_zero, List.set_cons_succ] at hs
    refine Ls_nil (Jm_AnC_closed (by kernel_rfl) (AnC_done (by kernel_rfl) (Zq (Zs (Zr (run_load_agg agg43 inf43 rfl rfl (hs.blk_cells 1 rfl 0 7)) rfl (Zf un43 inf25 rfl 5 rfl (Zl sc25 rfl (hs.blk_at 1 rfl 5 rfl) (Zc fn37 rfl (say_c w162 1 ((⟨j.n.batch + (vt.length : Int) + 1, j.n.att + 1, workerOf p ops (j.n.att + 1), 1, 0, j.n.cur, []⟩ : TSt), (⟨Ac2, cc2, none, 0⟩ : TP)) Ac2 cc2 j.n.cur (hs.rd_at 8 rfl) (by first | exact hz.2 | exact hzt xl.1 (by rw [← hvt]; exact List.mem_map_of_mem hxm))) rfl ?_))))))))
    rintro v163 w164 ⟨g, Ae, ce, rfl, hsS⟩
    replace hs := hs.T hsS
    refine Za rfl (Za rfl (Zj (St_ret (Jm_ret2 rfl rfl rfl ?_))))
    replace hs := hs.E3.E4.E7.F4.F7
    replace hs := Sat.toKeep (L1 := [_, _]) (F := CKeep p ops (vt2 ++ [((⟨j.n.batch + (vt.length : Int) + 1, j.n.att + 1, workerOf p ops (j.n.att + 1), 1, 0, j.n.cur, []⟩ : TSt), (⟨Ac2, cc2, none, 0⟩ : TP))])) (fun B w z => ⟨fun y hy => by
      rcases List.mem_append.1 hy with h1 | h1
      · exact (z.kept 1 rfl).1 y h1
      · rw [List.mem_singleton] at h1; subst h1; exact ⟨z.rd_at 0 rfl, Rd.none w 1⟩, (z.kept 1 rfl).2⟩) hs
    replace hs := hs.F2.F2.F6.F6.F4.F6.F6
    have hl9 : (vt2 ++ [((⟨j.n.batch + (vt.length : Int) + 1, j.n.att + 1, workerOf p ops (j.n.att + 1), 1, 0, j.n.cur, []⟩ : TSt), (⟨Ac2, cc2, none, 0⟩ : TP))]).length = vt2.length + 1 := by simp
    have h8 := Sat.cshut (tr := ta ++ [(⟨j.n.batch + (vt.length : Int) + 1, j.n.att + 1, workerOf p ops (j.n.att + 1), 1, 0, j.n.cur, []⟩ : TSt)]) (vt := vt2 ++ [((⟨j.n.batch + (vt.length : Int) + 1, j.n.att + 1, workerOf p ops (j.n.att + 1), 1, 0, j.n.cur, []⟩ : TSt), (⟨Ac2, cc2, none, 0⟩ : TP))]) (A := A159) (c := c160) (by rw [List.map_append, hvt]; rfl) (by rw [hl9]; exact hs)
    have h7 := h8.perm ((List.perm_append_comm (l₁ := [_, _, _]) (l₂ := [_, _])).append_right L)
    have e9 : ctick p ops tr e j d = (some (sayM 1 (newT p ops j ta) (newT p ops j ta).fr), 0, ta ++ [newT p ops j ta], ((e || j.ended || d.down) || decide (e2 = 80)), j2, d2) := by unfold ctick; rw [if_neg hev, hta, if_neg hncond]; simp only [hj2]; rw [if_pos (by assumption)]
    rw [e9]
    rw [hx1]
    refine ⟨_, rfl, _, rfl, ?_⟩
    exact Sat.toMoSome (m := sayM 1 (⟨j.n.batch + (vt.length : Int) + 1, j.n.att + 1, workerOf p ops (j.n.att + 1), 1, 0, j.n.cur, []⟩ : TSt) j.n.cur) h7
  refine Zs (Zr (run_eql rfl rfl) rfl (Za rfl (Zj (St_ifP rfl (fun h165 => ?_) (fun h165 => ?_)))))
  · refine Zs (Zm rfl (Za rfl (Za rfl (Zj (St_ret (Jm_block_ret (Jm_then_ret (Jm_ret2 rfl rfl rfl ?_))))))))
    replace hs := hs.E3.E3.E3.F2.F2.F2
    first
    | (have h80 : e2 = 80 := by assumption
       have e9 : ctick p ops tr e j d = (none, 80, ta, ((e || j.ended || d.down) || decide (e2 = 80)), j2, d2) := by unfold ctick; rw [if_neg hev, hta, if_neg hncond]; simp only [hj2]; rw [if_neg (by assumption), if_pos h80]
       rw [e9]; exact ⟨_, rfl, _, by rw [h80], hs.toMoNone⟩)
    | (have e9 : ctick p ops tr e j d = (none, 0, ta, ((e || j.ended || d.down) || decide (e2 = 80)), j2, d2) := by unfold ctick; rw [if_neg hev, hta, if_neg hncond]; simp only [hj2]; rw [if_neg (by assumption), if_neg (by assumption)]
       rw [e9]; exact ⟨_, rfl, _, rfl, hs.toMoNone⟩)
  refine Zs (Za rfl (Za rfl (Zj (St_ret (Jm_block_ret (Jm_then_ret (Jm_ret2 rfl rfl rfl ?_)))))))
  replace hs := hs.E3.E3.E3.F2.F2.F2
  first
  | (have h80 : e2 = 80 := by assumption
     have e9 : ctick p ops tr e j d = (none, 80, ta, ((e || j.ended || d.down) || decide (e2 = 80)), j2, d2) := by unfold ctick; rw [if_neg hev, hta, if_neg hncond]; simp only [hj2]; rw [if_neg (by assumption), if_pos h80]
     rw [e9]; exact ⟨_, rfl, _, by rw [h80], hs.toMoNone⟩)
  | (have e9 : ctick p ops tr e j d = (none, 0, ta, ((e || j.ended || d.down) || decide (e2 = 80)), j2, d2) := by unfold ctick; rw [if_neg hev, hta, if_neg hncond]; simp only [hj2]; rw [if_neg (by assumption), if_neg (by assumption)]
     rw [e9]; exact ⟨_, rfl, _, rfl, hs.toMoNone⟩)
end Go.Proofs.Ytcifdianinbkeaa.Lg
set_option linter.unusedVariables false
set_option linter.unusedSimpArgs false
namespace Go.Proofs.Ytcifdianinbkeaa.Lg
open Go Go.RowKit Go.Proofs.Ytcifdianinbkeaa.WirePure Go.Proofs.Ytcifdianinbkeaa.PlanPure
theorem fst_set {vt : List TT} {tr : List TSt} {i : Nat} {y : TT} (h : vt.map Prod.fst = tr) : (vt.set i y).map Prod.fst = tr.set i y.1 := by rw [List.map_set, h]
set_option maxRecDepth 100000 in
set_option maxHeartbeats 1000000 in
theorem cready_c (B w : World) (L : List Assn) (bc bd bj : Nat) (p : PlanA) (ops : OpL) (tr : List TSt) (e : Bool) (hs : Sat B w (CA 79 43 bc bd bj p ops tr e :: L)) (m : MC) (q : MP) (hre : ∀ w' X, Sat B w' (X :: L) → Rd w' q.eA q.en q.ec 1 (KI.flat m.es)) (hen : m.es.length = q.en) (hz4 : q.en ≤ 4) (hes : ∀ y ∈ m.es, 0 ≤ y ∧ y ≤ 256) (hwn : tr.length ≤ 1024) (hlt : ∀ t ∈ tr, t.fr.length ≤ 1073741824) (hfb : ∀ t ∈ tr, ∀ y ∈ t.fr, 0 ≤ y ∧ y ≤ 256) :
    Calls Try.prog 40 [.pointer (some ⟨bc, 0, none⟩), .agg #[.int .i64 m.k, .int .i64 m.f, .int .i64 m.t, .int .i64 m.b, .int .i64 m.a, .int .i64 m.c, .slice q.eA q.en q.ec, .slice q.kA q.kn q.kc, .slice q.pA q.pn q.pc]].toArray w (Ret (fun v' w' => Sat B w' (MO 41 3 v' (cready p tr m).1 :: CA 79 43 bc bd bj p ops (cready p tr m).2 e :: L))) := by
  obtain ⟨vt, A, c, hvt, hs⟩ := hs.copen
  have hvl : vt.length = tr.length := by rw [← hvt, List.length_map]
  refine Zb Try.func40 rfl rfl rfl (Zs (Ls_box hs rfl rfl (fun b2 w1 hs => (Za rfl (Zt (Zm rfl (Zk rfl (Zf un79 inf44 rfl 10 rfl (Zl sc44 rfl (hs.blk_at 1 rfl 10 rfl) (Zr (run_func (cap := [_]) rfl) rfl (Zc fn55 rfl (IndexReady_c w1 A vt.length c vt (hs.rd_at 2 rfl) (by omega) (.pointer (some ⟨b2, 0, none⟩)) (fun t => decide (abt m t 1)) (fun w' x hb => ready1_c w1 w' x b2 m q hb (hs.is_at 0 rfl).2)) rfl ?_)))))))))))
  rintro v3 w4 ⟨k, rfl, hk, hsI⟩
  replace hs := hs.T hsI
  rw [← idx_map (f := Prod.fst) (g := fun t => decide (abt m t 1)), hvt] at hk
  refine Za rfl (Zj (St_seq (St_seq (St_draw (fun x => Below w4.heap.size w4 x) mixed (fun w5 q6 => ?_)))))
  have hH := q6.below
  replace hs := hs.quiet q6
  refine An_grow hH ?_
  replace hH := Below.refl w5.heap.size w5
  refine Ym hH 0 rfl (by kernel_rfl) rfl (Ya hH 1 rfl (by kernel_rfl) (fun x hx => run_lss rfl rfl) (Ym hH 2 rfl (by kernel_rfl) rfl (An_partP (t := 17) rfl (fun h7 => ?_) (fun h7 => ?_))))
  · refine Yf hH 3 rfl (by kernel_rfl) rfl (Yf hH 4 rfl (by kernel_rfl) rfl (Yf hH 5 rfl (by kernel_rfl) rfl (Yf hH 6 rfl (by kernel_rfl) rfl (Yf hH 7 rfl (by kernel_rfl) rfl (Yf hH 8 rfl (by kernel_rfl) rfl (Yf hH 9 rfl (by kernel_rfl) rfl (Yf hH 10 rfl (by kernel_rfl) rfl (Yf hH 11 rfl (by kernel_rfl) rfl (Yf hH 12 rfl (by kernel_rfl) rfl (Yf hH 13 rfl (by kernel_rfl) rfl (Yf hH 14 rfl (by kernel_rfl) rfl (Ya hH 15 rfl (by kernel_rfl) (fun x hx => run_pick_t rfl rfl) (An_done (by kernel_rfl) (Zq (St_ift rfl (Zs (Za rfl (Zj (St_ret (Jm_then_ret (Jm_ret1 rfl rfl ?_)))))))))))))))))))))
    replace hs := hs.E0.F2.F2.F2
    replace hs := Sat.cshut hvt hs
    have e9 : cready p tr m = (none, tr) := by
      unfold cready
      first
      | (rw [(hk.resolve_right (fun ⟨z, h9, _⟩ => by omega)).2]; done)
      | (rw [hidx]; simp only [hx1]; rw [if_pos (by assumption)]; done)
      | (rw [hidx]; simp only [hx1]; rw [if_neg (by simpa using hfw), if_pos ⟨k, by omega, by omega⟩]; done)
    rw [e9]
    exact ⟨_, rfl, hs.toMoNone⟩
  obtain ⟨i, hki, hin, hidx⟩ := hk.resolve_left (fun h9 => by omega)
  subst hki
  obtain ⟨x, hx0⟩ : ∃ y, vt.getD i T0 = y := ⟨_, rfl⟩
  have hxm : x ∈ vt := by rw [← hx0]; exact getD_mem3 (by omega)
  have hx1 : tr.getD i T0.1 = x.1 := by rw [← hvt, fst_getD, hx0]
  have hxt : x.1 ∈ tr := by rw [← hvt]; exact List.mem_map_of_mem hxm
  have hlx := hlt x.1 hxt
  have hix : vt.getD ((i : Nat) : Int).toNat T0 = x := hx0
  refine Yo hH 3 rfl (by kernel_rfl) rfl (fun x hx => run_move rfl) (Yo hH 4 rfl (by kernel_rfl) rfl (fun x hx => run_nilCheck rfl) (Yo hH 5 rfl (by kernel_rfl) rfl (fun x hx => run_fd un79 inf44 rfl 10 rfl) (Yo hH 6 rfl (by kernel_rfl) rfl (fun x hx => run_load sc44 rfl ((hs.grow hx).blk_at 1 rfl 10 rfl)) (Yo hH 7 rfl (by kernel_rfl) rfl (fun x hx => run_move rfl) (An_index_on 8  (KT) rfl (by kernel_rfl) (by kernel_rfl) (by kernel_rfl) rfl rfl (fun _ _ _ _ h => h) hH (fun x hx => ((hs.rd_at 2 rfl).grow hx)) un44 inf43 rfl rfl (by omega) (by omega) hix rfl (fun b9 o10 hc11 => (Yo hH 9 rfl (by kernel_rfl) rfl (fun x hx => run_field un43 rfl inf25 (by decide) rfl) (Yo hH 10 rfl (by kernel_rfl) rfl (fun x hx => run_load sc25 rfl ((hc11 x hx) 5 _ rfl)) (Yo hH 11 rfl (by kernel_rfl) rfl (fun x hx => run_fd un41 inf25 rfl 6 rfl) (Yo hH 12 rfl (by kernel_rfl) rfl (fun x hx => run_load sc25 rfl ((hs.grow hx).blk_at 0 rfl 6 rfl)) (An_only 13 (by kernel_rfl) rfl (Zo rfl (Zc fn19 rfl (Forward_c w5 _ _ _ x.1.fr _ _ _ m.es (((hs.kept 3 rfl).1 _ hxm).1) (Sat.rdL0 (pre := [_, _, _, _]) hre hs) (by have := hlx; omega)) rfl ?_)))))))))))))
  rintro v12 w13 ⟨rfl, hsF⟩
  replace hs := hs.T hsF
  replace hH := (hsF.below : Below w5.heap.size w5 w13)
  refine Ls_nil (Jm_An hH (An_grow hH ?_))
  replace hH := Below.refl w13.heap.size w13
  refine Yo hH 14 rfl (by kernel_rfl) rfl (fun x hx => run_not rfl) (Ya hH 15 rfl (by kernel_rfl) (fun x hx => run_pick_f rfl rfl) (An_done (by kernel_rfl) (Zq (St_ifN rfl (fun h14 => ?_) (fun h14 => ?_)))))
  · refine Zs (Za rfl (Zj (St_ret (Jm_then_ret (Jm_ret1 rfl rfl ?_)))))
    replace hs := hs.E0.F2.F2.F2
    replace hs := Sat.cshut hvt hs
    have e9 : cready p tr m = (none, tr) := by
      unfold cready
      first
      | (rw [(hk.resolve_right (fun ⟨z, h9, _⟩ => by omega)).2]; done)
      | (rw [hidx]; simp only [hx1]; rw [if_pos (by assumption)]; done)
      | (rw [hidx]; simp only [hx1]; rw [if_neg (by simpa using hfw), if_pos ⟨k, by omega, by omega⟩]; done)
    rw [e9]
    exact ⟨_, rfl, hs.toMoNone⟩
  have hfw : fwd x.1.fr m.es := by simpa using h14
  refine St_skip (Zq (Zs (Zm rfl (Zk rfl (Zf un79 inf44 rfl 10 rfl (Zl sc44 rfl (hs.blk_at 1 rfl 10 rfl) (Zm rfl ?_)))))))
  obtain ⟨gt, hgt⟩ := (hs.front 2 rfl).own_addr (by omega)
  subst hgt
  refine Zr (run_as (run_index un44 inf43 rfl rfl rfl (by omega) (by omega)) (show _ = Value.pointer (some ⟨gt, i * 7, none⟩) from by simp)) rfl (Za rfl (Zj (St_seq (Zs (Zf un41 inf25 rfl 6 rfl (Zl sc25 rfl (hs.blk_at 0 rfl 6 rfl) (Zr (run_len un25 rfl) rfl (Zm rfl (Zj (St_block ?_))))))))))
  obtain ⟨En15, hEn15⟩ := ex1 fun (k : Nat) => ([(0, .pointer (some ⟨bc, 0, none⟩)), (3, .pointer (some ⟨b2, 0, none⟩)), (5, .int .i64 (i : Int)), (6, .pointer (some ⟨gt, i * 7, none⟩)), (38, .slice q.eA q.en q.ec), (39, .int .i64 (q.en : Int)), (40, .int .i64 (k : Int))] : Env)
  obtain ⟨Iv16, hIv16⟩ := ew1 fun (k : Nat) (wr : World) => Sat B wr (Blk b2 [.int .i64 m.k, .int .i64 m.f, .int .i64 m.t, .int .i64 m.b, .int .i64 m.a, .int .i64 m.c, .slice q.eA q.en q.ec, .slice q.kA q.kn q.kc, .slice q.pA q.pn q.pc] 41 :: Blk bc (ccells p bd bj (some ⟨gt, 0, none⟩) vt.length c e) 79 :: Own 43 7 (.slice (some ⟨gt, 0, none⟩) vt.length c) vt.length (KT.flat vt) :: Keep (CKeep p ops vt) :: L) ∧ k ≤ q.en ∧ ∀ r, r < k → ¬ p.ba < m.es.getD r 0 - x.1.fr.getD r 0
  obtain ⟨ms17, hms17⟩ := ex1 fun (k : Nat) => (q.en - k : Nat)
  refine St_loop En15 Iv16 ms17 (0) ?_ ?_ ?_
  · rw [hIv16]
    exact ⟨hs, by omega, fun r hr => by omega⟩
  · rw [hEn15]; exact sE ⟨rfl, rfl, rfl, rfl, rfl, rfl, rfl, trivial⟩
  rintro k wr hI18
  rw [hIv16] at hI18
  obtain ⟨hs, hk9, hnf⟩ := hI18
  refine St_eqE (hEn15 _) (Zs (Zr (run_lss rfl rfl) rfl (Zj (St_seq (St_ifP rfl (fun h19 => ?_) (fun h19 => ?_))))))
  · refine St_skip (Zq (St_seq (St_block (Zs (Zm rfl (Ls_index (KI) (Sat.rdL0 (pre := [_, _, _, _]) hre hs) un25 inf3 rfl rfl (by omega) (by omega) (show _ = m.es.getD k 0 from rfl) rfl (fun b20 o21 hc22 => (Zl sc3 rfl (hc22 0 _ rfl) (Za rfl (Za rfl (Zj (St_seq (St_draw (fun x => Below wr.heap.size wr x) mixed (fun w23 q24 => ?_))))))))))))))
    have hH := q24.below
    replace hs := hs.quiet q24
    refine An_grow hH ?_
    replace hH := Below.refl w23.heap.size w23
    refine Ym hH 0 rfl (by kernel_rfl) rfl (Ym hH 1 rfl (by kernel_rfl) rfl (Ya hH 2 rfl (by kernel_rfl) (fun x hx => run_nilCheck rfl) (Ya hH 3 rfl (by kernel_rfl) (fun x hx => run_as (run_field un43 rfl inf25 (by decide) rfl) (show _ = Value.pointer (some ⟨gt, i * 7 + 5, none⟩) from by first | rfl | simp)) (Ya hH 4 rfl (by kernel_rfl) (fun x hx => run_load sc25 rfl ((hs.grow hx).kt_cell 2 rfl (by omega) hx0 5 _ rfl)) ?_))))
    have hey := hes (m.es.getD k 0) (getD_mem3 (by omega))
    have hfl := hfw.1
    have hfy := hfb x.1 hxt (x.1.fr.getD k 0) (getD_mem3 (by omega))
    refine Ym hH 5 rfl (by kernel_rfl) rfl (An_index 6  (KI) rfl (by kernel_rfl) (by kernel_rfl) (by kernel_rfl) (fun _ _ _ _ h => h) hH (fun x hx => ((((hs.kept 3 rfl).1 _ hxm).1).grow hx)) un25 inf3 rfl rfl (by omega) (by omega) (show _ = x.1.fr.getD k 0 from rfl) rfl (fun b25 o26 hc27 => (Ya hH 7 rfl (by kernel_rfl) (fun x hx => run_load sc3 rfl ((hc27 x hx) 0 _ rfl)) (Ya hH 8 rfl (by kernel_rfl) (fun x hx => run_sub rfl rfl (w64 (by omega))) (Ym hH 9 rfl (by kernel_rfl) rfl (Ya hH 10 rfl (by kernel_rfl) (fun x hx => run_nilCheck rfl) (Ya hH 11 rfl (by kernel_rfl) (fun x hx => run_fd un79 inf24 rfl 0 rfl) (Ya hH 12 rfl (by kernel_rfl) (fun x hx => run_fd un24 inf3 rfl 5 rfl) (Ya hH 13 rfl (by kernel_rfl) (fun x hx => run_load sc3 rfl ((hs.grow hx).blk_at 1 rfl 5 rfl)) (Ya hH 14 rfl (by kernel_rfl) (fun x hx => run_gtr rfl rfl) (An_done (by kernel_rfl) (Zq (St_ifP rfl (fun h28 => ?_) (fun h28 => ?_))))))))))))))
    · refine Zs (Za rfl (Zj (St_ret (Jm_block_ret (Jm_then_ret (Jm_then_ret (Jm_block_ret (Jm_then_ret (Jm_ret1 rfl rfl ?_)))))))))
      replace hs := hs.E0.F2.F2.F2
      replace hs := Sat.cshut hvt hs
      have e9 : cready p tr m = (none, tr) := by
        unfold cready
        first
        | (rw [(hk.resolve_right (fun ⟨z, h9, _⟩ => by omega)).2]; done)
        | (rw [hidx]; simp only [hx1]; rw [if_pos (by assumption)]; done)
        | (rw [hidx]; simp only [hx1]; rw [if_neg (by simpa using hfw), if_pos ⟨k, by omega, by omega⟩]; done)
      rw [e9]
      exact ⟨_, rfl, hs.toMoNone⟩
    refine St_skip (Jm_block_normal (Zq (St_region (Zr (run_add rfl rfl (w64 (by omega))) rfl (Zm rfl (Ls_nil (Jm_round (k + 1) ?_ ?_ ?_)))))))
    · rw [hEn15]; exact sE ⟨rfl, rfl, rfl, rfl, rfl, rfl, rfl, trivial⟩
    · rw [hIv16]
      refine ⟨hs, by omega, fun r hr => ?_⟩
      by_cases e9 : r = k
      · subst e9; omega
      · exact hnf r (by omega)
    rw [hms17, hms17]
    omega
  refine St_exit (Jm_then_exit (Jm_then_exit (Jm_block_same (Zq (St_seq (St_seq (St_draw (fun x => Below wr.heap.size wr x) mixed (fun w29 q30 => ?_))))))))
  have hH := q30.below
  replace hs := hs.quiet q30
  refine An_grow hH ?_
  replace hH := Below.refl w29.heap.size w29
  have hnfar : ¬ far p.ba x.1.fr m.es := fun ⟨r, hr, h9⟩ => hnf r (by omega) h9
  refine Ym hH 0 rfl (by kernel_rfl) rfl (Ya hH 1 rfl (by kernel_rfl) (fun x hx => run_nilCheck rfl) (Ya hH 2 rfl (by kernel_rfl) (fun x hx => run_as (run_field un43 rfl inf25 (by decide) rfl) (show _ = Value.pointer (some ⟨gt, i * 7 + 5, none⟩) from by first | rfl | simp)) (Ya hH 3 rfl (by kernel_rfl) (fun x hx => run_load sc25 rfl ((hs.grow hx).kt_cell 2 rfl (by omega) hx0 5 _ rfl)) (Ya hH 4 rfl (by kernel_rfl) (fun x hx => run_fd un41 inf25 rfl 6 rfl) (Ya hH 5 rfl (by kernel_rfl) (fun x hx => run_load sc25 rfl ((hs.grow hx).blk_at 0 rfl 6 rfl)) (An_only 6 (by kernel_rfl) rfl (Zc fn65 rfl (EqualI_c w29 _ _ _ x.1.fr _ _ _ m.es (((hs.kept 3 rfl).1 _ hxm).1) (Sat.rdL0 (pre := [_, _, _, _]) hre hs) (by have := hlx; omega)) rfl ?_)))))))
  rintro v31 w32 ⟨rfl, hsF⟩
  replace hs := hs.T hsF
  replace hH := (hsF.below : Below w29.heap.size w29 w32)
  refine Ls_nil (Jm_An hH (An_grow hH ?_))
  replace hH := Below.refl w32.heap.size w32
  refine An_done (by kernel_rfl) (Zq (St_ifP rfl (fun h33 => ?_) (fun h33 => ?_)))
  · have heq : x.1.fr = m.es := h33
    refine Zs (Zm rfl (Zm rfl (Zk rfl (Zf un79 inf44 rfl 10 rfl (Zl sc44 rfl (hs.blk_at 1 rfl 10 rfl) (Zm rfl ?_))))))
    have hcpt := (hs.rd_at 2 rfl).cap
    refine Zr (run_slice_h un44 inf43 rfl rfl (by omega) (by omega)) rfl (Zk rfl (Zf un79 inf44 rfl 10 rfl ?_))
    replace hs := hs.F1
    refine Ls_store hs inf44 rfl rfl rfl rfl (fun w34 hs => ?_)
    try simp only [List.set_cons_zero, List.set_cons_succ] at hs
    refine Zt (Za rfl (Zj (St_ret (Jm_then_ret (Jm_ret1 rfl rfl ?_)))))
    replace hs := hs.E1.F2
    replace hs := hs.keepMono (G := CKeep p ops (vt.take i)) (fun w h => ⟨fun y hy => h.1 y (List.mem_of_mem_take hy), h.2⟩)
    replace hs := hs.F2
    have h9 := hs.own_shrink i (by omega)
    rw [flatKT_take] at h9
    replace hs := h9
    replace hs := hs.F1.F1.F2
    have hql : (vt.take i).length = i := by rw [List.length_take]; omega
    have e9 : cready p tr m = (none, tr.take i) := by unfold cready; rw [hidx]; simp only [hx1]; rw [if_neg (by simpa using hfw), if_neg hnfar, if_pos heq]
    rw [e9]
    have h8 := Sat.cshut (vt := vt.take i) (tr := tr.take i) (by rw [List.map_take, hvt]) (by rw [hql]; exact hs)
    exact ⟨_, rfl, h8.toMoNone⟩
  have hneq : ¬ x.1.fr = m.es := h33
  refine St_skip (Zq (Zs (Zm rfl (Zm rfl (Zm rfl (Zf un41 inf25 rfl 6 rfl (Zl sc25 rfl (hs.blk_at 0 rfl 6 rfl) (Zc fn36 rfl (CloneI_c w32 _ _ _ m.es (Sat.rdL0 (pre := [_, _, _, _]) hre hs) (by omega)) rfl ?_))))))))
  rintro v35 w36 ⟨Acl, ccl, rfl, hsC⟩
  replace hs := hs.T hsC
  rw [← hen] at hs ⊢
  refine Zk rfl (Zr (run_as (run_field un43 rfl inf25 (by decide) rfl) (show _ = Value.pointer (some ⟨gt, i * 7 + 6, none⟩) from by first | rfl | simp)) rfl ?_)
  replace hs := hs.F3
  refine Ls_storeOwnC hs inf25 rfl rfl rfl (by omega) (fun w37 hs => ?_)
  rw [flatKT_set (i := i) (k := 6) (y := ({ x.1 with to := m.es }, { x.2 with tA := Acl, tc := ccl })) (by omega) (by decide) (by rw [hx0]; simp [tcells, readied])] at hs
  obtain ⟨u1, hu1⟩ : ∃ z, vt.set i ({ x.1 with to := m.es }, { x.2 with tA := Acl, tc := ccl }) = z := ⟨_, rfl⟩
  rw [hu1] at hs
  have hlu1 : u1.length = vt.length := by rw [← hu1, List.length_set]
  have hy1 : u1.getD i T0 = ({ x.1 with to := m.es }, { x.2 with tA := Acl, tc := ccl }) := by rw [← hu1]; exact getD_set_sameT (by omega)
  refine Zk rfl (Zr (run_as (run_field un43 rfl inf3 (by decide) rfl) (show _ = Value.pointer (some ⟨gt, i * 7 + 3, none⟩) from by first | rfl | simp)) rfl (Ls_storeOwnC hs inf3 rfl rfl rfl (by omega) (fun w38 hs => ?_)))
  rw [flatKT_set (i := i) (k := 3) (y := ({ x.1 with to := m.es, ph := 2 }, { x.2 with tA := Acl, tc := ccl })) (by omega) (by decide) (by rw [hy1]; simp [tcells, readied])] at hs
  obtain ⟨u2, hu2⟩ : ∃ z, u1.set i ({ x.1 with to := m.es, ph := 2 }, { x.2 with tA := Acl, tc := ccl }) = z := ⟨_, rfl⟩
  rw [hu2] at hs
  have hlu2 : u2.length = vt.length := by rw [← hu2, List.length_set]; exact hlu1
  have hy2 : u2.getD i T0 = ({ x.1 with to := m.es, ph := 2 }, { x.2 with tA := Acl, tc := ccl }) := by rw [← hu2]; exact getD_set_sameT (by omega)
  refine Zk rfl (Zr (run_as (run_field un43 rfl inf3 (by decide) rfl) (show _ = Value.pointer (some ⟨gt, i * 7 + 4, none⟩) from by first | rfl | simp)) rfl (Ls_storeOwnC hs inf3 rfl rfl rfl (by omega) (fun w39 hs => ?_)))
  rw [flatKT_set (i := i) (k := 4) (y := (readied x.1 m.es, { x.2 with tA := Acl, tc := ccl })) (by omega) (by decide) (by rw [hy2]; simp [tcells, readied])] at hs
  obtain ⟨u3, hu3⟩ : ∃ z, u2.set i (readied x.1 m.es, { x.2 with tA := Acl, tc := ccl }) = z := ⟨_, rfl⟩
  rw [hu3] at hs
  have hlu3 : u3.length = vt.length := by rw [← hu3, List.length_set]; exact hlu2
  have hy3 : u3.getD i T0 = (readied x.1 m.es, { x.2 with tA := Acl, tc := ccl }) := by rw [← hu3]; exact getD_set_sameT (by omega)
  replace hs := hs.F4.F2
  replace hs := Sat.toKeep (L1 := [_, _]) (F := CKeep p ops u3) (fun B w z => ⟨fun y hy => by
    rw [← hu3, ← hu2, ← hu1, List.set_set, List.set_set] at hy
    rcases List.mem_or_eq_of_mem_set hy with h1 | rfl
    · exact (z.kept 1 rfl).1 y h1
    · exact ⟨((z.kept 1 rfl).1 x hxm).1, z.rd_at 0 rfl⟩, (z.kept 1 rfl).2⟩) hs
  have hv3 : u3.map Prod.fst = tr.set i (readied x.1 m.es) := by rw [← hu3, ← hu2, ← hu1, List.set_set, List.set_set]; exact fst_set hvt
  refine Zj (St_seq (Zs (Zm rfl (Zr (run_gtr rfl rfl) rfl (Zj (St_ifP rfl (fun h40 => ?_) (fun h40 => ?_)))))))
  · refine Zs (Za rfl (Zj (St_ret (Jm_then_ret (Jm_ret1 rfl rfl ?_)))))
    replace hs := hs.E2.F1.F2
    rw [← hlu3] at hs
    replace hs := Sat.cshut hv3 hs
    have e9 : cready p tr m = (none, tr.set i (readied x.1 m.es)) := by unfold cready; rw [hidx]; simp only [hx1]; rw [if_neg (by simpa using hfw), if_neg hnfar, if_neg hneq, if_pos (by omega)]
    rw [e9]
    exact ⟨_, rfl, hs.toMoNone⟩
  refine St_skip (Zq (Zs (Zm rfl ?_)))
  replace hs := hs.E2.F1.F2
  rw [← hlu3] at hs
  replace hs := Sat.cshut hv3 hs
  have hi0 : i = 0 := by omega
  subst hi0
  have ht9 : (tr.set 0 (readied x.1 m.es)).getD 0 T0.1 = readied x.1 m.es := by rw [getD_el (by rw [List.length_set]; omega)]; simp
  refine Zc fn66 rfl (cstart_c B w39 L bc bd bj p ops (tr.set 0 (readied x.1 m.es)) e hs (by rw [List.length_set]; omega) (by rw [ht9]; show m.es.length ≤ _; omega)) rfl ?_
  rintro v41 w42 hs
  rw [ht9, List.set_set] at hs
  refine Za rfl (Zj (St_ret (Jm_ret1 rfl rfl ?_)))
  have e9 : cready p tr m = (some (sayM 3 (going (readied x.1 m.es)) m.es), tr.set 0 (going (readied x.1 m.es))) := by unfold cready; rw [hidx]; simp only [hx1]; rw [if_neg (by simpa using hfw), if_neg hnfar, if_neg hneq, if_neg (by omega)]
  rw [e9]
  exact ⟨_, rfl, hs⟩
end Go.Proofs.Ytcifdianinbkeaa.Lg
set_option linter.unusedVariables false
set_option linter.unusedSimpArgs false
namespace Go.Proofs.Ytcifdianinbkeaa.Lg
open Go Go.RowKit Go.Proofs.Ytcifdianinbkeaa.WirePure Go.Proofs.Ytcifdianinbkeaa.PlanPure
theorem flatKT_drop1 (l : List TT) : (KT.flat l).drop (1 * 7) = KT.flat (l.drop 1) := by
  cases l with
  | nil => simp [El.flat]
  | cons x l =>
    have e : KT.flat (x :: l) = tcells x ++ KT.flat l := by simp [El.flat, KT]
    rw [e, List.drop_left' (show (tcells x).length = 1 * 7 from rfl)]; rfl
theorem tstep_len {b : Int} {pr cu to : List Int} : (tstep b pr cu to).2.2.1.length ≤ cu.length ∧ (tstep b pr cu to).2.2.2.length ≤ to.length := by
  unfold tstep
  split
  · simp
  · split <;> simp
theorem sound_ends {m : MC} (h : Msound m) (hk : m.k = 2 ∨ m.k = 8) : (∀ y ∈ m.es, 0 ≤ y ∧ y ≤ 256) ∧ 1 ≤ m.es.length ∧ m.es.length ≤ 4 := by
  obtain ⟨h0, hf, ht, hb, ha, h1, _⟩ := h
  exact h1 (by unfold mof; rw [if_pos (by omega)])
set_option maxRecDepth 100000 in
set_option maxHeartbeats 1000000 in
theorem cdone_c (B w : World) (L : List Assn) (bc bd bj : Nat) (p : PlanA) (ops : OpL) (tr : List TSt) (e : Bool) (j : JSt) (d : DSt) (hs : Sat B w (CA 79 43 bc bd bj p ops tr e :: JA 108 3 bj (some ⟨bd, 0, none⟩) j :: DiskA 122 125 5 bd d :: L)) (hjo : JOk j) (hdok : ∀ x ∈ d.bl, IsBytes x ∧ x.length ≤ 1024) (m : MC) (q : MP) (hre : ∀ w' X, Sat B w' (X :: L) → Rd w' q.eA q.en q.ec 1 (KI.flat m.es)) (hen : m.es.length = q.en) (hz4 : q.en ≤ 4) (hes : ∀ y ∈ m.es, 0 ≤ y ∧ y ≤ 256) (hwn : tr.length ≤ 1024) (hlt : ∀ t ∈ tr, t.to.length ≤ 1073741824) :
    Calls Try.prog 41 [.pointer (some ⟨bc, 0, none⟩), .agg #[.int .i64 m.k, .int .i64 m.f, .int .i64 m.t, .int .i64 m.b, .int .i64 m.a, .int .i64 m.c, .slice q.eA q.en q.ec, .slice q.kA q.kn q.kc, .slice q.pA q.pn q.pc]].toArray w (Ret (fun v' w' => ∃ v, v' = .tuple #[v, .int .i64 (cdone tr e j d m).2.1] ∧ Sat B w' (MO 41 3 v (cdone tr e j d m).1 :: CA 79 43 bc bd bj p ops (cdone tr e j d m).2.2.1 (cdone tr e j d m).2.2.2.1 :: JA 108 3 bj (some ⟨bd, 0, none⟩) (cdone tr e j d m).2.2.2.2.1 :: DiskA 122 125 5 bd (cdone tr e j d m).2.2.2.2.2 :: L))) := by
  obtain ⟨vt, A, c, hvt, hs⟩ := hs.copen
  have hvl : vt.length = tr.length := by rw [← hvt, List.length_map]
  have hlen := noteOk_len hjo.1
  have hp4 := hjo.2.2.1
  have hz : j.n.prev.length ≤ 1073741824 ∧ j.n.cur.length ≤ 1073741824 := by omega
  have hbt := within_hi hjo.1.1
  have hat := within_hi hjo.1.2.1
  refine Zb Try.func41 rfl rfl rfl (Zs (Ls_box hs rfl rfl (fun b2 w1 hs => (Za rfl (Za rfl (Zj (St_seq (St_seq (St_draw (fun x => Below w1.heap.size w1 x) mixed (fun w3 q4 => ?_))))))))))
  have hH := q4.below
  replace hs := hs.quiet q4
  refine An_grow hH ?_
  replace hH := Below.refl w3.heap.size w3
  refine Ym hH 0 rfl (by kernel_rfl) rfl (Ya hH 1 rfl (by kernel_rfl) (fun x hx => run_nilCheck rfl) (Ya hH 2 rfl (by kernel_rfl) (fun x hx => run_fd un79 inf44 rfl 10 rfl) (Ya hH 3 rfl (by kernel_rfl) (fun x hx => run_load sc44 rfl ((hs.grow hx).blk_at 1 rfl 10 rfl)) (Ya hH 4 rfl (by kernel_rfl) (fun x hx => run_len un44 rfl) (Ya hH 5 rfl (by kernel_rfl) (fun x hx => run_eql rfl rfl) (Ym hH 6 rfl (by kernel_rfl) rfl (An_partP (t := 16) rfl (fun h5 => ?_) (fun h5 => ?_))))))))
  · refine Yf hH 7 rfl (by kernel_rfl) rfl (Yf hH 8 rfl (by kernel_rfl) rfl (Yf hH 9 rfl (by kernel_rfl) rfl (Yf hH 10 rfl (by kernel_rfl) rfl (Yf hH 11 rfl (by kernel_rfl) rfl (Yf hH 12 rfl (by kernel_rfl) rfl (Yf hH 13 rfl (by kernel_rfl) rfl (Yf hH 14 rfl (by kernel_rfl) rfl (Yf hH 15 rfl (by kernel_rfl) rfl (Ya hH 16 rfl (by kernel_rfl) (fun x hx => run_pick_t rfl rfl) (Ym hH 17 rfl (by kernel_rfl) rfl (Yf hH 18 rfl (by kernel_rfl) rfl (Yf hH 19 rfl (by kernel_rfl) rfl (Yf hH 20 rfl (by kernel_rfl) rfl (Yf hH 21 rfl (by kernel_rfl) rfl (Yf hH 22 rfl (by kernel_rfl) rfl (Yf hH 23 rfl (by kernel_rfl) rfl (Yf hH 24 rfl (by kernel_rfl) rfl (Yf hH 25 rfl (by kernel_rfl) rfl (Yf hH 26 rfl (by kernel_rfl) rfl (Yf hH 27 rfl (by kernel_rfl) rfl (Yf hH 28 rfl (by kernel_rfl) rfl (Ya hH 29 rfl (by kernel_rfl) (fun x hx => run_pick_t rfl rfl) (An_done (by kernel_rfl) (Zq (St_ift rfl (Zs (Za rfl (Za rfl (Zj (St_ret (Jm_then_ret (Jm_ret2 rfl rfl rfl ?_))))))))))))))))))))))))))))))))
    replace hs := hs.E0.F4.F4.F4.F4.F4
    replace hs := Sat.cshut hvt hs
    have e9 : cdone tr e j d m = (none, 0, tr, e, j, d) := by
      unfold cdone
      first
      | (rw [if_pos (.inl (List.eq_nil_of_length_eq_zero (by omega)))]; done)
      | (rw [if_pos (.inr (.inl (by rw [hx1]; assumption)))]; done)
      | (rw [if_pos (.inr (.inr (by rw [hx1]; assumption)))]; done)
      | (rw [if_neg hgo, if_pos (by rw [hx1]; assumption)]; done)
    rw [e9]
    exact ⟨_, rfl, _, rfl, hs.toMoNone⟩
  have hne : 0 < vt.length := by omega
  obtain ⟨x, hx0⟩ : ∃ y, vt.getD 0 T0 = y := ⟨_, rfl⟩
  have hxm : x ∈ vt := by rw [← hx0]; exact getD_mem3 (by omega)
  have hx1 : tr.getD 0 T0.1 = x.1 := by rw [← hvt, fst_getD, hx0]
  have hxt : x.1 ∈ tr := by rw [← hvt]; exact List.mem_map_of_mem hxm
  have hlx := hlt x.1 hxt
  have hix : vt.getD ((0 : Int)).toNat T0 = x := hx0
  refine Yo hH 7 rfl (by kernel_rfl) rfl (fun x hx => run_load_agg agg41 inf41 rfl rfl ((hs.grow hx).blk_cells 0 rfl 0 9)) (Yo hH 8 rfl (by kernel_rfl) rfl (fun x hx => run_move rfl) (Yo hH 9 rfl (by kernel_rfl) rfl (fun x hx => run_nilCheck rfl) (Yo hH 10 rfl (by kernel_rfl) rfl (fun x hx => run_fd un79 inf44 rfl 10 rfl) (Yo hH 11 rfl (by kernel_rfl) rfl (fun x hx => run_load sc44 rfl ((hs.grow hx).blk_at 1 rfl 10 rfl)) (An_index_on 12  (KT) rfl (by kernel_rfl) (by kernel_rfl) (by kernel_rfl) rfl rfl (fun _ _ _ _ h => h) hH (fun x hx => ((hs.rd_at 2 rfl).grow hx)) un44 inf43 rfl rfl (by decide) (by omega) hix rfl (fun b7 o8 hc9 => (Yo hH 13 rfl (by kernel_rfl) rfl (fun x hx => run_load_agg agg43 inf43 rfl rfl (hc9 x hx)) (An_only 14 (by kernel_rfl) rfl (Zo rfl (Zc fn64 rfl (cabout_c w3 m q x 3) rfl ?_))))))))))
  rintro v10 w11 ⟨rfl, hsF⟩
  replace hs := hs.T hsF
  replace hH := (hsF.below : Below w3.heap.size w3 w11)
  refine Ls_nil (Jm_An hH (An_grow hH ?_))
  replace hH := Below.refl w11.heap.size w11
  refine Yo hH 15 rfl (by kernel_rfl) rfl (fun x hx => run_not rfl) (Ya hH 16 rfl (by kernel_rfl) (fun x hx => run_pick_f rfl rfl) (Ym hH 17 rfl (by kernel_rfl) rfl (An_partN (t := 27) rfl (fun h12 => ?_) (fun h12 => ?_))))
  · refine Yf hH 18 rfl (by kernel_rfl) rfl (Yf hH 19 rfl (by kernel_rfl) rfl (Yf hH 20 rfl (by kernel_rfl) rfl (Yf hH 21 rfl (by kernel_rfl) rfl (Yf hH 22 rfl (by kernel_rfl) rfl (Yf hH 23 rfl (by kernel_rfl) rfl (Yf hH 24 rfl (by kernel_rfl) rfl (Yf hH 25 rfl (by kernel_rfl) rfl (Yf hH 26 rfl (by kernel_rfl) rfl (Yf hH 27 rfl (by kernel_rfl) rfl (Yf hH 28 rfl (by kernel_rfl) rfl (Ya hH 29 rfl (by kernel_rfl) (fun x hx => run_pick_t rfl rfl) (An_done (by kernel_rfl) (Zq (St_ift rfl (Zs (Za rfl (Za rfl (Zj (St_ret (Jm_then_ret (Jm_ret2 rfl rfl rfl ?_)))))))))))))))))))))
    replace hs := hs.E0.F4.F4.F4.F4.F4
    replace hs := Sat.cshut hvt hs
    have e9 : cdone tr e j d m = (none, 0, tr, e, j, d) := by
      unfold cdone
      first
      | (rw [if_pos (.inl (List.eq_nil_of_length_eq_zero (by omega)))]; done)
      | (rw [if_pos (.inr (.inl (by rw [hx1]; assumption)))]; done)
      | (rw [if_pos (.inr (.inr (by rw [hx1]; assumption)))]; done)
      | (rw [if_neg hgo, if_pos (by rw [hx1]; assumption)]; done)
    rw [e9]
    exact ⟨_, rfl, _, rfl, hs.toMoNone⟩
  refine Yo hH 18 rfl (by kernel_rfl) rfl (fun x hx => run_move rfl) (Yo hH 19 rfl (by kernel_rfl) rfl (fun x hx => run_nilCheck rfl) (Yo hH 20 rfl (by kernel_rfl) rfl (fun x hx => run_fd un79 inf44 rfl 10 rfl) (Yo hH 21 rfl (by kernel_rfl) rfl (fun x hx => run_load sc44 rfl ((hs.grow hx).blk_at 1 rfl 10 rfl)) (An_index_on 22  (KT) rfl (by kernel_rfl) (by kernel_rfl) (by kernel_rfl) rfl rfl (fun _ _ _ _ h => h) hH (fun x hx => ((hs.rd_at 2 rfl).grow hx)) un44 inf43 rfl rfl (by decide) (by omega) hix rfl (fun b14 o15 hc16 => (Yo hH 23 rfl (by kernel_rfl) rfl (fun x hx => run_field un43 rfl inf25 (by decide) rfl) (Yo hH 24 rfl (by kernel_rfl) rfl (fun x hx => run_load sc25 rfl ((hc16 x hx) 6 _ rfl)) (Yo hH 25 rfl (by kernel_rfl) rfl (fun x hx => run_fd un41 inf25 rfl 6 rfl) (Yo hH 26 rfl (by kernel_rfl) rfl (fun x hx => run_load sc25 rfl ((hs.grow hx).blk_at 0 rfl 6 rfl)) (An_only 27 (by kernel_rfl) rfl (Zo rfl (Zc fn65 rfl (EqualI_c w11 _ _ _ x.1.to _ _ _ m.es (((hs.kept 3 rfl).1 _ hxm).2) (Sat.rdL0 (pre := [_, _, _, _, _, _]) hre hs) (by omega)) rfl ?_))))))))))))
  rintro v17 w18 ⟨rfl, hsF⟩
  replace hs := hs.T hsF
  replace hH := (hsF.below : Below w11.heap.size w11 w18)
  refine Ls_nil (Jm_An hH (An_grow hH ?_))
  replace hH := Below.refl w18.heap.size w18
  refine Yo hH 28 rfl (by kernel_rfl) rfl (fun x hx => run_not rfl) (Ya hH 29 rfl (by kernel_rfl) (fun x hx => run_pick_f rfl rfl) (An_done (by kernel_rfl) (Zq (St_ifN rfl (fun h19 => ?_) (fun h19 => ?_)))))
  · refine Zs (Za rfl (Za rfl (Zj (St_ret (Jm_then_ret (Jm_ret2 rfl rfl rfl ?_))))))
    replace hs := hs.E0.F4.F4.F4.F4.F4
    replace hs := Sat.cshut hvt hs
    have e9 : cdone tr e j d m = (none, 0, tr, e, j, d) := by
      unfold cdone
      first
      | (rw [if_pos (.inl (List.eq_nil_of_length_eq_zero (by omega)))]; done)
      | (rw [if_pos (.inr (.inl (by rw [hx1]; assumption)))]; done)
      | (rw [if_pos (.inr (.inr (by rw [hx1]; assumption)))]; done)
      | (rw [if_neg hgo, if_pos (by rw [hx1]; assumption)]; done)
    rw [e9]
    exact ⟨_, rfl, _, rfl, hs.toMoNone⟩
  refine St_skip (Zq (Zs ?_))
  have hgo : ¬ (tr = [] ∨ ¬ abt m (tr.getD 0 T0.1) 3 ∨ (tr.getD 0 T0.1).to ≠ m.es) := by
    rintro (h9 | h9 | h9)
    · rw [h9] at hvl; simp only [List.length_nil] at hvl; omega
    · rw [hx1] at h9; simp_all
    · rw [hx1] at h9; simp_all
  refine Zm rfl (Zk rfl (Zf un79 inf77 rfl 9 rfl (Zl sc77 rfl (hs.blk_at 1 rfl 9 rfl) ?_)))
  replace hs := hs.F4
  refine Zc fn34 rfl (Note_c B w18 _ bj _ j hs hz) rfl ?_
  rintro v20 w21 ⟨Ap2, cp2, Ac2, cc2, rfl, hs⟩
  refine Ls_alloc hs inf53 rfl (fun b23 w22 hs => (Ls_storeAgg hs inf53 rfl rfl rfl rfl (by simp [Value.oneCell', Value.cells]) (fun w24 hs => (Zj (St_seq ?_)))))
  replace hs := hs.F7.F7.F7.F3
  refine St_hold (Hold.of (Ls := [_, _, _, _]) hs) mixed (fun w25 q26 => ?_)
  replace hs := hs.quiet q26
  have hH := Hold.of (Ls := [_, _, _, _]) hs
  refine Ya hH 0 rfl (by kernel_rfl) (fun x hx => run_fd un53 inf51 rfl 0 rfl) (Ya hH 1 rfl (by kernel_rfl) (fun x hx => run_load_agg agg51 inf51 rfl rfl (hx.choose_spec.blk_cells 0 rfl 0 3)) (Ym hH 2 rfl (by kernel_rfl) rfl (Ya hH 3 rfl (by kernel_rfl) (fun x hx => run_nilCheck rfl) (Ya hH 4 rfl (by kernel_rfl) (fun x hx => run_fd un79 inf44 rfl 10 rfl) (Ya hH 5 rfl (by kernel_rfl) (fun x hx => run_load sc44 rfl (hx.choose_spec.blk_at 1 rfl 10 rfl)) (An_index 6  (KT) rfl (by kernel_rfl) (by kernel_rfl) (by kernel_rfl) (fun _ _ _ _ h => h) hH (fun x hx => (hx.choose_spec.rd_at 2 rfl)) un44 inf43 rfl rfl (by decide) (by omega) hix rfl (fun b27 o28 hc29 => (Ya hH 7 rfl (by kernel_rfl) (fun x hx => run_field un43 rfl inf25 (by decide) rfl) (Ya hH 8 rfl (by kernel_rfl) (fun x hx => run_load sc25 rfl ((hc29 x hx) 6 _ rfl)) (An_two 9 13 (by kernel_rfl) rfl rfl ?_ ?_))))))))))
  · refine Zc fn67 rfl (Step_c w25 j.n.batch Ap2 cp2 j.n.prev Ac2 cc2 j.n.cur (hs.rd_at 4 rfl) (hs.rd_at 5 rfl) hz.1 hz.2 x.2.tA x.2.tc x.1.to ((hs.kept 3 rfl).1 x hxm).2 hlx (by omega)) rfl ?_
    rintro v30 w31 ⟨A1, c1, A2, c2, rfl, hsT⟩
    replace hs := hs.T hsT
    replace hs := hs.F5.F5.F5.F5
    replace hH := Hold.of (Ls := [_, _, _, _]) hs
    refine Ls_nil (Jm_An hH (Ym hH 10 rfl (by kernel_rfl) rfl (Ya hH 11 rfl (by kernel_rfl) (fun x hx => run_extract rfl rfl) (Ya hH 12 rfl (by kernel_rfl) (fun x hx => run_extract rfl rfl) (An_only 13 (by kernel_rfl) rfl (Ls_alloc hs inf51 rfl (fun b33 w32 hs => ?_)))))))
    replace hs := hs.F4.F4.F4.F4
    replace hH := Hold.of (Ls := [_, _, _, _]) hs
    refine Ls_nil (Jm_An hH (An_only 14 (by kernel_rfl) rfl ?_))
    replace hs := hs.F4
    refine Ls_storeAgg hs inf51 rfl rfl rfl rfl (by simp [Value.oneCell', Value.cells]) (fun w34 hs => ?_)
    replace hs := hs.F4.F4.F4.F4
    replace hH := Hold.of (Ls := [_, _, _, _]) hs
    refine Ls_nil (Jm_An hH (Ya hH 15 rfl (by kernel_rfl) (fun x hx => run_assign rfl) (An_done (by kernel_rfl) (Zq (St_seq (Zs (Zm rfl (Zr (run_neq rfl rfl) rfl (Zj (St_ifP rfl (fun h35 => ?_) (fun h35 => ?_)))))))))))
    · refine Zs (Za rfl (Za rfl (Zj (St_ret (Jm_then_ret (Jm_ret2 rfl rfl rfl ?_))))))
      replace hs := hs.E0.E3.E3.E3.E3.E3.E4.F4.F4.F4.F4.F4
      replace hs := Sat.cshut hvt hs
      have e9 : cdone tr e j d m = (none, 0, tr, e, j, d) := by
        unfold cdone
        first
        | (rw [if_pos (.inl (List.eq_nil_of_length_eq_zero (by omega)))]; done)
        | (rw [if_pos (.inr (.inl (by rw [hx1]; assumption)))]; done)
        | (rw [if_pos (.inr (.inr (by rw [hx1]; assumption)))]; done)
        | (rw [if_neg hgo, if_pos (by rw [hx1]; assumption)]; done)
      rw [e9]
      exact ⟨_, rfl, _, rfl, hs.toMoNone⟩
    refine St_skip (Zq (Zs (Zr (run_load_agg agg51 inf51 rfl rfl (hs.blk_cells 4 rfl 0 3)) rfl (Zf un53 inf51 rfl 0 rfl (Ls_storeAggAt hs inf51 rfl rfl rfl (by first | decide | exact Nat.le_of_ble_eq_true rfl) (by simp [Value.oneCell', Value.cells]) (fun w36 hs => ?_))))))
    simp only [jcells, ncells, Nat.reduceAdd, Nat.zero_add, List.take_succ_cons, List.take_zero, List.drop_succ_cons, List.drop_zero, List.cons_append, List.nil_append] at hs
    refine Zj (St_seq (Zs (Zm rfl (Zr (run_load_agg agg53 inf53 rfl rfl (hs.blk_cells 0 rfl 0 4)) rfl ?_))))
    replace hs := hs.F6.F6.F11.F10.F7.F7.F7
    replace hs := Sat.cshut hvt hs
    have hsl := tstep_len (b := j.n.batch) (pr := j.n.prev) (cu := j.n.cur) (to := x.1.to)
    refine Zc fn35 rfl (csave_c B w36 _ bc bd bj p ops tr e j d hs hjo hdok (doneN j x.1.to) A1 c1 A2 c2 (fun w' X q => q.rd_at 1 rfl) (fun w' X q => q.rd_at 2 rfl) (by show (tstep _ _ _ _).2.2.1.length ≤ _ ∧ (tstep _ _ _ _).2.2.2.length ≤ _; omega)) rfl ?_
    rintro v37 w38 ⟨rfl, hs⟩
    obtain ⟨⟨e2, j2, d2⟩, hj2⟩ : ∃ q, jsave j d (doneN j x.1.to) = q := ⟨_, rfl⟩
    simp only [hj2] at hs ⊢
    refine Za rfl (Zt (Zm rfl (Zj (St_block (Zs (Zr (run_eql rfl rfl) rfl (Za rfl (Zj (St_ifP rfl (fun h39 => ?_) (fun h39 => ?_))))))))))
    · obtain ⟨vt2, A2, c2, hvt2, h9⟩ := hs.copen
      replace hs := h9
      have hvl2 : vt2.length = tr.length := by rw [← hvt2, List.length_map]
      refine St_skip (Jm_block_normal (Zq (Zs (Zm rfl (Zm rfl (Zk rfl (Zf un79 inf44 rfl 10 rfl (Zl sc44 rfl (hs.blk_at 0 rfl 10 rfl) (Zr (run_slice_l un44 inf43 rfl rfl (by omega) (by omega)) rfl ?_)))))))))
      have hrd := (hs.rd_at 1 rfl).drop 1 (by omega)
      rw [flatKT_drop1] at hrd
      refine Zc fn38 rfl (CloneT_c w38 _ _ _ (vt2.drop 1) hrd (by omega)) rfl ?_
      rintro v40 w41 ⟨An, cn, rfl, hsC⟩
      replace hs := hs.T hsC
      obtain ⟨v3, hv3⟩ : ∃ z, vt2.drop 1 = z := ⟨_, rfl⟩
      have hl3 : vt2.length - Int.toNat 1 = v3.length := by rw [← hv3, List.length_drop]; rfl
      rw [hv3, hl3] at hs
      rw [hl3]
      refine Zk rfl (Zf un79 inf44 rfl 10 rfl ?_)
      replace hs := hs.F1
      refine Ls_store hs inf44 rfl rfl rfl rfl (fun w42 hs => ?_)
      try simp only [List.set_cons_zero, List.set_cons_succ] at hs
      refine Zj (St_seq (Zs (Zm rfl (Zk rfl (Zf un79 inf44 rfl 10 rfl (Zl sc44 rfl (hs.blk_at 0 rfl 10 rfl) (Zr (run_len un44 rfl) rfl (Zr (run_gtr rfl rfl) rfl (Zm rfl (Ls_partP (t := 86) rfl (fun h43 => ?_) (fun h43 => ?_)))))))))))
      · refine Zo rfl (Zm rfl (Zo rfl (Zk rfl (Zo rfl (Zf un79 inf44 rfl 10 rfl (Zo rfl (Zl sc44 rfl (hs.blk_at 0 rfl 10 rfl) (Zo rfl ?_))))))))
        obtain ⟨y, hy0⟩ : ∃ z, v3.getD 0 T0 = z := ⟨_, rfl⟩
        have hym : y ∈ v3 := by rw [← hy0]; exact getD_mem3 (by omega)
        have hiy : v3.getD ((0 : Int)).toNat T0 = y := hy0
        have hy1 : (tr.drop 1).getD 0 T0.1 = y.1 := by rw [← hvt2, ← List.map_drop, hv3, fst_getD, hy0]
        refine Ls_index (KT) (hs.rd_at 1 rfl) un44 inf43 rfl rfl (by decide) (by omega) hiy rfl (fun b44 o45 hc46 => (Zo rfl (Zr (run_field un43 rfl inf3 (by decide) rfl) rfl (Zo rfl (Zl sc3 rfl (hc46 3 _ rfl) (Zo rfl (Zr (run_eql rfl rfl) rfl (Zr (run_pick_t rfl rfl) rfl (Zj (St_ifP rfl (fun h47 => ?_) (fun h47 => ?_)))))))))))
        · refine Zs (Zm rfl ?_)
          replace hs := hs.E2.E5.E5.E5.E5.E5.E5.E5.F2
          replace hs := hs.keepMono (G := CKeep p ops v3) (fun w h => ⟨fun y hy => by rw [← hv3] at hy; exact h.1 y (List.mem_of_mem_drop hy), h.2⟩)
          replace hs := hs.F4.F4.F2.F4.F4
          have hv39 : v3.map Prod.fst = tr.drop 1 := by rw [← hv3, List.map_drop, hvt2]
          replace hs := Sat.cshut hv39 hs
          refine Zc fn66 rfl (cstart_c B w42 _ bc bd bj p ops (tr.drop 1) (e || decide (e2 = 80)) hs (by rw [← hv39, List.length_map]; omega) (by rw [hy1]; exact hlt y.1 (List.mem_of_mem_drop (i := 1) (by rw [← hv39]; exact List.mem_map_of_mem hym)))) rfl ?_
          rintro v48 w49 hs
          refine Za rfl (Za rfl (Zj (St_ret (Jm_then_ret (Jm_ret2 rfl rfl rfl ?_)))))
          have hc9 : 0 < (tr.drop 1).length ∧ ((tr.drop 1).getD 0 T0.1).ph = 2 := ⟨by rw [← hv39, List.length_map]; omega, by rw [hy1]; assumption⟩
          have e9 : cdone tr e j d m = (some (sayM 3 (going ((tr.drop 1).getD 0 T0.1)) ((tr.drop 1).getD 0 T0.1).to), 0, (tr.drop 1).set 0 (going ((tr.drop 1).getD 0 T0.1)), (e || decide (e2 = 80)), j2, d2) := by unfold cdone; rw [if_neg hgo, if_neg (by rw [hx1]; omega), hx1]; simp only [hj2]; rw [if_pos (by assumption), if_pos hc9]
          rw [e9]
          exact ⟨_, rfl, _, rfl, hs⟩
        refine St_skip (Zq (Zs (Za rfl (Za rfl (Zj (St_ret (Jm_ret2 rfl rfl rfl ?_)))))))
        replace hs := hs.E2.E5.E5.E5.E5.E5.E5.E5.F2
        replace hs := hs.keepMono (G := CKeep p ops v3) (fun w h => ⟨fun y hy => by rw [← hv3] at hy; exact h.1 y (List.mem_of_mem_drop hy), h.2⟩)
        replace hs := hs.F4.F4.F2.F4.F4
        have hv39 : v3.map Prod.fst = tr.drop 1 := by rw [← hv3, List.map_drop, hvt2]
        replace hs := Sat.cshut hv39 hs
        have hc9 : ¬ (0 < (tr.drop 1).length ∧ ((tr.drop 1).getD 0 T0.1).ph = 2) := by
          rintro ⟨q1, q2⟩
          rw [← hv39, List.length_map] at q1
          first | omega | (rw [hy1] at q2; omega)
        have e9 : cdone tr e j d m = (none, 0, tr.drop 1, (e || decide (e2 = 80)), j2, d2) := by unfold cdone; rw [if_neg hgo, if_neg (by rw [hx1]; omega), hx1]; simp only [hj2]; rw [if_pos (by assumption), if_neg hc9]
        rw [e9]
        exact ⟨_, rfl, _, rfl, hs.toMoNone⟩
      refine Zx rfl (Zx rfl (Zx rfl (Zx rfl (Zx rfl (Zx rfl (Zx rfl (Zx rfl (Zr (run_pick_f rfl rfl) rfl (Zj (St_iff rfl (St_skip (Zq (Zs (Za rfl (Za rfl (Zj (St_ret (Jm_ret2 rfl rfl rfl ?_))))))))))))))))))
      replace hs := hs.E2.E5.E5.E5.E5.E5.E5.E5.F2
      replace hs := hs.keepMono (G := CKeep p ops v3) (fun w h => ⟨fun y hy => by rw [← hv3] at hy; exact h.1 y (List.mem_of_mem_drop hy), h.2⟩)
      replace hs := hs.F4.F4.F2.F4.F4
      have hv39 : v3.map Prod.fst = tr.drop 1 := by rw [← hv3, List.map_drop, hvt2]
      replace hs := Sat.cshut hv39 hs
      have hc9 : ¬ (0 < (tr.drop 1).length ∧ ((tr.drop 1).getD 0 T0.1).ph = 2) := by
        rintro ⟨q1, q2⟩
        rw [← hv39, List.length_map] at q1
        first | omega | (rw [hy1] at q2; omega)
      have e9 : cdone tr e j d m = (none, 0, tr.drop 1, (e || decide (e2 = 80)), j2, d2) := by unfold cdone; rw [if_neg hgo, if_neg (by rw [hx1]; omega), hx1]; simp only [hj2]; rw [if_pos (by assumption), if_neg hc9]
      rw [e9]
      exact ⟨_, rfl, _, rfl, hs.toMoNone⟩
    refine Zs (Zr (run_eql rfl rfl) rfl (Za rfl (Zj (St_ifP rfl (fun h51 => ?_) (fun h51 => ?_)))))
    · refine Zs (Zm rfl (Za rfl (Za rfl (Zj (St_ret (Jm_block_ret (Jm_then_ret (Jm_ret2 rfl rfl rfl ?_))))))))
      replace hs := hs.E3.E3.E3.E3.E3.E3.E3.F2.F2.F2
      first
      | (have h80 : e2 = 80 := by assumption
         have e9 : cdone tr e j d m = (none, 80, tr, (e || decide (e2 = 80)), j2, d2) := by unfold cdone; rw [if_neg hgo, if_neg (by rw [hx1]; omega), hx1]; simp only [hj2]; rw [if_neg (by assumption), if_pos h80]
         rw [e9]; exact ⟨_, rfl, _, by rw [h80], hs.toMoNone⟩)
      | (have e9 : cdone tr e j d m = (none, 0, tr, (e || decide (e2 = 80)), j2, d2) := by unfold cdone; rw [if_neg hgo, if_neg (by rw [hx1]; omega), hx1]; simp only [hj2]; rw [if_neg (by assumption), if_neg (by assumption)]
         rw [e9]; exact ⟨_, rfl, _, rfl, hs.toMoNone⟩)
    refine Zs (Za rfl (Za rfl (Zj (St_ret (Jm_block_ret (Jm_then_ret (Jm_ret2 rfl rfl rfl ?_)))))))
    replace hs := hs.E3.E3.E3.E3.E3.E3.E3.F2.F2.F2
    first
    | (have h80 : e2 = 80 := by assumption
       have e9 : cdone tr e j d m = (none, 80, tr, (e || decide (e2 = 80)), j2, d2) := by unfold cdone; rw [if_neg hgo, if_neg (by rw [hx1]; omega), hx1]; simp only [hj2]; rw [if_neg (by assumption), if_pos h80]
       rw [e9]; exact ⟨_, rfl, _, by rw [h80], hs.toMoNone⟩)
    | (have e9 : cdone tr e j d m = (none, 0, tr, (e || decide (e2 = 80)), j2, d2) := by unfold cdone; rw [if_neg hgo, if_neg (by rw [hx1]; omega), hx1]; simp only [hj2]; rw [if_neg (by assumption), if_neg (by assumption)]
       rw [e9]; exact ⟨_, rfl, _, rfl, hs.toMoNone⟩)
  refine Ls_alloc hs inf51 rfl (fun b53 w52 hs => ?_)
  replace hs := hs.F4.F4.F4.F4
  replace hH := Hold.of (Ls := [_, _, _, _]) hs
  refine Ls_nil (Jm_An hH (An_only 9 (by kernel_rfl) rfl (Zc fn67 rfl (Step_c w52 j.n.batch Ap2 cp2 j.n.prev Ac2 cc2 j.n.cur (hs.rd_at 5 rfl) (hs.rd_at 6 rfl) hz.1 hz.2 x.2.tA x.2.tc x.1.to ((hs.kept 3 rfl).1 x hxm).2 hlx (by omega)) rfl ?_)))
  rintro v54 w55 ⟨A1, c1, A2, c2, rfl, hsT⟩
  replace hs := hs.T hsT
  replace hs := hs.F5.F5.F5.F5
  replace hH := Hold.of (Ls := [_, _, _, _]) hs
  refine Ls_nil (Jm_An hH (Ym hH 10 rfl (by kernel_rfl) rfl (Ya hH 11 rfl (by kernel_rfl) (fun x hx => run_extract rfl rfl) (Ya hH 12 rfl (by kernel_rfl) (fun x hx => run_extract rfl rfl) (An_only 14 (by kernel_rfl) rfl ?_)))))
  replace hs := hs.F6
  refine Ls_storeAgg hs inf51 rfl rfl rfl rfl (by simp [Value.oneCell', Value.cells]) (fun w56 hs => ?_)
  replace hs := hs.F4.F4.F4.F4
  replace hH := Hold.of (Ls := [_, _, _, _]) hs
  refine Ls_nil (Jm_An hH (Ya hH 15 rfl (by kernel_rfl) (fun x hx => run_assign rfl) (An_done (by kernel_rfl) (Zq (St_seq (Zs (Zm rfl (Zr (run_neq rfl rfl) rfl (Zj (St_ifP rfl (fun h57 => ?_) (fun h57 => ?_)))))))))))
  · refine Zs (Za rfl (Za rfl (Zj (St_ret (Jm_then_ret (Jm_ret2 rfl rfl rfl ?_))))))
    replace hs := hs.E0.E3.E3.E3.E3.E3.E4.F4.F4.F4.F4.F4
    replace hs := Sat.cshut hvt hs
    have e9 : cdone tr e j d m = (none, 0, tr, e, j, d) := by
      unfold cdone
      first
      | (rw [if_pos (.inl (List.eq_nil_of_length_eq_zero (by omega)))]; done)
      | (rw [if_pos (.inr (.inl (by rw [hx1]; assumption)))]; done)
      | (rw [if_pos (.inr (.inr (by rw [hx1]; assumption)))]; done)
      | (rw [if_neg hgo, if_pos (by rw [hx1]; assumption)]; done)
    rw [e9]
    exact ⟨_, rfl, _, rfl, hs.toMoNone⟩
  refine St_skip (Zq (Zs (Zr (run_load_agg agg51 inf51 rfl rfl (hs.blk_cells 4 rfl 0 3)) rfl (Zf un53 inf51 rfl 0 rfl (Ls_storeAggAt hs inf51 rfl rfl rfl (by first | decide | exact Nat.le_of_ble_eq_true rfl) (by simp [Value.oneCell', Value.cells]) (fun w58 hs => ?_))))))
  simp only [jcells, ncells, Nat.reduceAdd, Nat.zero_add, List.take_succ_cons, List.take_zero, List.drop_succ_cons, List.drop_zero, List.cons_append, List.nil_append] at hs
  refine Zj (St_seq (Zs (Zm rfl (Zr (run_load_agg agg53 inf53 rfl rfl (hs.blk_cells 0 rfl 0 4)) rfl ?_))))
  replace hs := hs.F6.F6.F11.F10.F7.F7.F7
  replace hs := Sat.cshut hvt hs
  have hsl := tstep_len (b := j.n.batch) (pr := j.n.prev) (cu := j.n.cur) (to := x.1.to)
  refine Zc fn35 rfl (csave_c B w58 _ bc bd bj p ops tr e j d hs hjo hdok (doneN j x.1.to) A1 c1 A2 c2 (fun w' X q => q.rd_at 1 rfl) (fun w' X q => q.rd_at 2 rfl) (by show (tstep _ _ _ _).2.2.1.length ≤ _ ∧ (tstep _ _ _ _).2.2.2.length ≤ _; omega)) rfl ?_
  rintro v59 w60 ⟨rfl, hs⟩
  obtain ⟨⟨e2, j2, d2⟩, hj2⟩ : ∃ q, jsave j d (doneN j x.1.to) = q := ⟨_, rfl⟩
  simp only [hj2] at hs ⊢
  refine Za rfl (Zt (Zm rfl (Zj (St_block (Zs (Zr (run_eql rfl rfl) rfl (Za rfl (Zj (St_ifP rfl (fun h61 => ?_) (fun h61 => ?_))))))))))
  · obtain ⟨vt2, A2, c2, hvt2, h9⟩ := hs.copen
    replace hs := h9
    have hvl2 : vt2.length = tr.length := by rw [← hvt2, List.length_map]
    refine St_skip (Jm_block_normal (Zq (Zs (Zm rfl (Zm rfl (Zk rfl (Zf un79 inf44 rfl 10 rfl (Zl sc44 rfl (hs.blk_at 0 rfl 10 rfl) (Zr (run_slice_l un44 inf43 rfl rfl (by omega) (by omega)) rfl ?_)))))))))
    have hrd := (hs.rd_at 1 rfl).drop 1 (by omega)
    rw [flatKT_drop1] at hrd
    refine Zc fn38 rfl (CloneT_c w60 _ _ _ (vt2.drop 1) hrd (by omega)) rfl ?_
    rintro v62 w63 ⟨An, cn, rfl, hsC⟩
    replace hs := hs.T hsC
    obtain ⟨v3, hv3⟩ : ∃ z, vt2.drop 1 = z := ⟨_, rfl⟩
    have hl3 : vt2.length - Int.toNat 1 = v3.length := by rw [← hv3, List.length_drop]; rfl
    rw [hv3, hl3] at hs
    rw [hl3]
    refine Zk rfl (Zf un79 inf44 rfl 10 rfl ?_)
    replace hs := hs.F1
    refine Ls_store hs inf44 rfl rfl rfl rfl (fun w65 hs => ?_)
    try simp only [List.set_cons_zero, List.set_cons_succ] at hs
    refine Zj (St_seq (Zs (Zm rfl (Zk rfl (Zf un79 inf44 rfl 10 rfl (Zl sc44 rfl (hs.blk_at 0 rfl 10 rfl) (Zr (run_len un44 rfl) rfl (Zr (run_gtr rfl rfl) rfl (Zm rfl (Ls_partP (t := 86) rfl (fun h66 => ?_) (fun h66 => ?_)))))))))))
    · refine Zo rfl (Zm rfl (Zo rfl (Zk rfl (Zo rfl (Zf un79 inf44 rfl 10 rfl (Zo rfl (Zl sc44 rfl (hs.blk_at 0 rfl 10 rfl) (Zo rfl ?_))))))))
      obtain ⟨y, hy0⟩ : ∃ z, v3.getD 0 T0 = z := ⟨_, rfl⟩
      have hym : y ∈ v3 := by rw [← hy0]; exact getD_mem3 (by omega)
      have hiy : v3.getD ((0 : Int)).toNat T0 = y := hy0
      have hy1 : (tr.drop 1).getD 0 T0.1 = y.1 := by rw [← hvt2, ← List.map_drop, hv3, fst_getD, hy0]
      refine Ls_index (KT) (hs.rd_at 1 rfl) un44 inf43 rfl rfl (by decide) (by omega) hiy rfl (fun b67 o68 hc69 => (Zo rfl (Zr (run_field un43 rfl inf3 (by decide) rfl) rfl (Zo rfl (Zl sc3 rfl (hc69 3 _ rfl) (Zo rfl (Zr (run_eql rfl rfl) rfl (Zr (run_pick_t rfl rfl) rfl (Zj (St_ifP rfl (fun h70 => ?_) (fun h70 => ?_)))))))))))
      · refine Zs (Zm rfl ?_)
        replace hs := hs.E2.E5.E5.E5.E5.E5.E5.E5.F2
        replace hs := hs.keepMono (G := CKeep p ops v3) (fun w h => ⟨fun y hy => by rw [← hv3] at hy; exact h.1 y (List.mem_of_mem_drop hy), h.2⟩)
        replace hs := hs.F4.F4.F2.F4.F4
        have hv39 : v3.map Prod.fst = tr.drop 1 := by rw [← hv3, List.map_drop, hvt2]
        replace hs := Sat.cshut hv39 hs
        refine Zc fn66 rfl (cstart_c B w65 _ bc bd bj p ops (tr.drop 1) (e || decide (e2 = 80)) hs (by rw [← hv39, List.length_map]; omega) (by rw [hy1]; exact hlt y.1 (List.mem_of_mem_drop (i := 1) (by rw [← hv39]; exact List.mem_map_of_mem hym)))) rfl ?_
        rintro v71 w72 hs
        refine Za rfl (Za rfl (Zj (St_ret (Jm_then_ret (Jm_ret2 rfl rfl rfl ?_)))))
        have hc9 : 0 < (tr.drop 1).length ∧ ((tr.drop 1).getD 0 T0.1).ph = 2 := ⟨by rw [← hv39, List.length_map]; omega, by rw [hy1]; assumption⟩
        have e9 : cdone tr e j d m = (some (sayM 3 (going ((tr.drop 1).getD 0 T0.1)) ((tr.drop 1).getD 0 T0.1).to), 0, (tr.drop 1).set 0 (going ((tr.drop 1).getD 0 T0.1)), (e || decide (e2 = 80)), j2, d2) := by unfold cdone; rw [if_neg hgo, if_neg (by rw [hx1]; omega), hx1]; simp only [hj2]; rw [if_pos (by assumption), if_pos hc9]
        rw [e9]
        exact ⟨_, rfl, _, rfl, hs⟩
      refine St_skip (Zq (Zs (Za rfl (Za rfl (Zj (St_ret (Jm_ret2 rfl rfl rfl ?_)))))))
      replace hs := hs.E2.E5.E5.E5.E5.E5.E5.E5.F2
      replace hs := hs.keepMono (G := CKeep p ops v3) (fun w h => ⟨fun y hy => by rw [← hv3] at hy; exact h.1 y (List.mem_of_mem_drop hy), h.2⟩)
      replace hs := hs.F4.F4.F2.F4.F4
      have hv39 : v3.map Prod.fst = tr.drop 1 := by rw [← hv3, List.map_drop, hvt2]
      replace hs := Sat.cshut hv39 hs
      have hc9 : ¬ (0 < (tr.drop 1).length ∧ ((tr.drop 1).getD 0 T0.1).ph = 2) := by
        rintro ⟨q1, q2⟩
        rw [← hv39, List.length_map] at q1
        first | omega | (rw [hy1] at q2; omega)
      have e9 : cdone tr e j d m = (none, 0, tr.drop 1, (e || decide (e2 = 80)), j2, d2) := by unfold cdone; rw [if_neg hgo, if_neg (by rw [hx1]; omega), hx1]; simp only [hj2]; rw [if_pos (by assumption), if_neg hc9]
      rw [e9]
      exact ⟨_, rfl, _, rfl, hs.toMoNone⟩
    refine Zx rfl (Zx rfl (Zx rfl (Zx rfl (Zx rfl (Zx rfl (Zx rfl (Zx rfl (Zr (run_pick_f rfl rfl) rfl (Zj (St_iff rfl (St_skip (Zq (Zs (Za rfl (Za rfl (Zj (St_ret (Jm_ret2 rfl rfl rfl ?_))))))))))))))))))
    replace hs := hs.E2.E5.E5.E5.E5.E5.E5.E5.F2
    replace hs := hs.keepMono (G := CKeep p ops v3) (fun w h => ⟨fun y hy => by rw [← hv3] at hy; exact h.1 y (List.mem_of_mem_drop hy), h.2⟩)
    replace hs := hs.F4.F4.F2.F4.F4
    have hv39 : v3.map Prod.fst = tr.drop 1 := by rw [← hv3, List.map_drop, hvt2]
    replace hs := Sat.cshut hv39 hs
    have hc9 : ¬ (0 < (tr.drop 1).length ∧ ((tr.drop 1).getD 0 T0.1).ph = 2) := by
      rintro ⟨q1, q2⟩
      rw [← hv39, List.length_map] at q1
      first | omega | (rw [hy1] at q2; omega)
    have e9 : cdone tr e j d m = (none, 0, tr.drop 1, (e || decide (e2 = 80)), j2, d2) := by unfold cdone; rw [if_neg hgo, if_neg (by rw [hx1]; omega), hx1]; simp only [hj2]; rw [if_pos (by assumption), if_neg hc9]
    rw [e9]
    exact ⟨_, rfl, _, rfl, hs.toMoNone⟩
  refine Zs (Zr (run_eql rfl rfl) rfl (Za rfl (Zj (St_ifP rfl (fun h74 => ?_) (fun h74 => ?_)))))
  · refine Zs (Zm rfl (Za rfl (Za rfl (Zj (St_ret (Jm_block_ret (Jm_then_ret (Jm_ret2 rfl rfl rfl ?_))))))))
    replace hs := hs.E3.E3.E3.E3.E3.E3.E3.F2.F2.F2
    first
    | (have h80 : e2 = 80 := by assumption
       have e9 : cdone tr e j d m = (none, 80, tr, (e || decide (e2 = 80)), j2, d2) := by unfold cdone; rw [if_neg hgo, if_neg (by rw [hx1]; omega), hx1]; simp only [hj2]; rw [if_neg (by assumption), if_pos h80]
       rw [e9]; exact ⟨_, rfl, _, by rw [h80], hs.toMoNone⟩)
    | (have e9 : cdone tr e j d m = (none, 0, tr, (e || decide (e2 = 80)), j2, d2) := by unfold cdone; rw [if_neg hgo, if_neg (by rw [hx1]; omega), hx1]; simp only [hj2]; rw [if_neg (by assumption), if_neg (by assumption)]
       rw [e9]; exact ⟨_, rfl, _, rfl, hs.toMoNone⟩)
  refine Zs (Za rfl (Za rfl (Zj (St_ret (Jm_block_ret (Jm_then_ret (Jm_ret2 rfl rfl rfl ?_)))))))
  replace hs := hs.E3.E3.E3.E3.E3.E3.E3.F2.F2.F2
  first
  | (have h80 : e2 = 80 := by assumption
     have e9 : cdone tr e j d m = (none, 80, tr, (e || decide (e2 = 80)), j2, d2) := by unfold cdone; rw [if_neg hgo, if_neg (by rw [hx1]; omega), hx1]; simp only [hj2]; rw [if_neg (by assumption), if_pos h80]
     rw [e9]; exact ⟨_, rfl, _, by rw [h80], hs.toMoNone⟩)
  | (have e9 : cdone tr e j d m = (none, 0, tr, (e || decide (e2 = 80)), j2, d2) := by unfold cdone; rw [if_neg hgo, if_neg (by rw [hx1]; omega), hx1]; simp only [hj2]; rw [if_neg (by assumption), if_neg (by assumption)]
     rw [e9]; exact ⟨_, rfl, _, rfl, hs.toMoNone⟩)
set_option maxRecDepth 100000 in
set_option maxHeartbeats 1000000 in
theorem cTake_c (B w : World) (L : List Assn) (bc bd bj : Nat) (p : PlanA) (ops : OpL) (tr : List TSt) (e : Bool) (j : JSt) (d : DSt) (hs : Sat B w (CA 79 43 bc bd bj p ops tr e :: JA 108 3 bj (some ⟨bd, 0, none⟩) j :: DiskA 122 125 5 bd d :: L)) (hjo : JOk j) (hdok : ∀ x ∈ d.bl, IsBytes x ∧ x.length ≤ 1024) (m : MC) (q : MP) (hme : ∀ w' X, Sat B w' (X :: L) → MRd w' m q) (hen : m.es.length = q.en) (hz3 : q.en ≤ 9223372036854775807 ∧ q.kn ≤ 9223372036854775807 ∧ q.pn ≤ 9223372036854775807) (hwn : tr.length ≤ 1024) (hlt : ∀ t ∈ tr, t.to.length ≤ 1073741824) (hfb : ∀ t ∈ tr, t.fr.length ≤ 1073741824 ∧ ∀ y ∈ t.fr, 0 ≤ y ∧ y ≤ 256) :
    Calls Try.prog 15 [.pointer (some ⟨bc, 0, none⟩), .agg #[.int .i64 m.k, .int .i64 m.f, .int .i64 m.t, .int .i64 m.b, .int .i64 m.a, .int .i64 m.c, .slice q.eA q.en q.ec, .slice q.kA q.kn q.kc, .slice q.pA q.pn q.pc]].toArray w (Ret (fun v' w' => ∃ v, v' = .tuple #[v, .int .i64 (ctake p tr e j d m).2.1] ∧ Sat B w' (MO 41 3 v (ctake p tr e j d m).1 :: CA 79 43 bc bd bj p ops (ctake p tr e j d m).2.2.1 (ctake p tr e j d m).2.2.2.1 :: JA 108 3 bj (some ⟨bd, 0, none⟩) (ctake p tr e j d m).2.2.2.2.1 :: DiskA 122 125 5 bd (ctake p tr e j d m).2.2.2.2.2 :: L))) := by
  refine Zb Try.func15 rfl rfl rfl (Zs (Ls_box hs rfl rfl (fun b2 w1 hs => (Za rfl (Za rfl (Zj (St_seq (Zs (Zm rfl ?_)))))))))
  replace hs := hs.F3.F3.F3
  refine Zc fn32 rfl (ccheck_c B w1 _ bc bd bj p ops tr e j d hs) rfl ?_
  rintro v3 w4 ⟨rfl, hs⟩
  refine Za rfl (Zt (Zm rfl (Zr (run_neq rfl rfl) rfl (Zj (St_ifP rfl (fun h5 => ?_) (fun h5 => ?_))))))
  · have hev : (e || j.ended || d.down) = true := by
      by_cases z : (e || j.ended || d.down) = true
      · exact z
      · rw [if_neg z] at h5; simp at h5
    refine Zs (Zm rfl (Za rfl (Za rfl (Zj (St_ret (Jm_then_ret (Jm_ret2 rfl rfl rfl ?_)))))))
    replace hs := hs.E3.F2.F2.F2
    first
    | (have e9 : ctake p tr e j d m = (none, 80, tr, (e || j.ended || d.down), j, d) := by unfold ctake; rw [if_pos hev]
       rw [e9]; exact ⟨_, rfl, _, by rw [if_pos hev], hs.toMoNone⟩)
    | (have e9 : ctake p tr e j d m = (none, 150, tr, (e || j.ended || d.down), j, d) := by unfold ctake; rw [if_neg hev, if_pos (by assumption)]
       rw [e9]; exact ⟨_, rfl, _, rfl, hs.toMoNone⟩)
    | (have e9 : ctake p tr e j d m = (none, 170, tr, (e || j.ended || d.down), j, d) := by unfold ctake; rw [if_neg hev, if_neg (by simpa using hsnd), if_pos (by assumption)]
       rw [e9]; exact ⟨_, rfl, _, rfl, hs.toMoNone⟩)
    | (have e9 : ctake p tr e j d m = (none, 0, tr, (e || j.ended || d.down), j, d) := by unfold ctake; rw [if_neg hev, if_neg (by simpa using hsnd), if_neg hmt, if_neg (by assumption), if_neg (by assumption)]
       rw [e9]; exact ⟨_, rfl, _, rfl, hs.toMoNone⟩)
  have hev : ¬ (e || j.ended || d.down) = true := fun z => by rw [if_pos z] at h5; simp at h5
  refine St_skip (Zq (St_seq (St_block (Zs (Zr (run_load_agg agg41 inf41 rfl rfl (hs.blk_cells 3 rfl 0 9)) rfl ?_)))))
  have hm := Sat.rdL0 (pre := [_, _, _, _]) hme hs
  refine Zc fn39 rfl (Sound_c w4 m q hm hz3.1 hz3.2.1 hz3.2.2) rfl ?_
  rintro v6 w7 ⟨rfl, hsF⟩
  replace hs := hs.T hsF
  refine Zr (run_not rfl) rfl (Za rfl (Zj (St_ifN rfl (fun h8 => ?_) (fun h8 => ?_))))
  · refine Zs (Za rfl (Za rfl (Zj (St_ret (Jm_block_ret (Jm_then_ret (Jm_ret2 rfl rfl rfl ?_)))))))
    replace hs := hs.E3.F2.F2.F2
    first
    | (have e9 : ctake p tr e j d m = (none, 80, tr, (e || j.ended || d.down), j, d) := by unfold ctake; rw [if_pos hev]
       rw [e9]; exact ⟨_, rfl, _, by rw [if_pos hev], hs.toMoNone⟩)
    | (have e9 : ctake p tr e j d m = (none, 150, tr, (e || j.ended || d.down), j, d) := by unfold ctake; rw [if_neg hev, if_pos (by assumption)]
       rw [e9]; exact ⟨_, rfl, _, rfl, hs.toMoNone⟩)
    | (have e9 : ctake p tr e j d m = (none, 170, tr, (e || j.ended || d.down), j, d) := by unfold ctake; rw [if_neg hev, if_neg (by simpa using hsnd), if_pos (by assumption)]
       rw [e9]; exact ⟨_, rfl, _, rfl, hs.toMoNone⟩)
    | (have e9 : ctake p tr e j d m = (none, 0, tr, (e || j.ended || d.down), j, d) := by unfold ctake; rw [if_neg hev, if_neg (by simpa using hsnd), if_neg hmt, if_neg (by assumption), if_neg (by assumption)]
       rw [e9]; exact ⟨_, rfl, _, rfl, hs.toMoNone⟩)
  have hsnd : Msound m := by simpa using h8
  refine Zs (Zf un41 inf3 rfl 2 rfl (Zl sc3 rfl (hs.blk_at 3 rfl 2 rfl) (Zr (run_neq rfl rfl) rfl (Za rfl (Zj (St_ifP rfl (fun h9 => ?_) (fun h9 => ?_)))))))
  · refine Zs (Za rfl (Za rfl (Zj (St_ret (Jm_block_ret (Jm_then_ret (Jm_ret2 rfl rfl rfl ?_)))))))
    replace hs := hs.E3.F2.F2.F2
    first
    | (have e9 : ctake p tr e j d m = (none, 80, tr, (e || j.ended || d.down), j, d) := by unfold ctake; rw [if_pos hev]
       rw [e9]; exact ⟨_, rfl, _, by rw [if_pos hev], hs.toMoNone⟩)
    | (have e9 : ctake p tr e j d m = (none, 150, tr, (e || j.ended || d.down), j, d) := by unfold ctake; rw [if_neg hev, if_pos (by assumption)]
       rw [e9]; exact ⟨_, rfl, _, rfl, hs.toMoNone⟩)
    | (have e9 : ctake p tr e j d m = (none, 170, tr, (e || j.ended || d.down), j, d) := by unfold ctake; rw [if_neg hev, if_neg (by simpa using hsnd), if_pos (by assumption)]
       rw [e9]; exact ⟨_, rfl, _, rfl, hs.toMoNone⟩)
    | (have e9 : ctake p tr e j d m = (none, 0, tr, (e || j.ended || d.down), j, d) := by unfold ctake; rw [if_neg hev, if_neg (by simpa using hsnd), if_neg hmt, if_neg (by assumption), if_neg (by assumption)]
       rw [e9]; exact ⟨_, rfl, _, rfl, hs.toMoNone⟩)
  have hmt : ¬ m.t ≠ 0 := h9
  refine Zs (Zf un41 inf3 rfl 0 rfl (Zl sc3 rfl (hs.blk_at 3 rfl 0 rfl) (Zr (run_eql rfl rfl) rfl (Za rfl (Zj (St_ifP rfl (fun h10 => ?_) (fun h10 => ?_)))))))
  · refine Zs (Zm rfl (Zr (run_load_agg agg41 inf41 rfl rfl (hs.blk_cells 3 rfl 0 9)) rfl ?_))
    have hso := sound_ends hsnd (.inl (by assumption))
    refine Zc fn40 rfl (cready_c B w7 _ bc bd bj p ops tr (e || j.ended || d.down) hs m q (fun w' X z => (Sat.rdL0 (pre := [_, _, _, _]) hme z).e) hen (by omega) hso.1 hwn (fun t ht => by have := (hfb t ht).1; omega) (fun t ht => (hfb t ht).2)) rfl ?_
    rintro v11 w12 hs
    refine Za rfl (Za rfl (Zj (St_ret (Jm_block_ret (Jm_then_ret (Jm_ret2 rfl rfl rfl ?_))))))
    replace hs := hs.E4.F3.F3.F3.F3
    have e9 : ctake p tr e j d m = ((cready p tr m).1, 0, (cready p tr m).2, (e || j.ended || d.down), j, d) := by unfold ctake; rw [if_neg hev, if_neg (by simpa using hsnd), if_neg hmt, if_pos (by assumption)]
    rw [e9]
    exact ⟨_, rfl, _, rfl, hs⟩
  refine Zs (Zf un41 inf3 rfl 0 rfl (Zl sc3 rfl (hs.blk_at 3 rfl 0 rfl) (Zr (run_eql rfl rfl) rfl (Za rfl (Zj (St_ifP rfl (fun h13 => ?_) (fun h13 => ?_)))))))
  · refine Zs (Zm rfl (Zr (run_load_agg agg41 inf41 rfl rfl (hs.blk_cells 3 rfl 0 9)) rfl ?_))
    replace hs := hs.F2.F2.F2
    have hso := sound_ends hsnd (.inr (by assumption))
    refine Zc fn41 rfl (cdone_c B w7 _ bc bd bj p ops tr (e || j.ended || d.down) j d hs hjo hdok m q (fun w' X z => (Sat.rdL0 (pre := [_, _]) hme z).e) hen (by omega) hso.1 hwn hlt) rfl ?_
    rintro v14 w15 ⟨vv, rfl, hs⟩
    refine Zr (run_extract rfl rfl) rfl (Zr (run_extract rfl rfl) rfl (Za rfl (Za rfl (Zj (St_ret (Jm_block_ret (Jm_then_ret (Jm_ret2 rfl rfl rfl ?_))))))))
    replace hs := hs.E4.F3.F3.F3.F3
    have e9 : ctake p tr e j d m = cdone tr (e || j.ended || d.down) j d m := by unfold ctake; rw [if_neg hev, if_neg (by simpa using hsnd), if_neg hmt, if_neg (by assumption), if_pos (by assumption)]
    rw [e9]
    exact ⟨_, rfl, _, rfl, hs⟩
  refine St_skip (Jm_block_normal (Zq (Zs (Za rfl (Za rfl (Zj (St_ret (Jm_ret2 rfl rfl rfl ?_))))))))
  replace hs := hs.E3.F2.F2.F2
  first
  | (have e9 : ctake p tr e j d m = (none, 80, tr, (e || j.ended || d.down), j, d) := by unfold ctake; rw [if_pos hev]
     rw [e9]; exact ⟨_, rfl, _, by rw [if_pos hev], hs.toMoNone⟩)
  | (have e9 : ctake p tr e j d m = (none, 150, tr, (e || j.ended || d.down), j, d) := by unfold ctake; rw [if_neg hev, if_pos (by assumption)]
     rw [e9]; exact ⟨_, rfl, _, rfl, hs.toMoNone⟩)
  | (have e9 : ctake p tr e j d m = (none, 170, tr, (e || j.ended || d.down), j, d) := by unfold ctake; rw [if_neg hev, if_neg (by simpa using hsnd), if_pos (by assumption)]
     rw [e9]; exact ⟨_, rfl, _, rfl, hs.toMoNone⟩)
  | (have e9 : ctake p tr e j d m = (none, 0, tr, (e || j.ended || d.down), j, d) := by unfold ctake; rw [if_neg hev, if_neg (by simpa using hsnd), if_neg hmt, if_neg (by assumption), if_neg (by assumption)]
     rw [e9]; exact ⟨_, rfl, _, rfl, hs.toMoNone⟩)
end Go.Proofs.Ytcifdianinbkeaa.Lg
set_option linter.unusedVariables false
set_option linter.unusedSimpArgs false
namespace Go.Proofs.Ytcifdianinbkeaa.Lg
open Go Go.RowKit Go.Proofs.Ytcifdianinbkeaa.WirePure Go.Proofs.Ytcifdianinbkeaa.PlanPure
/-- The lists of tries, as rows. -/
def rvals (l : List TT) : List Value := l.flatMap fun x => [.slice x.2.fA x.1.fr.length x.2.fc, .slice x.2.tA x.1.to.length x.2.tc]
def rlists (l : List TSt) : List (List Int) := l.flatMap fun x => [x.fr, x.to]
theorem rvals_len (l : List TT) : (rvals l).length = (rlists (l.map Prod.fst)).length := by
  induction l with
  | nil => rfl
  | cons x l ih => simpa [rvals, rlists] using ih
theorem rvals_snoc (l : List TT) (x : TT) : rvals (l ++ [x]) = rvals l ++ [.slice x.2.fA x.1.fr.length x.2.fc] ++ [.slice x.2.tA x.1.to.length x.2.tc] := by simp [rvals]
theorem rlists_snoc (l : List TSt) (x : TSt) : rlists (l ++ [x]) = rlists l ++ [x.fr] ++ [x.to] := by simp [rlists]
theorem take_snocT {α : Type} {l : List α} {i : Nat} {d x : α} (h : i < l.length) (e : l.getD i d = x) : l.take (i + 1) = l.take i ++ [x] := by
  rw [List.take_succ_eq_append_getElem h, ← e, getD_el h]
theorem take_setT {α : Type} {l : List α} {i : Nat} {y : α} : (l.set i y).take i = l.take i := by
  apply List.ext_getElem?
  intro k
  rw [List.getElem?_take, List.getElem?_take]
  split
  · rw [List.getElem?_set, if_neg (by omega)]
  · rfl
theorem fst_set_same {vt : List TT} {tr : List TSt} {i : Nat} {x y : TT} (h : vt.map Prod.fst = tr) (hx : vt.getD i T0 = x) (hi : i < vt.length) (e : y.1 = x.1) : (vt.set i y).map Prod.fst = tr := by
  rw [List.map_set, h, e, ← hx, ← fst_getD, h]
  exact set_getD_same (by rw [← h, List.length_map]; exact hi)
theorem row_front {a b c d e f : Assn} {L R : List Assn} : List.Perm (a :: b :: c :: d :: e :: f :: (L ++ R)) (a :: ((([b, c, d, e, f] : List Assn) ++ L) ++ R)) := by simp
set_option maxRecDepth 100000 in
set_option maxHeartbeats 1000000 in
theorem cTries_c (B w : World) (L : List Assn) (bc bd bj : Nat) (p : PlanA) (ops : OpL) (tr : List TSt) (e : Bool) (hs : Sat B w (CA 79 43 bc bd bj p ops tr e :: L)) (hwn : tr.length ≤ 1024) (hlt : ∀ t ∈ tr, t.fr.length ≤ 1073741824 ∧ t.to.length ≤ 1073741824) :
    Calls Try.prog 12 [.pointer (some ⟨bc, 0, none⟩)].toArray w (Ret (fun v' w' => ∃ vo Ao co, vo.map Prod.fst = tr ∧ v' = .slice Ao vo.length co ∧ Sat B w' (Own 43 7 (.slice Ao vo.length co) vo.length (KT.flat vo) :: CA 79 43 bc bd bj p ops tr e :: (L ++ rowsA 3 KI (rvals vo) (rlists tr))))) := by
  obtain ⟨vt, A, c, hvt, hs⟩ := hs.copen
  have hvl : vt.length = tr.length := by rw [← hvt, List.length_map]
  refine Zb Try.func12 rfl rfl rfl (Zs (Za rfl (Zj (St_seq (Zs (Zm rfl (Zr (run_asB (c := false) (run_eql_ptr_nil un28 rfl rfl) rfl) rfl (Zj (St_iff rfl (St_skip (Zq (Zs (Zm rfl (Zk rfl (Zf un79 inf44 rfl 10 rfl (Zl sc44 rfl (hs.blk_at 0 rfl 10 rfl) (Zc fn38 rfl (CloneT_c w _ _ _ vt (hs.rd_at 1 rfl) (by omega)) rfl ?_)))))))))))))))))
  rintro v2 w3 ⟨Ao, co, rfl, hsC⟩
  replace hs := hs.T hsC
  refine Za rfl (Zj (St_seq (Zs (Zm rfl (Zr (run_len un44 rfl) rfl (Zm rfl (Zj (St_block ?_))))))))
  obtain ⟨En4, hEn4⟩ := ex2 fun (i : Nat) (vo : List TT) => ([(3, .slice Ao vt.length co), (13, .int .i64 (vt.length : Int)), (14, .int .i64 (i : Int))] : Env)
  obtain ⟨Iv5, hIv5⟩ := ew2 fun (i : Nat) (vo : List TT) (wr : World) => Sat B wr (Own 43 7 (.slice Ao vt.length co) vt.length (KT.flat vo) :: Blk bc (ccells p bd bj A vt.length c e) 79 :: Own 43 7 (.slice A vt.length c) vt.length (KT.flat vt) :: Keep (CKeep p ops vt) :: (L ++ rowsA 3 KI (rvals (vo.take i)) (rlists (tr.take i)))) ∧ i ≤ vt.length ∧ vo.length = vt.length ∧ vo.map Prod.fst = tr ∧ ∀ k, i ≤ k → vo.getD k T0 = vt.getD k T0
  obtain ⟨ms6, hms6⟩ := ex2 fun (i : Nat) (vo : List TT) => (vt.length - i : Nat)
  refine St_loop En4 Iv5 ms6 (0, vt) ?_ ?_ ?_
  · rw [hIv5]
    exact ⟨by simpa [rvals, rlists, rowsA] using hs, by omega, rfl, hvt, fun _ _ => rfl⟩
  · rw [hEn4]; exact sE ⟨rfl, rfl, rfl, trivial⟩
  rintro ⟨i, vo⟩ wr hI7
  rw [hIv5] at hI7
  obtain ⟨hs, hi, hlo, hmo, hvo⟩ := hI7
  refine St_eqE (hEn4 _ _) (Zs (Zr (run_lss rfl rfl) rfl (Zj (St_seq (St_ifP rfl (fun h8 => ?_) (fun h8 => ?_))))))
  · refine St_skip (Zq (St_seq (St_block (Zs ?_))))
    obtain ⟨x, hx0⟩ : ∃ y, vt.getD i T0 = y := ⟨_, rfl⟩
    have hxo : vo.getD i T0 = x := by rw [hvo i (by omega)]; exact hx0
    have hxm : x ∈ vt := by rw [← hx0]; exact getD_mem3 (by omega)
    have hxt : x.1 ∈ tr := by rw [← hvt]; exact List.mem_map_of_mem hxm
    obtain ⟨go, hgo⟩ := hs.own_addr (by omega)
    subst hgo
    refine Zm rfl (Za rfl (Zj (St_drawC 18 (fun x => Below wr.heap.size wr x) mixed (fun w9 q10 => ?_))))
    have hH := q10.below
    replace hs := hs.quiet q10
    refine AnC_grow hH ?_
    replace hH := Below.refl w9.heap.size w9
    refine Yr (fun _ => hH) 0 rfl (by kernel_rfl) (fun x => run_move rfl) (Yr (fun _ => hH) 1 rfl (by kernel_rfl) (fun x => run_move rfl) (Yr (fun _ => hH) 2 rfl (by kernel_rfl) (fun x => run_move rfl) (Yr (fun _ => hH) 3 rfl (by kernel_rfl) (fun x => run_move rfl) (Yr (fun _ => hH) 4 rfl (by kernel_rfl) (fun x => run_move rfl) (Yr (fun _ => hH) 5 rfl (by kernel_rfl) (fun x => run_move rfl) (AnC_index 6 [18, 6] (KT) rfl (by kernel_rfl) (by kernel_rfl) (by kernel_rfl) (by kernel_rfl) (fun _ _ _ _ h => h) hH (fun x hx => ((hs.rd_at 0 rfl).grow hx)) un44 inf43 rfl rfl (by omega) (by omega) hxo rfl (fun b11 o12 hc13 => (Yr (fun _ => hH) 7 rfl (by kernel_rfl) (fun x => run_field un43 rfl inf25 (by decide) rfl) (Yd hH 8 [18, 8] rfl (by kernel_rfl) (fun x hx => run_load sc25 rfl ((hc13 x hx) 5 _ rfl)) (Yr (fun _ => hH) 10 rfl (by kernel_rfl) (fun x => run_move rfl) (Yr (fun _ => hH) 11 rfl (by kernel_rfl) (fun x => run_move rfl) (AnC_index 12 [18, 14, 13, 12] (KT) rfl (by kernel_rfl) (by kernel_rfl) (by kernel_rfl) (by kernel_rfl) (fun _ _ _ _ h => h) hH (fun x hx => ((hs.rd_at 0 rfl).grow hx)) un44 inf43 rfl rfl (by omega) (by omega) hxo rfl (fun b14 o15 hc16 => (Yr (fun _ => hH) 13 rfl (by kernel_rfl) (fun x => run_field un43 rfl inf25 (by decide) rfl) (Yd hH 14 [18, 14] rfl (by kernel_rfl) (fun x hx => run_load sc25 rfl ((hc16 x hx) 6 _ rfl)) (AnC_only 9 (by kernel_rfl) rfl (Zc fn36 rfl (CloneI_c w9 _ _ _ x.1.fr (((hs.kept 3 rfl).1 _ hxm).1) (by have := hlt x.1 hxt; omega)) rfl ?_)))))))))))))))))
    rintro v17 w18 ⟨Af, cf, rfl, hsC⟩
    replace hs := hs.T hsC
    replace hH := (hsC.below : Below w9.heap.size w9 w18)
    refine Ls_nil (Jm_AnC (fun _ => hH) (AnC_grow hH ?_))
    replace hH := Below.refl w18.heap.size w18
    refine AnC_only 15 (by kernel_rfl) rfl (Zc fn36 rfl (CloneI_c w18 _ _ _ x.1.to (((hs.kept 4 rfl).1 _ hxm).2) (by have := hlt x.1 hxt; omega)) rfl ?_)
    rintro v19 w20 ⟨At, ct, rfl, hsC⟩
    replace hs := hs.T hsC
    replace hH := (hsC.below : Below w18.heap.size w18 w20)
    refine Ls_nil (Jm_AnC (fun _ => hH) (AnC_grow hH ?_))
    replace hH := Below.refl w20.heap.size w20
    refine Yd hH 16 [18, 17, 16] rfl (by kernel_rfl) (fun x hx => run_as (run_index un44 inf43 rfl rfl rfl (by omega) (by omega)) (show _ = Value.pointer (some ⟨go, i * 7, none⟩) from by simp)) (Yr (fun _ => hH) 17 rfl (by kernel_rfl) (fun x => run_as (run_field un43 rfl inf25 (by decide) rfl) (show _ = Value.pointer (some ⟨go, i * 7 + 5, none⟩) from by first | rfl | simp)) (AnC_only 18 (by kernel_rfl) rfl ?_))
    replace hs := hs.F2
    refine Ls_storeOwnC hs inf25 rfl rfl rfl (by omega) (fun w21 hs => ?_)
    rw [flatKT_set (i := i) (k := 5) (y := (x.1, { x.2 with fA := Af, fc := cf })) (by omega) (by decide) (by rw [hxo]; simp [tcells])] at hs
    obtain ⟨u1, hu1⟩ : ∃ z, vo.set i (x.1, { x.2 with fA := Af, fc := cf }) = z := ⟨_, rfl⟩
    rw [hu1] at hs
    have hlu1 : u1.length = vt.length := by rw [← hu1, List.length_set]; exact hlo
    have hy1 : u1.getD i T0 = (x.1, { x.2 with fA := Af, fc := cf }) := by rw [← hu1]; exact getD_set_sameT (by omega)
    refine Ls_nil (Jm_AnC_closed (by kernel_rfl) (AnC_switch (H' := fun x => Below w21.heap.size w21 x) 21 (by kernel_rfl) ?_))
    replace hH := Below.refl w21.heap.size w21
    refine Yd hH 19 [21, 20, 19] rfl (by kernel_rfl) (fun x hx => run_as (run_index un44 inf43 rfl rfl rfl (by omega) (by omega)) (show _ = Value.pointer (some ⟨go, i * 7, none⟩) from by simp)) (Yr (fun _ => hH) 20 rfl (by kernel_rfl) (fun x => run_as (run_field un43 rfl inf25 (by decide) rfl) (show _ = Value.pointer (some ⟨go, i * 7 + 6, none⟩) from by first | rfl | simp)) (AnC_only 21 (by kernel_rfl) rfl (Ls_storeOwnC hs inf25 rfl rfl rfl (by omega) (fun w22 hs => ?_))))
    rw [flatKT_set (i := i) (k := 6) (y := (x.1, (⟨Af, cf, At, ct⟩ : TP))) (by omega) (by decide) (by rw [hy1]; simp [tcells])] at hs
    obtain ⟨u2, hu2⟩ : ∃ z, u1.set i (x.1, (⟨Af, cf, At, ct⟩ : TP)) = z := ⟨_, rfl⟩
    rw [hu2] at hs
    have hlu2 : u2.length = vt.length := by rw [← hu2, List.length_set]; exact hlu1
    have hy2 : u2.getD i T0 = (x.1, (⟨Af, cf, At, ct⟩ : TP)) := by rw [← hu2]; exact getD_set_sameT (by omega)
    refine Ls_nil (Jm_AnC_closed (by kernel_rfl) (AnC_switch (H' := fun x => Below w22.heap.size w22 x) 22 (by kernel_rfl) ?_))
    replace hH := Below.refl w22.heap.size w22
    refine AnC_done (by kernel_rfl) (Jm_block_normal (Zq (St_region (Zr (run_add rfl rfl (w64 (by omega))) rfl (Zm rfl (Ls_nil ?_))))))
    replace hs := hs.F5.F5.F5.F3.F4.F5
    have hu2t : u2.take i = vo.take i := by rw [← hu2, ← hu1, List.set_set]; exact take_setT
    have hu2l : i < u2.length := by omega
    have h5 := (hs.perm (List.Perm.swap _ _ _))
    have h4 := hs.perm (show List.Perm _ (_ :: _ :: _) from List.Perm.refl _)
    have h6 := Sat.row_add (pre := [_, _, _, _, _] ++ L) x.1.fr (hs.perm (row_front)) rfl rfl (by rw [rvals_len, List.map_take, hmo])
    have h7 := Sat.row_add (pre := [_, _, _, _] ++ L) x.1.to h6 rfl rfl (by rw [List.length_append, List.length_append, rvals_len, List.map_take, hmo]; rfl)
    rw [← hu2t] at h7
    rw [show rvals (u2.take i) ++ [Value.slice Af x.1.fr.length cf] ++ [Value.slice At x.1.to.length ct] = rvals (u2.take (i + 1)) by rw [take_snocT hu2l hy2, rvals_snoc], show rlists (tr.take i) ++ [x.1.fr] ++ [x.1.to] = rlists (tr.take (i + 1)) by rw [take_snocT (d := T0.1) (x := x.1) (by omega) (by rw [← hvt, fst_getD, hx0]), rlists_snoc]] at h7
    refine Jm_round (i + 1, u2) ?_ ?_ ?_
    · rw [hEn4]; exact sE ⟨rfl, rfl, rfl, trivial⟩
    · rw [hIv5]
      refine ⟨h7, by omega, by omega, ?_, fun k hk => ?_⟩
      · rw [← hu2, ← hu1, List.set_set]; exact fst_set_same hmo hxo (by omega) rfl
      · rw [← hu2, ← hu1, List.set_set, ← hvo k (by omega), List.getD_eq_getElem?_getD, List.getD_eq_getElem?_getD, List.getElem?_set, if_neg (by omega)]
    rw [hms6, hms6]
    omega
  refine St_exit (Jm_then_exit (Jm_then_exit (Jm_block_same (Zq (Zs (Zm rfl (Za rfl (Zj (St_ret (Jm_ret1 rfl rfl ?_))))))))))
  have hi9 : i = tr.length := by omega
  rw [List.take_of_length_le (by omega), List.take_of_length_le (by omega)] at hs
  have h9 := Sat.cshut hvt (hs.perm (show List.Perm _ (_ :: _ :: _ :: (_ :: (L ++ _))) from (List.perm_append_comm (l₁ := [_]) (l₂ := [_, _, _])).append_right _))
  refine ⟨_, rfl, vo, Ao, co, hmo, by rw [hlo], ?_⟩
  rw [hlo]
  exact h9.perm (List.Perm.swap _ _ _)
end Go.Proofs.Ytcifdianinbkeaa.Lg
set_option linter.unusedVariables false
set_option linter.unusedSimpArgs false
namespace Go.Proofs.Ytcifdianinbkeaa.Lg
open Go Go.RowKit Go.Proofs.Ytcifdianinbkeaa.WirePure Go.Proofs.Ytcifdianinbkeaa.PlanPure
/-- Ends that have gone on, by no more than ba. -/
def Onw (ba : Int) (c x : List Int) : Prop := x.length = c.length ∧ ∀ q, q < c.length → c.getD q 0 ≤ x.getD q 0 ∧ x.getD q 0 ≤ 256 ∧ x.getD q 0 ≤ c.getD q 0 + ba
theorem Onw.put {ba : Int} {c x : List Int} (h : Onw ba c x) {i : Nat} {v : Int} (h1 : c.getD i 0 ≤ v) (h2 : v ≤ 256) (h3 : v ≤ c.getD i 0 + ba) : Onw ba c (x.set i v) := by
  refine ⟨by rw [List.length_set]; exact h.1, fun q hq => ?_⟩
  by_cases e : q = i
  · subst e; rw [set_getD_eq (by have := h.1; omega)]; exact ⟨h1, h2, h3⟩
  · rw [set_getD_ne e]; exact h.2 q hq
theorem u64_nat' (x : Int) : ∃ u : Nat, IntKind.u64.wrap x = (u : Int) ∧ u < 18446744073709551616 := by
  have h : IntKind.u64.wrap x = x % 18446744073709551616 := by simp [IntKind.wrap, IntKind.bits, IntKind.signed]
  exact ⟨(x % 18446744073709551616).toNat, by rw [h]; omega, by omega⟩
theorem rem_nn' (u k : Nat) : Int.tmod (u : Int) (k : Int) = ((u % k : Nat) : Int) := by exact_mod_cast (Int.ofNat_tmod u k).symm
set_option maxRecDepth 100000 in
set_option maxHeartbeats 1000000 in
theorem ints19_c (w : World) (A : Option Addr) (n c : Nat) (l : List Int) (A2 : Option Addr) (n2 c2 : Nat) (l2 : List Int) (hr : Rd w A n c 1 (KI.flat l)) (hr2 : Rd w A2 n2 c2 1 (KI.flat l2)) (hn : n ≤ 9223372036854775807) :
    Calls Try.prog 13 [.slice A n c, .slice A2 n2 c2].toArray w (Ret (fun v' w' => v' = .bool (decide (l = l2)) ∧ Sat w w' [])) := by
  have hs := Sat.start w
  have hl := lenKI hr
  have hl2 := lenKI hr2
  refine Zb Try.func13 rfl rfl rfl (Zs (Za rfl (Zj (St_seq (Zs (Zm rfl (Zr (run_len un25 rfl) rfl (Zm rfl (Zr (run_len un25 rfl) rfl (Zr (run_neq rfl rfl) rfl (Zj (St_ifP rfl (fun h1 => ?_) (fun h1 => ?_)))))))))))))
  · refine Zs (Za rfl (Zj (St_ret (Jm_then_ret (Jm_ret1 rfl rfl ?_)))))
    exact ⟨_, rfl, by rw [decide_eq_false (fun q => by subst q; omega)], hs⟩
  refine St_skip (Zq (St_seq (Zs (Za rfl (Zj (St_block ?_))))))
  obtain ⟨En2, hEn2⟩ := ex1 fun (i : Nat) => ([(0, .slice A n c), (1, .slice A2 n2 c2), (5, .int .i64 (i : Int))] : Env)
  obtain ⟨Iv3, hIv3⟩ := ew1 fun (i : Nat) (wr : World) => Sat w wr [] ∧ i ≤ n ∧ n = n2 ∧ l.take i = l2.take i
  obtain ⟨ms4, hms4⟩ := ex1 fun (i : Nat) => (n - i : Nat)
  refine St_loop En2 Iv3 ms4 (0) ?_ ?_ ?_
  · rw [hIv3]
    exact ⟨hs, by omega, by omega, rfl⟩
  · rw [hEn2]; exact sE ⟨rfl, rfl, rfl, trivial⟩
  rintro i wr hI5
  rw [hIv3] at hI5
  obtain ⟨hs, hi, hnn, heqt⟩ := hI5
  refine St_eqE (hEn2 _) (St_seq (Zs (Zm rfl (Zm rfl (Zr (run_len un25 rfl) rfl (Zr (run_lss rfl rfl) rfl (Zj (St_ifP rfl (fun h6 => ?_) (fun h6 => ?_)))))))))
  · refine St_skip (Zq (St_seq (St_block (St_seq (St_draw (fun x => Below wr.heap.size wr x) mixed (fun w7 q8 => ?_))))))
    have hH := q8.below
    replace hs := hs.quiet q8
    refine An_grow hH ?_
    replace hH := Below.refl w7.heap.size w7
    refine Ym hH 0 rfl (by kernel_rfl) rfl (Ym hH 1 rfl (by kernel_rfl) rfl (An_index 2  (KI) rfl (by kernel_rfl) (by kernel_rfl) (by kernel_rfl) (fun _ _ _ _ h => h) hH (fun x hx => ((hr.inB hs).grow hx)) un25 inf3 rfl rfl (by omega) (by omega) (show _ = l.getD i 0 from rfl) rfl (fun b9 o10 hc11 => (Ya hH 3 rfl (by kernel_rfl) (fun x hx => run_load sc3 rfl ((hc11 x hx) 0 _ rfl)) (Ym hH 4 rfl (by kernel_rfl) rfl (Ym hH 5 rfl (by kernel_rfl) rfl (An_index 6  (KI) rfl (by kernel_rfl) (by kernel_rfl) (by kernel_rfl) (fun _ _ _ _ h => h) hH (fun x hx => ((hr2.inB hs).grow hx)) un25 inf3 rfl rfl (by omega) (by omega) (show _ = l2.getD i 0 from rfl) rfl (fun b12 o13 hc14 => (Ya hH 7 rfl (by kernel_rfl) (fun x hx => run_load sc3 rfl ((hc14 x hx) 0 _ rfl)) (Ya hH 8 rfl (by kernel_rfl) (fun x hx => run_neq rfl rfl) (An_done (by kernel_rfl) (Zq (St_ifP rfl (fun h15 => ?_) (fun h15 => ?_))))))))))))))
    · refine Zs (Za rfl (Zj (St_ret (Jm_block_ret (Jm_then_ret (Jm_then_ret (Jm_block_ret (Jm_then_ret (Jm_ret1 rfl rfl ?_)))))))))
      exact ⟨_, rfl, by rw [decide_eq_false (fun q => by subst q; omega)], hs⟩
    refine St_skip (Jm_block_normal (Zq (St_region (Zm rfl (Zr (run_add rfl rfl (w64 (by omega))) rfl (Za rfl (Ls_nil (Jm_round (i + 1) ?_ ?_ ?_))))))))
    · rw [hEn2]; exact sE ⟨rfl, rfl, rfl, trivial⟩
    · rw [hIv3]
      refine ⟨hs, by omega, hnn, ?_⟩
      rw [takeK (l2 := l) (by omega), takeK (l2 := l) (by omega), heqt]
      congr 2; omega
    rw [hms4, hms4]
    omega
  refine St_exit (Jm_then_exit (Jm_then_exit (Jm_block_same (Zq (Zs (Za rfl (Zj (St_ret (Jm_ret1 rfl rfl ?_)))))))))
  have hi9 : i = n := by omega
  rw [List.take_of_length_le (by omega), List.take_of_length_le (by omega)] at heqt
  exact ⟨_, rfl, by rw [decide_eq_true heqt], hs⟩
set_option maxRecDepth 100000 in
set_option maxHeartbeats 1000000 in
theorem labout_c (w : World) (k : Int) (x : TT) (A : Option Addr) (n c : Nat) :
    Calls Try.prog 16 [.int .i64 k, .agg #[.int .i64 x.1.b, .int .i64 x.1.a, .int .i64 x.1.nd, .int .i64 x.1.ph, .int .i64 x.1.ti, .slice x.2.fA x.1.fr.length x.2.fc, .slice x.2.tA x.1.to.length x.2.tc], .slice A n c].toArray w (Ret (fun v' w' => v' = .agg #[.int .i64 k, .int .i64 x.1.nd, .int .i64 0, .int .i64 x.1.b, .int .i64 x.1.a, .int .i64 0, .slice A n c, .slice none 0 0, .slice none 0 0] ∧ Sat w w' [])) := by
  have hs := Sat.start w
  refine Zb Try.func16 rfl rfl rfl (Zs (Ls_box hs rfl rfl (fun b2 w1 hs => (Ls_alloc hs inf41 rfl (fun b4 w3 hs => (Zt (Zm rfl (Zf un43 inf3 rfl 2 rfl (Zl sc3 rfl (hs.blk_at 1 rfl 2 rfl) (Zf un43 inf3 rfl 0 rfl (Zl sc3 rfl (hs.blk_at 1 rfl 0 rfl) (Zf un43 inf3 rfl 1 rfl (Zl sc3 rfl (hs.blk_at 1 rfl 1 rfl) (Zm rfl (Zr (run_buildO (pv := [(0, _), (1, _), (3, _), (4, _), (6, _)]) rfl (bld41_0_1_3_4_6 _ _ _ _ _ _ _)) rfl (Ls_storeAgg hs inf41 rfl rfl rfl rfl (by simp [Value.oneCell', Value.cells]) (fun w5 hs => (Zj (St_ret (Jm_retC rfl agg41 inf41 rfl rfl (hs.blk_cells 0 rfl 0 9) ?_))))))))))))))))))))
  exact ⟨_, rfl, rfl, hs.forget⟩
set_option maxRecDepth 100000 in
set_option maxHeartbeats 1000000 in
theorem onward_c (w : World) (p : PlanA) (A : Option Addr) (c : Nat) (cs : List Int) (hr : Rd w A cs.length c 1 (KI.flat cs)) (Ao : Option Addr) (no co : Nat) (ol : List Int) (hro : Rd w Ao no co 1 (KI.flat ol)) (hno : no ≤ 9223372036854775807) (m : Nat) (hm : p.ba + 1 = (m : Int)) (hm2 : 2 ≤ m ∧ m ≤ 17) (hcl : cs.length ≤ 4) (hcb : ∀ y ∈ cs, 0 ≤ y ∧ y ≤ 256) :
    Calls Try.prog 14 [.agg #[.int .i64 p.pa, .int .i64 p.st, .int .i64 p.wo, .slice p.oA p.on p.oc, .int .i64 p.ag, .int .i64 p.ba, .int .i64 p.wi, .int .i64 p.gu], .slice A cs.length c, .slice Ao no co].toArray w (Ret (fun v' w' => ∃ xs A' c', Onw p.ba cs xs ∧ v' = .slice A' cs.length c' ∧ Sat w w' [Own 3 1 (.slice A' cs.length c') cs.length (KI.flat xs)])) := by
  have hs := Sat.start w
  have hol := lenKI hro
  refine Zb Try.func14 rfl rfl rfl (Zs (Ls_box hs rfl rfl (fun b2 w1 hs => (Za rfl (Zt (Ls_literal [] hs un25 inf3 rfl rfl rfl rfl rfl rfl (fun b3 w4 hs => ?_)))))))
  simp only [List.flatMap_cons, List.flatMap_nil, Value.cells, List.cons_append, List.nil_append] at hs
  replace hs := Sat.own_block hs 1 0 rfl (by decide)
  refine Zm rfl (Ls_append hs un25 inf3 rfl (by decide) (by decide) rfl rfl (hr.inB hs) (flatKI_one _) (by omega) rfl (fun A5 c6 w7 hs => ?_))
  simp only [Nat.zero_add, List.nil_append] at hs ⊢
  refine Za rfl (Zj (St_seq (Zs (Za rfl (Zj (St_block ?_))))))
  obtain ⟨En8, hEn8⟩ := ex3 fun (i : Nat) (xs : List Int) (cv : Value) => ([(2, .slice Ao no co), (3, .pointer (some ⟨b2, 0, none⟩)), (7, cv), (8, .int .i64 (i : Int))] : Env)
  obtain ⟨Iv9, hIv9⟩ := ew3 fun (i : Nat) (xs : List Int) (cv : Value) (wr : World) => Sat w wr [Own 3 1 cv cs.length (KI.flat xs), Blk b2 [.int .i64 p.pa, .int .i64 p.st, .int .i64 p.wo, .slice p.oA p.on p.oc, .int .i64 p.ag, .int .i64 p.ba, .int .i64 p.wi, .int .i64 p.gu] 24] ∧ i ≤ cs.length ∧ Onw p.ba cs xs ∧ (∀ q, i ≤ q → xs.getD q 0 = cs.getD q 0) ∧ ∃ A c, cv = .slice A cs.length c
  obtain ⟨ms10, hms10⟩ := ex3 fun (i : Nat) (xs : List Int) (cv : Value) => (cs.length - i : Nat)
  refine St_loop En8 Iv9 ms10 (0, cs, Value.slice A5 cs.length c6) ?_ ?_ ?_
  · rw [hIv9]
    exact ⟨hs, by omega, ⟨rfl, fun q hq => ⟨Int.le_refl _, (hcb _ (getD_mem3 hq)).2, by omega⟩⟩, fun _ _ => rfl, _, _, rfl⟩
  · rw [hEn8]; exact sE ⟨rfl, rfl, rfl, rfl, trivial⟩
  rintro ⟨i, xs, cv⟩ wr hI11
  rw [hIv9] at hI11
  obtain ⟨hs, hi, hgo, hsm, Av, cv9, hcv⟩ := hI11
  refine St_eqE (hEn8 _ _ _) ?_
  subst hcv
  have hgl := hgo.1
  refine St_seq (Zs (Zm rfl (Zm rfl (Zr (run_len un25 rfl) rfl (Zr (run_lss rfl rfl) rfl (Zm rfl (Ls_partP (t := 16) rfl (fun h12 => ?_) (fun h12 => ?_))))))))
  · refine Zo rfl (Zm rfl (Zo rfl (Zm rfl (Zo rfl (Zr (run_len un25 rfl) rfl (Zo rfl (Zr (run_lss rfl rfl) rfl (Zr (run_pick_t rfl rfl) rfl (Zj (St_ifP rfl (fun h13 => ?_) (fun h13 => ?_)))))))))))
    · refine St_skip (Zq (St_seq (St_block (St_seq (St_drawC 17 (fun x => Below wr.heap.size wr x) mixed (fun w14 q15 => ?_))))))
      have hH := q15.below
      replace hs := hs.quiet q15
      refine AnC_grow hH ?_
      replace hH := Below.refl w14.heap.size w14
      obtain ⟨u, hu, hu2⟩ := u64_nat' (ol.getD i 0)
      have hgi := hgo.2 i (by omega)
      have hxp := hcb _ (getD_mem3 (l := cs) (d := 0) (i := i) (by omega))
      have hum := Nat.mod_lt u (show 0 < m by omega)
      have hsi := hsm i (by omega)
      refine Yr (fun _ => hH) 0 rfl (by kernel_rfl) (fun x => run_move rfl) (Yr (fun _ => hH) 1 rfl (by kernel_rfl) (fun x => run_move rfl) (AnC_index 2 [17, 2] (KI) rfl (by kernel_rfl) (by kernel_rfl) (by kernel_rfl) (by kernel_rfl) (fun _ _ _ _ h => h) hH (fun x hx => ((hs.rd_at 0 rfl).grow hx)) un25 inf3 rfl rfl (by omega) (by omega) (show _ = xs.getD i 0 from rfl) rfl (fun b16 o17 hc18 => (Yd hH 3 [17, 3] rfl (by kernel_rfl) (fun x hx => run_load sc3 rfl ((hc18 x hx) 0 _ rfl)) (Yr (fun _ => hH) 4 rfl (by kernel_rfl) (fun x => run_move rfl) (Yr (fun _ => hH) 5 rfl (by kernel_rfl) (fun x => run_move rfl) (AnC_index 6 [17, 6] (KI) rfl (by kernel_rfl) (by kernel_rfl) (by kernel_rfl) (by kernel_rfl) (fun _ _ _ _ h => h) hH (fun x hx => ((hro.inB hs).grow hx)) un25 inf3 rfl rfl (by omega) (by omega) (show _ = ol.getD i 0 from rfl) rfl (fun b19 o20 hc21 => (Yd hH 7 [17, 7] rfl (by kernel_rfl) (fun x hx => run_load sc3 rfl ((hc21 x hx) 0 _ rfl)) (Yr (fun _ => hH) 8 rfl (by kernel_rfl) (fun x => run_conv_int un67 us3 rfl (show _ = (u : Int) by rw [← hu])) (Yr (fun _ => hH) 9 rfl (by kernel_rfl) (fun x => run_fd un24 inf3 rfl 5 rfl) (Yd hH 10 [17, 10] rfl (by kernel_rfl) (fun x hx => run_load sc3 rfl ((hs.grow hx).blk_at 1 rfl 5 rfl)) (Yr (fun _ => hH) 11 rfl (by kernel_rfl) (fun x => run_add rfl rfl (show _ = (m : Int) by rw [w64 (by omega)]; exact hm)) (Yr (fun _ => hH) 12 rfl (by kernel_rfl) (fun x => run_conv_int un67 us3 rfl (show _ = (m : Int) by rw [wu64 (by omega)])) (Yr (fun _ => hH) 13 rfl (by kernel_rfl) (fun x => run_rem rfl rfl (by omega) (show _ = ((u % m : Nat) : Int) from rem_nn' u m)) (Yr (fun _ => hH) 14 rfl (by kernel_rfl) (fun x => run_conv_int un3 us67 rfl (w64 (by omega))) (Yr (fun _ => hH) 15 rfl (by kernel_rfl) (fun x => run_add rfl rfl (show _ = xs.getD i 0 + ((u % m : Nat) : Int) by rw [w64 (by omega)])) ?_)))))))))))))))))
      obtain ⟨g, hg⟩ := (hs.front 0 rfl).own_addr (by omega)
      subst hg
      refine Yr (fun _ => hH) 16 rfl (by kernel_rfl) (fun x => run_index un25 inf3 rfl rfl rfl (by omega) (by omega)) (AnC_only 17 (by kernel_rfl) rfl (Ls_storeOwn hs inf3 rfl rfl rfl (by omega) (fun w22 hs => (Ls_nil (Jm_AnC_closed (by kernel_rfl) (AnC_switch (H' := fun x => Below w22.heap.size w22 x) 18 (by kernel_rfl) ?_))))))
      replace hH := Below.refl w22.heap.size w22
      refine AnC_done (by kernel_rfl) (Zq (Zs ?_))
      rw [flatKI_set] at hs
      obtain ⟨ys, hys⟩ : ∃ q, q = xs.set i (xs.getD i 0 + ((u % m : Nat) : Int)) := ⟨_, rfl⟩
      rw [← hys] at hs
      have hyi : ys.getD i 0 = xs.getD i 0 + ((u % m : Nat) : Int) := by rw [hys, set_getD_eq (by omega)]
      have hyl : ys.length = xs.length := by rw [hys, List.length_set]
      refine Zm rfl (Zm rfl (Ls_index (KI) (hs.rd_at 0 rfl) un25 inf3 rfl rfl (by omega) (by omega) (show _ = xs.getD i 0 + ((u % m : Nat) : Int) from hyi) rfl (fun b23 o24 hc25 => (Zl sc3 rfl (hc25 0 _ rfl) (Zr (run_gtr rfl rfl) rfl (Zj (St_ifP rfl (fun h26 => ?_) (fun h26 => ?_))))))))
      · refine St_region (Zm rfl (Zm rfl (Zr (run_index un25 inf3 rfl rfl rfl (by omega) (by omega)) rfl (Ls_storeOwn hs inf3 rfl rfl rfl (by omega) (fun w27 hs => (Ls_nil (Jm_block_normal (Zq (St_region (Zm rfl (Zr (run_add rfl rfl (w64 (by omega))) rfl (Za rfl (Ls_nil ?_)))))))))))))
        rw [flatKI_set, hys, List.set_set] at hs
        refine Jm_round (i + 1, (xs.set i 256), Value.slice (some ⟨g, 0, none⟩) cs.length cv9) ?_ ?_ ?_
        · rw [hEn8]; exact sE ⟨rfl, rfl, rfl, rfl, trivial⟩
        · rw [hIv9]
          exact ⟨hs, by omega, hgo.put (by omega) (by omega) (by omega), fun q hq => by rw [set_getD_ne (by omega)]; exact hsm q (by omega), _, _, rfl⟩
        rw [hms10, hms10]
        omega
      refine St_skip (Jm_block_normal (Zq (St_region (Zm rfl (Zr (run_add rfl rfl (w64 (by omega))) rfl (Za rfl (Ls_nil (Jm_round (i + 1, ys, Value.slice (some ⟨g, 0, none⟩) cs.length cv9) ?_ ?_ ?_))))))))
      · rw [hEn8]; exact sE ⟨rfl, rfl, rfl, rfl, trivial⟩
      · rw [hIv9]
        exact ⟨hs, by omega, hys ▸ hgo.put (by omega) (by omega) (by omega), fun q hq => by rw [hys, set_getD_ne (by omega)]; exact hsm q (by omega), _, _, rfl⟩
      rw [hms10, hms10]
      omega
    refine St_exit (Jm_then_exit (Jm_then_exit (Jm_block_same (Zq (Zs (Zm rfl (Za rfl (Zj (St_ret (Jm_ret1 rfl rfl ?_))))))))))
    replace hs := hs.E1
    exact ⟨_, rfl, xs, Av, cv9, hgo, rfl, hs⟩
  refine Zx rfl (Zx rfl (Zx rfl (Zx rfl (Zr (run_pick_f rfl rfl) rfl (Zj (St_iff rfl (St_exit (Jm_then_exit (Jm_then_exit (Jm_block_same (Zq (Zs (Zm rfl (Za rfl (Zj (St_ret (Jm_ret1 rfl rfl ?_)))))))))))))))))
  replace hs := hs.E1
  exact ⟨_, rfl, xs, Av, cv9, hgo, rfl, hs⟩
end Go.Proofs.Ytcifdianinbkeaa.Lg
set_option linter.unusedVariables false
set_option linter.unusedSimpArgs false
namespace Go.Proofs.Ytcifdianinbkeaa.Lg
open Go Go.RowKit Go.Proofs.Ytcifdianinbkeaa.WirePure Go.Proofs.Ytcifdianinbkeaa.PlanPure
/-- A new journal's disk. -/
theorem fresh_ok {m : Nat} (h1 : 1 ≤ m) (h2 : m ≤ 4) : ∃ d0 d1, jformat (dnew 2) m = (0, some (jnew m), d0) ∧ jopen d0 (m : Int) = (0, some (jnew m), d1) ∧ DG d0 ∧ DG d1 ∧ DJ d1 (jnew m) := by
  obtain ⟨d0, hf, hg, hb, _⟩ := jformat_new h1 h2
  have hj := jnew_ok h1 h2
  have hdj : DJ d0 (jnew m) := ⟨by rw [hb]; rfl, by rw [hb]; rfl, .inl (by rw [hb]; rfl)⟩
  have ho := jopen_same hj hdj hg.1 rfl
  have hsm := dread_k_same d0 2
  refine ⟨d0, dread_k d0 2, hf, ho, hg, ⟨by rw [hsm.2.1]; exact hg.1, by rw [hsm.2.2.1]; exact hg.2.1, by rw [hsm.1]; exact hg.2.2.1, by rw [hsm.1]; exact hg.2.2.2.1, by rw [hsm.1]; exact hg.2.2.2.2⟩, ?_⟩
  unfold DJ
  rw [hsm.1]
  exact hdj
set_option maxRecDepth 100000 in
set_option maxHeartbeats 1000000 in
theorem fresh_c (w : World) (p : PlanA) (ops : OpL) (hr : Rd w p.oA p.on p.oc 3 (KOp.flat ops)) (hn : p.on ≤ 67108864) (hck : chk p ops = 0) :
    Calls Try.prog 26 [.agg #[.int .i64 p.pa, .int .i64 p.st, .int .i64 p.wo, .slice p.oA p.on p.oc, .int .i64 p.ag, .int .i64 p.ba, .int .i64 p.wi, .int .i64 p.gu]].toArray w (Ret (fun v' w' => ∃ bd bc bj Ao co m d, p.pa = ((m : Nat) : Int) ∧ v' = .tuple #[.pointer (some ⟨bd, 0, none⟩), .pointer (some ⟨bc, 0, none⟩)] ∧ Sat w w' [CA 79 43 bc bd bj { p with oA := Ao, oc := co } ops [] false, JA 108 3 bj (some ⟨bd, 0, none⟩) (jnew m), DiskA 122 125 5 bd d] ∧ DG d ∧ DJ d (jnew m))) := by
  have hs := Sat.start w
  have hk2 := chk_ok hck
  unfold numsOk at hk2
  refine Zb Try.func26 rfl rfl rfl (Zs (Ls_box hs rfl rfl (fun b2 w1 hs => (Za rfl (Za rfl (Zt (Zc fn49 rfl (New_c w1 2 (by decide) (by decide)) rfl ?_)))))))
  rintro v3 w4 ⟨bd, rfl, hsD⟩
  replace hs := hs.T hsD
  refine Zm rfl (Zr (run_extract rfl rfl) rfl (Zr (run_extract rfl rfl) rfl (Za rfl (Za rfl (Zt (Zm rfl (Zf un24 inf3 rfl 0 rfl (Zl sc3 rfl (hs.blk_at 1 rfl 0 rfl) ?_))))))))
  obtain ⟨m, hm⟩ : ∃ m : Nat, p.pa = (m : Int) := ⟨p.pa.toNat, by omega⟩
  obtain ⟨d0, d1, hfm, hop, hg0, hg1, hdj⟩ := fresh_ok (m := m) (by omega) (by omega)
  rw [hm]
  refine Zc fn50 rfl (Format_g w w4 _ bd (dnew 2) hs (fun x hx => by simp [dnew] at hx; subst hx; exact ⟨by simp [IsBytes], by simp⟩) m (by omega) (by omega)) rfl ?_
  rintro v5 w6 ⟨q, rfl, hs⟩
  rw [hfm] at hs ⊢
  simp only at hs ⊢
  rw [← hm]
  obtain ⟨bj0, hq0, h9⟩ := hs.joSome
  subst hq0
  replace hs := h9
  refine Zm rfl (Zr (run_extract rfl rfl) rfl (Zr (run_extract rfl rfl) rfl (Za rfl (Za rfl (Zj (St_seq (Zs (Zm rfl (Zr (run_asB (c := false) (run_neq rfl rfl) (by decide)) rfl (Zm rfl (Zo rfl (Zm rfl (Zo rfl (Zr (run_asB (c := false) (run_neq rfl rfl) (by decide)) rfl (Zr (run_pick_f rfl rfl) rfl (Zm rfl (Zo rfl (Zm rfl (Zo rfl (Zr (run_asB (c := false) (run_eql_ptr_nil un77 rfl rfl) rfl) rfl (Zr (run_pick_f rfl rfl) rfl (Zj (St_iff rfl (St_skip (Zq (Zs (Zr (run_load_agg agg24 inf24 rfl rfl (hs.blk_cells 2 rfl 0 8)) rfl (Zm rfl ?_))))))))))))))))))))))))))))
  replace hs := hs.E0
  refine Zc fn21 rfl (cOpen_c w w6 _ bd p ops d0 d1 (jnew m) hs hr hn hck hg0.2.2.2.2 (by have := hg0.2.2.1; omega) (by rw [hm]; exact hop)) rfl ?_
  rintro v8 w9 ⟨bc, bj, Ao, co, rfl, hs⟩
  refine Zm rfl (Zr (run_extract rfl rfl) rfl (Zr (run_extract rfl rfl) rfl (Za rfl (Za rfl (Zj (St_seq (Zs (Zm rfl (Zr (run_asB (c := false) (run_neq rfl rfl) (by decide)) rfl (Zj (St_iff rfl (St_skip (Zq (Zs (Zm rfl (Zm rfl (Za rfl (Za rfl (Zj (St_ret (Jm_ret2 rfl rfl rfl ?_)))))))))))))))))))))
  replace hs := hs.E3
  exact ⟨_, rfl, bd, bc, bj, Ao, co, m, d1, hm, rfl, hs, hg1, hdj⟩
set_option maxRecDepth 100000 in
set_option maxHeartbeats 1000000 in
theorem cOpen_bad (w : World) (p : PlanA) (ops : OpL) (hr : Rd w p.oA p.on p.oc 3 (KOp.flat ops)) (hn : p.on ≤ 9223372036854775807) (q : Option Addr) (hck : chk p ops ≠ 0) :
    Calls Try.prog 21 [.agg #[.int .i64 p.pa, .int .i64 p.st, .int .i64 p.wo, .slice p.oA p.on p.oc, .int .i64 p.ag, .int .i64 p.ba, .int .i64 p.wi, .int .i64 p.gu], .pointer q].toArray w (Ret (fun v' w' => v' = .tuple #[.pointer none, .int .i64 (chk p ops)] ∧ Sat w w' [])) := by
  have hs := Sat.start w
  refine Zb Try.func21 rfl rfl rfl (Zs (Ls_box hs rfl rfl (fun b2 w1 hs => (Za rfl (Za rfl (Zj (St_seq (Zs (Zr (run_load_agg agg24 inf24 rfl rfl (hs.blk_cells 0 rfl 0 8)) rfl (Zc fn10 rfl (Check_c w1 p ops (hr.inB hs) (by omega)) rfl ?_))))))))))
  rintro v3 w4 ⟨rfl, hsQ⟩
  replace hs := hs.T hsQ
  refine Za rfl (Zt (Zm rfl (Zr (run_asB (c := true) (run_neq rfl rfl) (by rw [decide_eq_true_eq]; exact hck)) rfl (Zj (St_ift rfl (Zs (Zm rfl (Za rfl (Za rfl (Zj (St_ret (Jm_then_ret (Jm_ret2 rfl rfl rfl ?_)))))))))))))
  exact ⟨_, rfl, rfl, hs.forget⟩
set_option maxRecDepth 100000 in
set_option maxHeartbeats 1000000 in
theorem fresh_pa (w : World) (p : PlanA) (ops : OpL) (hr : Rd w p.oA p.on p.oc 3 (KOp.flat ops)) (hn : p.on ≤ 9223372036854775807) (hpa : p.pa < 1 ∨ 4 < p.pa) :
    Calls Try.prog 26 [.agg #[.int .i64 p.pa, .int .i64 p.st, .int .i64 p.wo, .slice p.oA p.on p.oc, .int .i64 p.ag, .int .i64 p.ba, .int .i64 p.wi, .int .i64 p.gu]].toArray w (Ret (fun v' w' => ∃ q, v' = .tuple #[.pointer q, .pointer none] ∧ Sat w w' [])) := by
  have hs := Sat.start w
  refine Zb Try.func26 rfl rfl rfl (Zs (Ls_box hs rfl rfl (fun b2 w1 hs => (Za rfl (Za rfl (Zt (Zc fn49 rfl (New_c w1 2 (by decide) (by decide)) rfl ?_)))))))
  rintro v3 w4 ⟨bd, rfl, hsD⟩
  replace hs := hs.T hsD
  refine Zm rfl (Zr (run_extract rfl rfl) rfl (Zr (run_extract rfl rfl) rfl (Za rfl (Za rfl (Zt (Zm rfl (Zf un24 inf3 rfl 0 rfl (Zl sc3 rfl (hs.blk_at 1 rfl 0 rfl) (Zc fn50 rfl (Format_bad w4 bd p.pa hpa) rfl ?_)))))))))
  rintro v5 w6 ⟨rfl, rfl⟩
  refine Zm rfl (Zr (run_extract rfl rfl) rfl (Zr (run_extract rfl rfl) rfl (Za rfl (Za rfl (Zj (St_seq (Zs (Zm rfl (Zr (run_asB (c := false) (run_neq rfl rfl) (by decide)) rfl (Zm rfl (Zo rfl (Zm rfl (Zo rfl (Zr (run_asB (c := true) (run_neq rfl rfl) (by decide)) rfl (Zr (run_pick_f rfl rfl) rfl (Zm rfl (Zx rfl (Zx rfl (Zr (run_pick_t rfl rfl) rfl (Zj (St_ift rfl (Zs (Za rfl (Za rfl (Zj (St_ret (Jm_then_ret (Jm_ret2 rfl rfl rfl ?_))))))))))))))))))))))))))))
  exact ⟨_, rfl, _, rfl, hs.forget⟩
set_option maxRecDepth 100000 in
set_option maxHeartbeats 1000000 in
theorem fresh_no (w : World) (p : PlanA) (ops : OpL) (hr : Rd w p.oA p.on p.oc 3 (KOp.flat ops)) (hn : p.on ≤ 9223372036854775807) (hpa : 1 ≤ p.pa ∧ p.pa ≤ 4) (hck : chk p ops ≠ 0) :
    Calls Try.prog 26 [.agg #[.int .i64 p.pa, .int .i64 p.st, .int .i64 p.wo, .slice p.oA p.on p.oc, .int .i64 p.ag, .int .i64 p.ba, .int .i64 p.wi, .int .i64 p.gu]].toArray w (Ret (fun v' w' => ∃ q, v' = .tuple #[.pointer q, .pointer none] ∧ Sat w w' [])) := by
  have hs := Sat.start w
  refine Zb Try.func26 rfl rfl rfl (Zs (Ls_box hs rfl rfl (fun b2 w1 hs => (Za rfl (Za rfl (Zt (Zc fn49 rfl (New_c w1 2 (by decide) (by decide)) rfl ?_)))))))
  rintro v3 w4 ⟨bd, rfl, hsD⟩
  replace hs := hs.T hsD
  refine Zm rfl (Zr (run_extract rfl rfl) rfl (Zr (run_extract rfl rfl) rfl (Za rfl (Za rfl (Zt (Zm rfl (Zf un24 inf3 rfl 0 rfl (Zl sc3 rfl (hs.blk_at 1 rfl 0 rfl) ?_))))))))
  obtain ⟨m, hm⟩ : ∃ m : Nat, p.pa = (m : Int) := ⟨p.pa.toNat, by omega⟩
  obtain ⟨d0, d1, hfm, hop, hg0, hg1, hdj⟩ := fresh_ok (m := m) (by omega) (by omega)
  rw [hm]
  refine Zc fn50 rfl (Format_g w w4 _ bd (dnew 2) hs (fun x hx => by simp [dnew] at hx; subst hx; exact ⟨by simp [IsBytes], by simp⟩) m (by omega) (by omega)) rfl ?_
  rintro v5 w6 ⟨q, rfl, hs⟩
  rw [hfm] at hs ⊢
  simp only at hs ⊢
  rw [← hm]
  obtain ⟨bj0, hq0, h9⟩ := hs.joSome
  subst hq0
  replace hs := h9
  refine Zm rfl (Zr (run_extract rfl rfl) rfl (Zr (run_extract rfl rfl) rfl (Za rfl (Za rfl (Zj (St_seq (Zs (Zm rfl (Zr (run_asB (c := false) (run_neq rfl rfl) (by decide)) rfl (Zm rfl (Zo rfl (Zm rfl (Zo rfl (Zr (run_asB (c := false) (run_neq rfl rfl) (by decide)) rfl (Zr (run_pick_f rfl rfl) rfl (Zm rfl (Zo rfl (Zm rfl (Zo rfl (Zr (run_asB (c := false) (run_eql_ptr_nil un77 rfl rfl) rfl) rfl (Zr (run_pick_f rfl rfl) rfl (Zj (St_iff rfl (St_skip (Zq (Zs (Zr (run_load_agg agg24 inf24 rfl rfl (hs.blk_cells 2 rfl 0 8)) rfl (Zm rfl (Zc fn21 rfl (cOpen_bad w6 p ops (hr.inB hs) hn _ hck) rfl ?_)))))))))))))))))))))))))))))
  rintro v8 w9 ⟨rfl, hsQ⟩
  replace hs := hs.T hsQ
  refine Zm rfl (Zr (run_extract rfl rfl) rfl (Zr (run_extract rfl rfl) rfl (Za rfl (Za rfl (Zj (St_seq (Zs (Zm rfl (Zr (run_asB (c := true) (run_neq rfl rfl) (by rw [decide_eq_true_eq]; exact hck)) rfl (Zj (St_ift rfl (Zs (Zm rfl (Za rfl (Za rfl (Zj (St_ret (Jm_then_ret (Jm_ret2 rfl rfl rfl ?_)))))))))))))))))))
  exact ⟨_, rfl, _, rfl, hs.forget⟩
theorem fresh_bad (w : World) (p : PlanA) (ops : OpL) (hr : Rd w p.oA p.on p.oc 3 (KOp.flat ops)) (hn : p.on ≤ 9223372036854775807) (hck : chk p ops ≠ 0) : Calls Try.prog 26 [.agg #[.int .i64 p.pa, .int .i64 p.st, .int .i64 p.wo, .slice p.oA p.on p.oc, .int .i64 p.ag, .int .i64 p.ba, .int .i64 p.wi, .int .i64 p.gu]].toArray w (Ret (fun v' w' => ∃ q, v' = .tuple #[.pointer q, .pointer none] ∧ Sat w w' [])) := by
  by_cases h : p.pa < 1 ∨ 4 < p.pa
  · exact fresh_pa w p ops hr hn h
  · exact fresh_no w p ops hr hn (by omega) hck
set_option maxRecDepth 100000 in
set_option maxHeartbeats 1000000 in
theorem laid19_c (w : World) (p : PlanA) (ops : OpL) (hr : Rd w p.oA p.on p.oc 3 (KOp.flat ops)) (hn : p.on ≤ 67108864) (hck : chk p ops = 0) :
    Calls Try.prog 9 [.agg #[.int .i64 p.pa, .int .i64 p.st, .int .i64 p.wo, .slice p.oA p.on p.oc, .int .i64 p.ag, .int .i64 p.ba, .int .i64 p.wi, .int .i64 p.gu]].toArray w (Ret (fun v' w' => ∃ bd bc bj Ao co m d, p.pa = ((m : Nat) : Int) ∧ v' = .tuple #[.agg #[.int .i64 p.pa, .int .i64 p.st, .int .i64 p.wo, .slice p.oA p.on p.oc, .int .i64 p.ag, .int .i64 p.ba, .int .i64 p.wi, .int .i64 p.gu, .pointer (some ⟨bd, 0, none⟩), .pointer (some ⟨bc, 0, none⟩), .slice none 0 0], .bool true] ∧ Sat w w' [CA 79 43 bc bd bj { p with oA := Ao, oc := co } ops [] false, JA 108 3 bj (some ⟨bd, 0, none⟩) (jnew m), DiskA 122 125 5 bd d] ∧ DG d ∧ DJ d (jnew m))) := by
  have hs := Sat.start w
  refine Zb Try.func9 rfl rfl rfl (Zs (Ls_box hs rfl rfl (fun b2 w1 hs => (Ls_alloc hs inf31 rfl (fun b4 w3 hs => (Za rfl (Zt (Zr (run_load_agg agg24 inf24 rfl rfl (hs.blk_cells 1 rfl 0 8)) rfl (Zc fn26 rfl (fresh_c w3 p ops (hr.inB hs) hn hck) rfl ?_)))))))))
  rintro v5 w6 ⟨bd, bc, bj, Ao, co, m, d, hm, rfl, hsF, hg, hdj⟩
  replace hs := hs.T hsF
  refine Zm rfl (Zr (run_extract rfl rfl) rfl (Zr (run_extract rfl rfl) rfl (Za rfl (Za rfl (Zt (Zr (run_load_agg agg24 inf24 rfl rfl (hs.blk_cells 4 rfl 0 8)) rfl (Zm rfl (Zm rfl (Zr (run_buildO (pv := [(0, _), (1, _), (2, _)]) rfl (bld31_0_1_2 _ _ _ _ _ _ _ _ _ _ _ _)) rfl (Zm rfl (Zr (run_asB (c := true) (run_neq_ptr_nil un28 rfl rfl) rfl) rfl ?_)))))))))))
  replace hs := hs.F3
  refine Ls_storeAgg hs inf31 rfl rfl rfl rfl (by simp [Value.oneCell', Value.cells]) (fun w7 hs => (Za rfl (Zj (St_ret (Jm_retCT rfl agg31 inf31 rfl rfl rfl (hs.blk_cells 0 rfl 0 11) ?_)))))
  replace hs := hs.E0.E3
  exact ⟨_, rfl, bd, bc, bj, Ao, co, m, d, hm, rfl, hs, hg, hdj⟩
set_option maxRecDepth 100000 in
set_option maxHeartbeats 1000000 in
theorem laid19_bad (w : World) (p : PlanA) (ops : OpL) (hr : Rd w p.oA p.on p.oc 3 (KOp.flat ops)) (hn : p.on ≤ 9223372036854775807) (hck : chk p ops ≠ 0) :
    Calls Try.prog 9 [.agg #[.int .i64 p.pa, .int .i64 p.st, .int .i64 p.wo, .slice p.oA p.on p.oc, .int .i64 p.ag, .int .i64 p.ba, .int .i64 p.wi, .int .i64 p.gu]].toArray w (Ret (fun v' w' => ∃ q, v' = .tuple #[.agg #[.int .i64 p.pa, .int .i64 p.st, .int .i64 p.wo, .slice p.oA p.on p.oc, .int .i64 p.ag, .int .i64 p.ba, .int .i64 p.wi, .int .i64 p.gu, .pointer q, .pointer none, .slice none 0 0], .bool false] ∧ Sat w w' [])) := by
  have hs := Sat.start w
  refine Zb Try.func9 rfl rfl rfl (Zs (Ls_box hs rfl rfl (fun b2 w1 hs => (Ls_alloc hs inf31 rfl (fun b4 w3 hs => (Za rfl (Zt (Zr (run_load_agg agg24 inf24 rfl rfl (hs.blk_cells 1 rfl 0 8)) rfl (Zc fn26 rfl (fresh_bad w3 p ops (hr.inB hs) hn hck) rfl ?_)))))))))
  rintro v5 w6 ⟨q, rfl, hsF⟩
  replace hs := hs.T hsF
  refine Zm rfl (Zr (run_extract rfl rfl) rfl (Zr (run_extract rfl rfl) rfl (Za rfl (Za rfl (Zt (Zr (run_load_agg agg24 inf24 rfl rfl (hs.blk_cells 1 rfl 0 8)) rfl (Zm rfl (Zm rfl (Zr (run_buildO (pv := [(0, _), (1, _), (2, _)]) rfl (bld31_0_1_2 _ _ _ _ _ _ _ _ _ _ _ _)) rfl (Zm rfl (Zr (run_neq_ptr_nil un28 rfl rfl) rfl (Ls_storeAgg hs inf31 rfl rfl rfl rfl (by simp [Value.oneCell', Value.cells]) (fun w7 hs => (Za rfl (Zj (St_ret (Jm_retCT rfl agg31 inf31 rfl rfl rfl (hs.blk_cells 0 rfl 0 11) ?_)))))))))))))))))
  exact ⟨_, rfl, _, rfl, hs.forget⟩
set_option maxRecDepth 100000 in
set_option maxHeartbeats 1000000 in
theorem small_c (w : World) :
    Calls Try.prog 27 [].toArray w (Ret (fun v' w' => v' = .agg #[.int .i64 1, .int .i64 1, .int .i64 2, .slice none 0 0, .int .i64 1, .int .i64 4, .int .i64 2, .int .i64 8] ∧ Sat w w' [])) := by
  have hs := Sat.start w
  refine Calls_body Try.func27 rfl rfl rfl envE_nil (Zs (Ls_alloc hs inf24 rfl (fun b2 w1 hs => (Zt (Zr (run_buildO (pv := [(0, _), (1, _), (2, _), (4, _), (5, _), (6, _), (7, _)]) rfl (bld24_0_1_2_4_5_6_7 _ _ _ _ _ _ _)) rfl (Ls_storeAgg hs inf24 rfl rfl rfl rfl (by simp [Value.oneCell', Value.cells]) (fun w3 hs => (Zj (St_ret (Jm_retC rfl agg24 inf24 rfl rfl (hs.blk_cells 0 rfl 0 8) ?_))))))))))
  exact ⟨_, rfl, rfl, hs.forget⟩
end Go.Proofs.Ytcifdianinbkeaa.Lg
set_option linter.unusedVariables false
set_option linter.unusedSimpArgs false
namespace Go.Proofs.Ytcifdianinbkeaa.Lg
open Go Go.RowKit Go.Proofs.Ytcifdianinbkeaa.WirePure Go.Proofs.Ytcifdianinbkeaa.PlanPure
/-- The k-th try is right. -/
structure TOk (p : PlanA) (ops : OpL) (n : NSt) (tr : List TSt) (k : Nat) : Prop where
  b : (tr.getD k T0.1).b = n.batch + 1 + k
  a : 1 ≤ (tr.getD k T0.1).a ∧ (tr.getD k T0.1).a ≤ n.att
  nd : (tr.getD k T0.1).nd = workerOf p ops (tr.getD k T0.1).a
  ti : 0 ≤ (tr.getD k T0.1).ti ∧ (tr.getD k T0.1).ti < p.gu
  fr : (tr.getD k T0.1).fr = if k = 0 then n.cur else (tr.getD (k - 1) T0.1).to
  ph : (tr.getD k T0.1).ph = 1 ∨ (tr.getD k T0.1).ph = 2 ∨ (tr.getD k T0.1).ph = 3
  go : (tr.getD k T0.1).ph = 3 → k = 0
  fst : k = 0 → (tr.getD k T0.1).ph ≠ 2
  rd : (tr.getD k T0.1).ph = 1 → k + 1 = tr.length ∧ (tr.getD k T0.1).to = []
  en : (tr.getD k T0.1).ph ≠ 1 → fwd (tr.getD k T0.1).fr (tr.getD k T0.1).to ∧ (tr.getD k T0.1).fr ≠ (tr.getD k T0.1).to ∧ ∀ y ∈ (tr.getD k T0.1).to, y ≤ 256
structure TrOk (p : PlanA) (ops : OpL) (n : NSt) (tr : List TSt) : Prop where
  len : (tr.length : Int) ≤ p.wi
  at_ : ∀ k, k < tr.length → TOk p ops n tr k
/-- Ends of so many partitions. -/
def EB (pa : Int) (l : List Int) : Prop := (l.length : Int) = pa ∧ ∀ y ∈ l, 0 ≤ y ∧ y ≤ 256
theorem EB.fwd {pa : Int} {a b : List Int} (h : EB pa a) (hf : fwd a b) (hb : ∀ y ∈ b, y ≤ 256) : EB pa b := by
  refine ⟨by rw [← hf.1]; exact h.1, fun y hy => ⟨?_, hb y hy⟩⟩
  obtain ⟨i, hi, rfl⟩ := List.getElem_of_mem hy
  have h1 := hf.2 i (by rw [hf.1]; exact hi)
  have h2 := (h.2 (a.getD i 0) (getD_mem3 (by rw [hf.1]; exact hi))).1
  rw [getD_el hi] at h1
  omega
theorem note_eb {n : NSt} {pa : Int} (h : noteOk n pa) : EB pa n.cur ∧ EB pa n.prev := ⟨⟨(noteOk_len h).2, (noteOk_pos h).2⟩, ⟨(noteOk_len h).1, (noteOk_pos h).1⟩⟩
section
variable {p : PlanA} {ops : OpL} {n : NSt} {tr : List TSt} {pa : Int}
theorem TrOk.nil (h : 1 ≤ p.wi) : TrOk p ops n [] := ⟨by simp; omega, fun k hk => by simp at hk⟩
theorem TrOk.ends (h : TrOk p ops n tr) (hn : EB pa n.cur) : ∀ k, k < tr.length → EB pa (tr.getD k T0.1).fr ∧ ((tr.getD k T0.1).ph ≠ 1 → EB pa (tr.getD k T0.1).to) := by
  intro k
  induction k with
  | zero =>
    intro hk
    have h0 := h.at_ 0 hk
    have e : EB pa (tr.getD 0 T0.1).fr := by rw [h0.fr, if_pos rfl]; exact hn
    exact ⟨e, fun q => e.fwd (h0.en q).1 (h0.en q).2.2⟩
  | succ k ih =>
    intro hk
    have h0 := h.at_ (k + 1) hk
    have h1 := h.at_ k (by omega)
    have hp : (tr.getD k T0.1).ph ≠ 1 := fun q => by have := (h1.rd q).1; omega
    have e : EB pa (tr.getD (k + 1) T0.1).fr := by rw [h0.fr, if_neg (by omega), Nat.add_sub_cancel]; exact (ih (by omega)).2 hp
    exact ⟨e, fun q => e.fwd (h0.en q).1 (h0.en q).2.2⟩
theorem bump_all (t : TSt) : (bump t).b = t.b ∧ (bump t).a = t.a ∧ (bump t).nd = t.nd ∧ (bump t).ph = t.ph ∧ (bump t).fr = t.fr ∧ (bump t).to = t.to ∧ t.ti ≤ (bump t).ti ∧ (bump t).ti ≤ t.ti + 1 := by
  unfold bump; split <;> simp <;> omega
theorem ageT_form (g : Int) (tr : List TSt) : ∃ q, q ≤ tr.length ∧ ageT g tr = (tr.map bump).take q ∧ (∀ k, k < q → ((tr.map bump).getD k T0.1).ti < g) ∧ (q < tr.length → g ≤ ((tr.map bump).getD q T0.1).ti) := by
  unfold ageT
  cases hq : idxB (fun t : TSt => decide (g ≤ t.ti)) (tr.map bump) with
  | none =>
    refine ⟨tr.length, Nat.le_refl _, by rw [List.take_of_length_le (by rw [List.length_map]; exact Nat.le_refl _)], fun k hk => ?_, fun h => by omega⟩
    unfold idxB at hq
    rw [List.findIdx?_eq_none_iff] at hq
    have := hq ((tr.map bump).getD k T0.1) (getD_mem3 (by rw [List.length_map]; exact hk))
    simp only [decide_eq_false_iff_not] at this
    omega
  | some q =>
    have hl := idx_lt hq
    rw [List.length_map] at hl
    unfold idxB at hq
    rw [List.findIdx?_eq_some_iff_getElem] at hq
    obtain ⟨h1, h2, h3⟩ := hq
    refine ⟨q, by omega, rfl, fun k hk => ?_, fun _ => by rw [getD_el h1]; exact of_decide_eq_true h2⟩
    have := h3 k hk
    rw [getD_el (by omega)]
    simp only [Bool.not_eq_true, decide_eq_false_iff_not] at this
    omega
theorem map_bump_getD {k : Nat} (h : k < tr.length) : (tr.map bump).getD k T0.1 = bump (tr.getD k T0.1) := by
  rw [getD_el (by rw [List.length_map]; exact h), getD_el h, List.getElem_map]
theorem take_getD {q k : Nat} (h : k < q) (l : List TSt) : (l.take q).getD k T0.1 = l.getD k T0.1 := by
  rw [List.getD_eq_getElem?_getD, List.getD_eq_getElem?_getD, List.getElem?_take, if_pos h]
theorem TrOk.age (h : TrOk p ops n tr) : TrOk p ops n (ageT p.gu tr) := by
  obtain ⟨q, hq, he, ht, _⟩ := ageT_form p.gu tr
  have hl : (ageT p.gu tr).length = q := by rw [he, List.length_take, List.length_map]; omega
  have hg : ∀ k, k < q → (ageT p.gu tr).getD k T0.1 = bump (tr.getD k T0.1) := fun k hk => by rw [he, take_getD hk, map_bump_getD (by omega)]
  refine ⟨by rw [hl]; have := h.len; omega, fun k hk => ?_⟩
  rw [hl] at hk
  have h0 := h.at_ k (by omega)
  have hb := bump_all (tr.getD k T0.1)
  have ht9 := ht k hk
  rw [map_bump_getD (by omega)] at ht9
  refine ⟨?_, ?_, ?_, ?_, ?_, ?_, ?_, ?_, ?_, ?_⟩
  · rw [hg k hk, hb.1]; exact h0.b
  · rw [hg k hk, hb.2.1]; exact h0.a
  · rw [hg k hk, hb.2.2.1, hb.2.1]; exact h0.nd
  · rw [hg k hk]; have := h0.ti; omega
  · rw [hg k hk, hb.2.2.2.2.1, h0.fr]
    by_cases e : k = 0
    · rw [if_pos e, if_pos e]
    · rw [if_neg e, if_neg e, hg (k - 1) (by omega), (bump_all _).2.2.2.2.2.1]
  · rw [hg k hk, hb.2.2.2.1]; exact h0.ph
  · rw [hg k hk, hb.2.2.2.1]; exact h0.go
  · rw [hg k hk, hb.2.2.2.1]; exact h0.fst
  · rw [hg k hk, hb.2.2.2.1, hb.2.2.2.2.2.1]; intro z; have := h0.rd z; rw [hl]; exact ⟨by omega, this.2⟩
  · rw [hg k hk, hb.2.2.2.1, hb.2.2.2.2.1, hb.2.2.2.2.2.1]; exact h0.en
theorem app_getD1 {l : List TSt} {x : TSt} {k : Nat} (h : k < l.length) : (l ++ [x]).getD k T0.1 = l.getD k T0.1 := by
  rw [List.getD_eq_getElem?_getD, List.getD_eq_getElem?_getD, List.getElem?_append_left h]
theorem app_getD2 {l : List TSt} {x : TSt} : (l ++ [x]).getD l.length T0.1 = x := by simp
theorem TrOk.new {j : JSt} (h : TrOk p ops j.n tr) (hw : (tr.length : Int) < p.wi) (hl : 0 < tr.length → (tr.getD (tr.length - 1) T0.1).ph ≠ 1) (ha : 0 ≤ j.n.att) (hg : 8 ≤ p.gu) : TrOk p ops (nextN j) (tr ++ [newT p ops j tr]) := by
  refine ⟨by rw [List.length_append]; simp; omega, fun k hk => ?_⟩
  rw [List.length_append] at hk
  simp only [List.length_cons, List.length_nil] at hk
  by_cases e : k < tr.length
  · have h0 := h.at_ k e
    refine ⟨?_, ?_, ?_, ?_, ?_, ?_, ?_, ?_, ?_, ?_⟩
    · rw [app_getD1 e]; exact h0.b
    · rw [app_getD1 e]; have := h0.a; exact ⟨this.1, by show _ ≤ j.n.att + 1; omega⟩
    · rw [app_getD1 e]; exact h0.nd
    · rw [app_getD1 e]; exact h0.ti
    · rw [app_getD1 e, h0.fr]
      by_cases e2 : k = 0
      · rw [if_pos e2, if_pos e2]; rfl
      · rw [if_neg e2, if_neg e2, app_getD1 (by omega)]
    · rw [app_getD1 e]; exact h0.ph
    · rw [app_getD1 e]; exact h0.go
    · rw [app_getD1 e]; exact h0.fst
    · rw [app_getD1 e]; intro z
      have hz := (h0.rd z).1
      have hk9 : tr.length - 1 = k := by omega
      exact absurd z (by have := hl (by omega); rw [hk9] at this; exact this)
    · rw [app_getD1 e]; exact h0.en
  · have hk2 : k = tr.length := by omega
    subst hk2
    refine ⟨?_, ?_, ?_, ?_, ?_, ?_, ?_, ?_, ?_, ?_⟩
    · rw [app_getD2]; show j.n.batch + (tr.length : Int) + 1 = j.n.batch + 1 + (tr.length : Int); omega
    · rw [app_getD2]; exact ⟨by show 1 ≤ j.n.att + 1; omega, Int.le_refl _⟩
    · rw [app_getD2]; rfl
    · rw [app_getD2]; exact ⟨Int.le_refl _, by show (0 : Int) < p.gu; omega⟩
    · rw [app_getD2]
      show (if 0 < tr.length then (tr.getD (tr.length - 1) T0.1).to else j.n.cur) = _
      by_cases e2 : tr.length = 0
      · rw [if_neg (by omega), if_pos e2]; rfl
      · rw [if_pos (by omega), if_neg e2, app_getD1 (by omega)]
    · rw [app_getD2]; exact .inl rfl
    · rw [app_getD2]; intro z; exact absurd z (by show (1 : Int) ≠ 3; decide)
    · rw [app_getD2]; intro _; show (1 : Int) ≠ 2; decide
    · rw [app_getD2]; intro _; exact ⟨by simp, rfl⟩
    · rw [app_getD2]; intro z; exact absurd rfl z
end
/-- What holds of a coordinator, its journal and its disk; N: how much has befallen them. -/
structure CI (N : Int) (p : PlanA) (ops : OpL) (tr : List TSt) (j : JSt) (d : DSt) : Prop where
  ck : chk p ops = 0
  jp : j.parts = p.pa
  jo : JOk j
  je : j.ended = false
  dj : DJ d j
  dn : d.down = false
  sz : 2 ≤ d.bl.length ∧ d.bl.length ≤ 64
  rows : ∀ x ∈ d.bl, IsBytes x ∧ x.length ≤ 1024
  ar : d.armed = true → d.left = 0
  bd : j.gen ≤ N + 1 ∧ j.n.att ≤ N ∧ j.n.batch ≤ N
  ts : TrOk p ops j.n tr
theorem CI.dg {N : Int} {p : PlanA} {ops : OpL} {tr : List TSt} {j : JSt} {d : DSt} (h : CI N p ops tr j d) (ha : d.armed = false) : DG d := ⟨h.dn, ha, h.sz.1, h.sz.2, h.rows⟩
theorem CI.nums {N : Int} {p : PlanA} {ops : OpL} {tr : List TSt} {j : JSt} {d : DSt} (h : CI N p ops tr j d) : numsOk p := chk_ok h.ck
theorem CI.new {p : PlanA} {ops : OpL} {m : Nat} {d : DSt} (hc : chk p ops = 0) (hm : p.pa = (m : Int)) (hg : DG d) (hd : DJ d (jnew m)) : CI 0 p ops [] (jnew m) d := by
  have hk := chk_ok hc
  unfold numsOk at hk
  exact ⟨hc, hm.symm, jnew_ok (by omega) (by omega), rfl, hd, hg.1, ⟨hg.2.2.1, hg.2.2.2.1⟩, hg.2.2.2.2, (fun h => by rw [hg.2.1] at h; cases h), ⟨by show (1 : Int) ≤ 0 + 1; decide, by show (0 : Int) ≤ 0; decide, by show (0 : Int) ≤ 0; decide⟩, TrOk.nil (by omega)⟩
/-- A note with a number more is a note, and follows. -/
theorem nextN_ok {j : JSt} (h : JOk j) (hb : j.n.att < 1099511627776) : noteOk (nextN j) j.parts ∧ follows j.n (nextN j) := by
  obtain ⟨h1, h2, h3, h4, h5⟩ := h.1
  unfold within at h2
  exact ⟨⟨h1, by unfold within; show 0 ≤ j.n.att + 1 ∧ j.n.att + 1 ≤ _; omega, h3, h4, h5⟩, ⟨by show j.n.att ≤ j.n.att + 1; omega, .inl ⟨rfl, rfl, rfl⟩⟩⟩
def jnext (j : JSt) (n : NSt) : JSt := ⟨j.parts, n, j.gen + 1, 1 - j.slot, false⟩
theorem CI.save {N : Int} {p : PlanA} {ops : OpL} {tr tr' : List TSt} {j : JSt} {d : DSt} {n : NSt} (h : CI N p ops tr j d) (ha : d.armed = false) (hN : N < 1099511627770) (hn : noteOk n j.parts) (hf : follows j.n n) (hb : n.att ≤ N + 1 ∧ n.batch ≤ N + 1) (ht : TrOk p ops n tr') :
    ∃ d', jsave j d n = (0, jnext j n, d') ∧ CI (N + 1) p ops tr' (jnext j n) d' ∧ d'.armed = false := by
  have hbd := h.bd
  obtain ⟨d', h1, h2, h3, _, h5⟩ := jsave_ok h.jo h.je (h.dg ha) hn hf (by omega)
  exact ⟨d', h1, ⟨h.ck, h.jp, h5, rfl, dj_save h.jo h.dj h3 (by omega), h2.1, ⟨h2.2.2.1, h2.2.2.2.1⟩, h2.2.2.2.2, (fun q => by rw [h2.2.1] at q; cases q), ⟨by show j.gen + 1 ≤ N + 1 + 1; omega, hb.1, hb.2⟩, ht⟩, h2.2.1⟩
theorem CI.gone {N : Int} {p : PlanA} {ops : OpL} {tr : List TSt} {j : JSt} {d : DSt} {n : NSt} (h : CI N p ops tr j d) (ha : d.armed = true) (hN : N < 1099511627770) (hn : noteOk n j.parts) (hf : follows j.n n) : jsave j d n = (80, { j with ended := true }, doff d) :=
  jsave_gone h.jo h.je h.dn h.sz.1 ha (h.ar ha) hn hf (by have := h.bd; omega)
def idle (p : PlanA) (tr : List TSt) : Prop := p.wi ≤ ((ageT p.gu tr).length : Int) ∨ (0 < (ageT p.gu tr).length ∧ ((ageT p.gu tr).getD ((ageT p.gu tr).length - 1) T0.1).ph = 1)
instance (p : PlanA) (tr : List TSt) : Decidable (idle p tr) := by unfold idle; exact inferInstance
theorem CI.aged {N : Int} {p : PlanA} {ops : OpL} {tr : List TSt} {j : JSt} {d : DSt} (h : CI N p ops tr j d) : CI N p ops (ageT p.gu tr) j d := { h with ts := h.ts.age }
/-- A tick: idle, gone, or a new try. -/
theorem CI.tick {N : Int} {p : PlanA} {ops : OpL} {tr : List TSt} {j : JSt} {d : DSt} (h : CI N p ops tr j d) (hN : N < 1099511627770) :
    (idle p tr ∧ ctick p ops tr false j d = (none, 0, ageT p.gu tr, false, j, d)) ∨
    (¬ idle p tr ∧ d.armed = true ∧ ctick p ops tr false j d = (none, 80, ageT p.gu tr, true, { j with ended := true }, doff d)) ∨
    (¬ idle p tr ∧ d.armed = false ∧ ∃ d', ctick p ops tr false j d = (some (sayM 1 (newT p ops j (ageT p.gu tr)) (newT p ops j (ageT p.gu tr)).fr), 0, ageT p.gu tr ++ [newT p ops j (ageT p.gu tr)], false, jnext j (nextN j), d') ∧
      CI (N + 1) p ops (ageT p.gu tr ++ [newT p ops j (ageT p.gu tr)]) (jnext j (nextN j)) d' ∧ d'.armed = false) := by
  have hE : ¬ (false || j.ended || d.down) = true := by rw [h.je, h.dn]; decide
  have hE2 : (false || j.ended || d.down) = false := by rw [h.je, h.dn]; rfl
  have hbd := h.bd
  have hwa := h.jo.1.2.1
  unfold within at hwa
  have hk := h.nums
  unfold numsOk at hk
  obtain ⟨hn1, hn2⟩ := nextN_ok h.jo (by omega)
  by_cases hi : idle p tr
  · refine .inl ⟨hi, ?_⟩
    unfold ctick
    rw [if_neg hE, if_pos (show p.wi ≤ _ ∨ _ from hi), hE2]
  · right
    cases ha : d.armed with
    | true =>
      have hs := h.gone ha hN hn1 hn2
      refine .inl ⟨hi, rfl, ?_⟩
      unfold ctick
      rw [if_neg hE, if_neg (show ¬ (p.wi ≤ _ ∨ _) from hi), hs, hE2]
      rfl
    | false =>
      have ht := h.ts.age.new (j := j) (by unfold idle at hi; omega) (fun h0 h1 => hi (.inr ⟨h0, h1⟩)) (by omega) (by omega)
      obtain ⟨d', h1, h2, h3⟩ := h.save ha hN hn1 hn2 ⟨by show j.n.att + 1 ≤ _; omega, by show j.n.batch ≤ _; omega⟩ ht
      refine .inr ⟨hi, rfl, d', ?_, h2, h3⟩
      unfold ctick
      rw [if_neg hE, if_neg (show ¬ (p.wi ≤ _ ∨ _) from hi), h1, hE2]
      rfl
end Go.Proofs.Ytcifdianinbkeaa.Lg
set_option linter.unusedVariables false
set_option linter.unusedSimpArgs false
namespace Go.Proofs.Ytcifdianinbkeaa.Lg
open Go Go.RowKit Go.Proofs.Ytcifdianinbkeaa.WirePure Go.Proofs.Ytcifdianinbkeaa.PlanPure
section
variable {p : PlanA} {ops : OpL} {n : NSt} {tr : List TSt} {pa : Int}
theorem TrOk.cut (h : TrOk p ops n tr) {i : Nat} (hi : i ≤ tr.length) : TrOk p ops n (tr.take i) := by
  have hl : (tr.take i).length = i := by rw [List.length_take]; omega
  refine ⟨by rw [hl]; have := h.len; omega, fun k hk => ?_⟩
  rw [hl] at hk
  have h0 := h.at_ k (by omega)
  have e := take_getD (q := i) (k := k) hk tr
  refine ⟨?_, ?_, ?_, ?_, ?_, ?_, ?_, ?_, ?_, ?_⟩
  · rw [e]; exact h0.b
  · rw [e]; exact h0.a
  · rw [e]; exact h0.nd
  · rw [e]; exact h0.ti
  · rw [e, h0.fr]
    by_cases e2 : k = 0
    · rw [if_pos e2, if_pos e2]
    · rw [if_neg e2, if_neg e2, take_getD (by omega)]
  · rw [e]; exact h0.ph
  · rw [e]; exact h0.go
  · rw [e]; exact h0.fst
  · rw [e, hl]; intro z; have := h0.rd z; exact ⟨by omega, this.2⟩
  · rw [e]; exact h0.en
theorem setT_ne {i k : Nat} {t : TSt} (h : i ≠ k) : (tr.set i t).getD k T0.1 = tr.getD k T0.1 := by
  rw [List.getD_eq_getElem?_getD, List.getD_eq_getElem?_getD, List.getElem?_set, if_neg h]
theorem setT_eq {i : Nat} {t : TSt} (h : i < tr.length) : (tr.set i t).getD i T0.1 = t := by
  rw [getD_el (by rw [List.length_set]; exact h)]; simp
/-- The last try turns. -/
theorem TrOk.last (h : TrOk p ops n tr) {i : Nat} {t : TSt} {es : List Int} (hi : i + 1 = tr.length) (ht : t = readied (tr.getD i T0.1) es ∧ 0 < i ∨ t = going (readied (tr.getD i T0.1) es) ∧ i = 0) (hg : 0 < p.gu) (hf : fwd (tr.getD i T0.1).fr es) (hn : (tr.getD i T0.1).fr ≠ es) (hb : ∀ y ∈ es, y ≤ 256) : TrOk p ops n (tr.set i t) := by
  refine ⟨by rw [List.length_set]; exact h.len, fun k hk => ?_⟩
  rw [List.length_set] at hk
  by_cases e : i = k
  · subst e
    have h0 := h.at_ i hk
    have ht1 : t.b = (tr.getD i T0.1).b ∧ t.a = (tr.getD i T0.1).a ∧ t.nd = (tr.getD i T0.1).nd ∧ t.ti = 0 ∧ t.fr = (tr.getD i T0.1).fr ∧ t.to = es ∧ (t.ph = 2 ∧ 0 < i ∨ t.ph = 3 ∧ i = 0) := by
      rcases ht with ⟨rfl, q⟩ | ⟨rfl, q⟩
      · exact ⟨rfl, rfl, rfl, rfl, rfl, rfl, .inl ⟨rfl, q⟩⟩
      · exact ⟨rfl, rfl, rfl, rfl, rfl, rfl, .inr ⟨rfl, q⟩⟩
    obtain ⟨a1, a2, a3, a4, a5, a6, a7⟩ := ht1
    have e2 := setT_eq (tr := tr) (t := t) hk
    refine ⟨?_, ?_, ?_, ?_, ?_, ?_, ?_, ?_, ?_, ?_⟩
    · rw [e2, a1]; exact h0.b
    · rw [e2, a2]; exact h0.a
    · rw [e2, a3, a2]; exact h0.nd
    · rw [e2, a4]; exact ⟨Int.le_refl _, hg⟩
    · rw [e2, a5, h0.fr]
      by_cases e3 : i = 0
      · rw [if_pos e3, if_pos e3]
      · rw [if_neg e3, if_neg e3, setT_ne (by omega)]
    · rw [e2]; omega
    · rw [e2]; omega
    · rw [e2]; omega
    · rw [e2]; intro z; omega
    · rw [e2, a5, a6]; intro _; exact ⟨hf, hn, hb⟩
  · have h0 := h.at_ k hk
    have e2 := setT_ne (tr := tr) (t := t) e
    refine ⟨?_, ?_, ?_, ?_, ?_, ?_, ?_, ?_, ?_, ?_⟩
    · rw [e2]; exact h0.b
    · rw [e2]; exact h0.a
    · rw [e2]; exact h0.nd
    · rw [e2]; exact h0.ti
    · rw [e2, h0.fr]
      by_cases e3 : k = 0
      · rw [if_pos e3, if_pos e3]
      · rw [if_neg e3, if_neg e3, setT_ne (by omega)]
    · rw [e2]; exact h0.ph
    · rw [e2]; exact h0.go
    · rw [e2]; exact h0.fst
    · rw [e2, List.length_set]; exact h0.rd
    · rw [e2]; exact h0.en
theorem drop_getT (k : Nat) : (tr.drop 1).getD k T0.1 = tr.getD (k + 1) T0.1 := by
  rw [List.getD_eq_getElem?_getD, List.getD_eq_getElem?_getD, List.getElem?_drop, Nat.add_comm]
/-- The tries behind the first one's end. -/
def behind (tr : List TSt) : List TSt := if 0 < (tr.drop 1).length ∧ ((tr.drop 1).getD 0 T0.1).ph = 2 then (tr.drop 1).set 0 (going ((tr.drop 1).getD 0 T0.1)) else tr.drop 1
theorem behind_len : (behind tr).length = tr.length - 1 := by
  unfold behind; split <;> simp
theorem behind_at {k : Nat} (hk : k + 1 < tr.length) : ∃ t, (behind tr).getD k T0.1 = t ∧ t.b = (tr.getD (k + 1) T0.1).b ∧ t.a = (tr.getD (k + 1) T0.1).a ∧ t.nd = (tr.getD (k + 1) T0.1).nd ∧ t.fr = (tr.getD (k + 1) T0.1).fr ∧ t.to = (tr.getD (k + 1) T0.1).to ∧
    ((t.ph = (tr.getD (k + 1) T0.1).ph ∧ t.ti = (tr.getD (k + 1) T0.1).ti ∧ (k = 0 → t.ph ≠ 2)) ∨ (k = 0 ∧ t.ph = 3 ∧ t.ti = 0 ∧ (tr.getD (k + 1) T0.1).ph = 2)) := by
  unfold behind
  split
  · rename_i h
    by_cases e : k = 0
    · subst e
      have h2 := h.2
      rw [drop_getT] at h2
      refine ⟨going (tr.getD 1 T0.1), ?_, rfl, rfl, rfl, rfl, rfl, .inr ⟨rfl, rfl, rfl, h2⟩⟩
      rw [setT_eq h.1, drop_getT]
    · refine ⟨tr.getD (k + 1) T0.1, ?_, rfl, rfl, rfl, rfl, rfl, .inl ⟨rfl, rfl, fun q => absurd q e⟩⟩
      rw [setT_ne (by omega), drop_getT]
  · rename_i h
    refine ⟨tr.getD (k + 1) T0.1, drop_getT k, rfl, rfl, rfl, rfl, rfl, .inl ⟨rfl, rfl, fun q => ?_⟩⟩
    subst q
    intro q2
    exact h ⟨by rw [List.length_drop]; omega, by rw [drop_getT]; exact q2⟩
theorem TrOk.done (h : TrOk p ops n tr) (hl : 0 < tr.length) (hg : 0 < p.gu) : TrOk p ops ⟨n.batch + 1, n.cur, (tr.getD 0 T0.1).to, n.att⟩ (behind tr) := by
  refine ⟨by rw [behind_len]; have := h.len; omega, fun k hk => ?_⟩
  rw [behind_len] at hk
  have h0 := h.at_ (k + 1) (by omega)
  obtain ⟨t, e, a1, a2, a3, a4, a5, a6⟩ := behind_at (tr := tr) (k := k) (by omega)
  have hph := h0.ph
  have hgo := h0.go
  refine ⟨?_, ?_, ?_, ?_, ?_, ?_, ?_, ?_, ?_, ?_⟩
  · rw [e, a1, h0.b]; show _ = n.batch + 1 + 1 + (k : Int); omega
  · rw [e, a2]; exact h0.a
  · rw [e, a3, a2]; exact h0.nd
  · rw [e]
    have := h0.ti
    rcases a6 with ⟨_, q, _⟩ | ⟨_, _, q, _⟩ <;> rw [q] <;> omega
  · rw [e, a4, h0.fr, if_neg (by omega), Nat.add_sub_cancel]
    by_cases e2 : k = 0
    · subst e2; rw [if_pos rfl]
    · rw [if_neg e2]
      obtain ⟨t2, e3, _, _, _, _, b5, _⟩ := behind_at (tr := tr) (k := k - 1) (by omega)
      rw [e3, b5, show k - 1 + 1 = k by omega]
  · rw [e]; omega
  · rw [e]; intro z; omega
  · rw [e]; intro z; omega
  · rw [e, behind_len, a5]; intro z
    have h9 : (tr.getD (k + 1) T0.1).ph = 1 := by omega
    have := h0.rd h9
    exact ⟨by omega, this.2⟩
  · rw [e, a4, a5]; intro z
    exact h0.en (by omega)
end
section
variable {N : Int} {p : PlanA} {ops : OpL} {tr : List TSt} {j : JSt} {d : DSt} {m : MC}
theorem note_tri {n : NSt} {pa : Int} (h : noteOk n pa) : triOk n.batch n.prev n.cur := by
  have hp := noteOk_pos h
  obtain ⟨h1, h2, h3, h4, h5⟩ := h
  unfold within at h1
  refine ⟨h1.1, h4, fun x hx => (hp.1 x hx).1, ?_⟩
  by_cases e : n.batch = 0
  · refine .inr fun x hx => ?_
    obtain ⟨i, hi, rfl⟩ := List.getElem_of_mem hx
    have := (h5 i hi).2.2 e
    rwa [getD_el hi] at this
  · left; omega
/-- The first try is at its end: what its note is. -/
theorem CI.doneN (h : CI N p ops tr j d) (hN : N < 1099511627770) (hl : 0 < tr.length) (h1 : (tr.getD 0 T0.1).ph ≠ 1) :
    (tstep j.n.batch j.n.prev j.n.cur (tr.getD 0 T0.1).to).1 = 0 ∧ Lg.doneN j (tr.getD 0 T0.1).to = ⟨j.n.batch + 1, j.n.cur, (tr.getD 0 T0.1).to, j.n.att⟩ ∧ noteOk ⟨j.n.batch + 1, j.n.cur, (tr.getD 0 T0.1).to, j.n.att⟩ j.parts ∧ follows j.n ⟨j.n.batch + 1, j.n.cur, (tr.getD 0 T0.1).to, j.n.att⟩ := by
  have h0 := h.ts.at_ 0 hl
  have he := h0.en h1
  have hfr : (tr.getD 0 T0.1).fr = j.n.cur := by rw [h0.fr, if_pos rfl]
  rw [hfr] at he
  have hno := h.jo.1
  have hbd := h.bd
  have hpos := noteOk_pos hno
  have hw := hno.1
  have hwa := hno.2.1
  unfold within at hw hwa
  have hs : tstep j.n.batch j.n.prev j.n.cur (tr.getD 0 T0.1).to = (0, j.n.batch + 1, j.n.cur, (tr.getD 0 T0.1).to) := by
    unfold tstep
    rw [if_neg (fun q => by rcases q with q | q; exact q (note_tri hno); exact q he.1), if_neg (by omega)]
  refine ⟨by rw [hs], by unfold Lg.doneN; rw [hs], ⟨by unfold within; show 0 ≤ j.n.batch + 1 ∧ j.n.batch + 1 ≤ _; omega, hno.2.1, (noteOk_len hno).2, he.1, fun i hi => ⟨?_, ?_, fun q => ?_⟩⟩, ⟨Int.le_refl _, .inr ⟨by show j.n.batch + 1 ≠ j.n.batch; omega, rfl, rfl⟩⟩⟩
  · exact (hpos.2 _ (getD_mem3 (by rw [he.1.1]; exact hi))).1
  · exact he.2.2 _ (getD_mem3 hi)
  · exfalso; have q2 : j.n.batch + 1 = 0 := q; omega
/-- done: nothing, gone, or the first try is committed. -/
theorem CI.done (h : CI N p ops tr j d) (hN : N < 1099511627770) (m : MC) :
    ((tr = [] ∨ ¬ abt m (tr.getD 0 T0.1) 3 ∨ (tr.getD 0 T0.1).to ≠ m.es) ∧ cdone tr false j d m = (none, 0, tr, false, j, d)) ∨
    (¬ (tr = [] ∨ ¬ abt m (tr.getD 0 T0.1) 3 ∨ (tr.getD 0 T0.1).to ≠ m.es) ∧ d.armed = true ∧ cdone tr false j d m = (none, 80, tr, true, { j with ended := true }, doff d)) ∨
    (¬ (tr = [] ∨ ¬ abt m (tr.getD 0 T0.1) 3 ∨ (tr.getD 0 T0.1).to ≠ m.es) ∧ d.armed = false ∧ ∃ d', cdone tr false j d m =
      ((if 0 < (tr.drop 1).length ∧ ((tr.drop 1).getD 0 T0.1).ph = 2 then some (sayM 3 (going ((tr.drop 1).getD 0 T0.1)) ((tr.drop 1).getD 0 T0.1).to) else none), 0, behind tr, false, jnext j ⟨j.n.batch + 1, j.n.cur, (tr.getD 0 T0.1).to, j.n.att⟩, d') ∧
      CI (N + 1) p ops (behind tr) (jnext j ⟨j.n.batch + 1, j.n.cur, (tr.getD 0 T0.1).to, j.n.att⟩) d' ∧ d'.armed = false) := by
  by_cases hc : tr = [] ∨ ¬ abt m (tr.getD 0 T0.1) 3 ∨ (tr.getD 0 T0.1).to ≠ m.es
  · refine .inl ⟨hc, ?_⟩
    unfold cdone; rw [if_pos hc]
  · right
    have hne : tr ≠ [] := fun q => hc (.inl q)
    have hl : 0 < tr.length := List.length_pos_iff.2 hne
    have hab : abt m (tr.getD 0 T0.1) 3 := Decidable.not_not.1 fun q => hc (.inr (.inl q))
    have h1 : (tr.getD 0 T0.1).ph ≠ 1 := by rw [hab.2.2.2]; decide
    have hk := h.nums
    unfold numsOk at hk
    obtain ⟨e1, e2, e3, e4⟩ := h.doneN hN hl h1
    have hbd := h.bd
    cases ha : d.armed with
    | true =>
      have hs := h.gone ha hN e3 e4
      refine .inl ⟨hc, rfl, ?_⟩
      unfold cdone
      rw [if_neg hc, if_neg (by rw [e1]; decide), e2, hs]
      rfl
    | false =>
      have ht := h.ts.done hl (by omega)
      obtain ⟨d', s1, s2, s3⟩ := h.save ha hN e3 e4 ⟨by show j.n.att ≤ _; omega, by show j.n.batch + 1 ≤ _; omega⟩ ht
      refine .inr ⟨hc, rfl, d', ?_, s2, s3⟩
      unfold cdone
      rw [if_neg hc, if_neg (by rw [e1]; decide), e2, s1]
      unfold behind
      by_cases e9 : 0 < (tr.drop 1).length ∧ ((tr.drop 1).getD 0 T0.1).ph = 2
      · simp only [if_pos e9]; rfl
      · simp only [if_neg e9]; rfl
/-- ready keeps what holds. -/
theorem CI.ready (h : CI N p ops tr j d) (hb : ∀ y ∈ m.es, y ≤ 256) : CI N p ops (cready p tr m).2 j d := by
  have hk := h.nums
  unfold numsOk at hk
  unfold cready
  cases hq : idxB (fun t : TSt => decide (abt m t 1)) tr with
  | none => exact h
  | some i =>
    have hi := idx_lt hq
    have hab : abt m (tr.getD i T0.1) 1 := by
      unfold idxB at hq
      rw [List.findIdx?_eq_some_iff_getElem] at hq
      obtain ⟨h1, h2, _⟩ := hq
      rw [getD_el h1]
      exact of_decide_eq_true h2
    have hlast := ((h.ts.at_ i hi).rd hab.2.2.2).1
    simp only
    split
    · exact h
    · rename_i hf
      split
      · exact h
      · split
        · exact { h with ts := h.ts.cut (by omega) }
        · rename_i hn
          split
          · rename_i h0
            exact { h with ts := h.ts.last hlast (.inl ⟨rfl, h0⟩) (by omega) (Decidable.not_not.1 hf) hn hb }
          · rename_i h0
            exact { h with ts := h.ts.last hlast (.inr ⟨rfl, by omega⟩) (by omega) (Decidable.not_not.1 hf) hn hb }
end
end Go.Proofs.Ytcifdianinbkeaa.Lg
set_option linter.unusedVariables false
set_option linter.unusedSimpArgs false
namespace Go.Proofs.Ytcifdianinbkeaa.Lg
open Go Go.RowKit Go.Proofs.Ytcifdianinbkeaa.WirePure Go.Proofs.Ytcifdianinbkeaa.PlanPure
def KM : El (MC × MP) := ⟨9, fun x => mcells x.1 x.2, (MC0, MP0), fun _ => rfl⟩
theorem map_at {α β : Type} {l1 l2 : List (α × β)} {d : α × β} (h : l1.map Prod.fst = l2.map Prod.fst) (i : Nat) : (l1.getD i d).1 = (l2.getD i d).1 := by
  have e : ∀ l : List (α × β), (l.getD i d).1 = (l.map Prod.fst).getD i d.1 := fun l => by
    simp only [List.getD_eq_getElem?_getD, List.getElem?_map]
    cases l[i]? <;> rfl
  rw [e, e, h]
theorem lenKM {w : World} {A : Option Addr} {n c : Nat} {l : List (MC × MP)} (h : Rd w A n c 9 (KM.flat l)) : l.length = n := by
  have := h.len; rw [El.flat_length] at this; exact Nat.eq_of_mul_eq_mul_right (show 0 < 9 by decide) this
set_option maxRecDepth 100000 in
set_option maxHeartbeats 1000000 in
theorem msgs_c (w : World) (A : Option Addr) (n c : Nat) (v1 : List (MC × MP)) (A2 : Option Addr) (n2 c2 : Nat) (v2 : List (MC × MP)) (hr : Rd w A n c 9 (KM.flat v1)) (hr2 : Rd w A2 n2 c2 9 (KM.flat v2)) (hsame : v1.map Prod.fst = v2.map Prod.fst) (hok1 : ∀ x ∈ v1, Rd w x.2.eA x.2.en x.2.ec 1 (KI.flat x.1.es) ∧ x.2.kn = 0 ∧ x.2.pn = 0) (hok2 : ∀ x ∈ v2, Rd w x.2.eA x.2.en x.2.ec 1 (KI.flat x.1.es)) (hn : n ≤ 1024) (hz : ∀ x ∈ v1, x.2.en ≤ 9223372036854775807) :
    Calls Try.prog 28 [.slice A n c, .slice A2 n2 c2].toArray w (Ret (fun v' w' => v' = .bool true ∧ Sat w w' [])) := by
  have hs := Sat.start w
  have hl1 := lenKM hr
  have hl2 := lenKM hr2
  have hl12 : n = n2 := by rw [← hl1, ← hl2]; have := congrArg List.length hsame; simpa using this
  refine Zb Try.func28 rfl rfl rfl (Zs (Za rfl (Zj (St_seq (Zs (Zm rfl (Zr (run_len un29 rfl) rfl (Zm rfl (Zr (run_len un29 rfl) rfl (Zr (run_asB (c := false) (run_neq rfl rfl) (by simp [hl12])) rfl (Zj (St_iff rfl (St_skip (Zq (St_seq (Zs (Za rfl (Zj (St_block ?_)))))))))))))))))))
  obtain ⟨En2, hEn2⟩ := ex1 fun (i : Nat) => ([(0, .slice A n c), (1, .slice A2 n2 c2), (5, .int .i64 (i : Int))] : Env)
  obtain ⟨Iv3, hIv3⟩ := ew1 fun (i : Nat) (wr : World) => Sat w wr [] ∧ i ≤ n
  obtain ⟨ms4, hms4⟩ := ex1 fun (i : Nat) => (n - i : Nat)
  refine St_loop En2 Iv3 ms4 (0) ?_ ?_ ?_
  · rw [hIv3]
    exact ⟨hs, by omega⟩
  · rw [hEn2]; exact sE ⟨rfl, rfl, rfl, trivial⟩
  rintro i wr hI5
  rw [hIv3] at hI5
  obtain ⟨hs, hi⟩ := hI5
  refine St_eqE (hEn2 _) (St_seq (Zs (Zm rfl (Zm rfl (Zr (run_len un29 rfl) rfl (Zr (run_lss rfl rfl) rfl (Zj (St_ifP rfl (fun h6 => ?_) (fun h6 => ?_)))))))))
  · refine St_skip (Zq (St_seq (St_block (Zs ?_))))
    obtain ⟨⟨m, q1⟩, hx1⟩ : ∃ z, v1.getD i (MC0, MP0) = z := ⟨_, rfl⟩
    obtain ⟨⟨m2, q2⟩, hx2⟩ : ∃ z, v2.getD i (MC0, MP0) = z := ⟨_, rfl⟩
    have hmm := map_at (d := (MC0, MP0)) hsame i
    rw [hx1, hx2] at hmm
    simp only at hmm
    subst hmm
    have hm1m : (m, q1) ∈ v1 := by rw [← hx1]; exact getD_mem3 (by omega)
    have hm2m : (m, q2) ∈ v2 := by rw [← hx2]; exact getD_mem3 (by omega)
    obtain ⟨hm1, hk1, hp1⟩ := hok1 _ hm1m
    have hm2 := hok2 _ hm2m
    simp only at hm1 hk1 hp1 hm2
    have hle := lenKI hm1
    have hze := hz _ hm1m
    simp only at hze
    refine Zm rfl (Zm rfl (Ls_index (KM) (hr.inB hs) un29 inf41 rfl rfl (by omega) (by omega) hx1 rfl (fun b7 o8 hc9 => (Zr (run_as (run_load_agg agg41 inf41 rfl rfl hc9) (show _ = Value.agg #[.int .i64 m.k, .int .i64 m.f, .int .i64 m.t, .int .i64 m.b, .int .i64 m.a, .int .i64 m.c, .slice q1.eA q1.en q1.ec, .slice q1.kA q1.kn q1.kc, .slice q1.pA q1.pn q1.pc] from rfl)) rfl (Ls_alloc hs inf41 rfl (fun b11 w10 hs => (Ls_storeAgg hs inf41 rfl rfl rfl rfl (by simp [Value.oneCell', Value.cells, mcells]) (fun w12 hs => (Zt (Zm rfl (Zm rfl (Ls_index (KM) (hr2.inB hs) un29 inf41 rfl rfl (by omega) (by omega) hx2 rfl (fun b13 o14 hc15 => (Zr (run_as (run_load_agg agg41 inf41 rfl rfl hc15) (show _ = Value.agg #[.int .i64 m.k, .int .i64 m.f, .int .i64 m.t, .int .i64 m.b, .int .i64 m.a, .int .i64 m.c, .slice q2.eA q2.en q2.ec, .slice q2.kA q2.kn q2.kc, .slice q2.pA q2.pn q2.pc] from rfl)) rfl (Ls_alloc hs inf41 rfl (fun b17 w16 hs => (Ls_storeAgg hs inf41 rfl rfl rfl rfl (by simp [Value.oneCell', Value.cells, mcells]) (fun w18 hs => (Zt (Zf un41 inf3 rfl 0 rfl (Zl sc3 rfl (hs.blk_at 1 rfl 0 rfl) (Zf un41 inf3 rfl 0 rfl (Zl sc3 rfl (hs.blk_at 0 rfl 0 rfl) (Zr (run_asB (c := false) (run_neq rfl rfl) (by simp)) rfl (Zm rfl (Zo rfl (Zf un41 inf3 rfl 1 rfl (Zo rfl (Zl sc3 rfl (hs.blk_at 1 rfl 1 rfl) (Zo rfl (Zf un41 inf3 rfl 1 rfl (Zo rfl (Zl sc3 rfl (hs.blk_at 0 rfl 1 rfl) (Zo rfl (Zr (run_asB (c := false) (run_neq rfl rfl) (by simp)) rfl (Zr (run_pick_f rfl rfl) rfl (Zm rfl (Zo rfl (Zf un41 inf3 rfl 2 rfl (Zo rfl (Zl sc3 rfl (hs.blk_at 1 rfl 2 rfl) (Zo rfl (Zf un41 inf3 rfl 2 rfl (Zo rfl (Zl sc3 rfl (hs.blk_at 0 rfl 2 rfl) (Zo rfl (Zr (run_asB (c := false) (run_neq rfl rfl) (by simp)) rfl (Zr (run_pick_f rfl rfl) rfl (Zm rfl (Zo rfl (Zf un41 inf3 rfl 3 rfl (Zo rfl (Zl sc3 rfl (hs.blk_at 1 rfl 3 rfl) (Zo rfl (Zf un41 inf3 rfl 3 rfl (Zo rfl (Zl sc3 rfl (hs.blk_at 0 rfl 3 rfl) (Zo rfl (Zr (run_asB (c := false) (run_neq rfl rfl) (by simp)) rfl (Zr (run_pick_f rfl rfl) rfl (Zm rfl (Zo rfl (Zf un41 inf3 rfl 4 rfl (Zo rfl (Zl sc3 rfl (hs.blk_at 1 rfl 4 rfl) (Zo rfl (Zf un41 inf3 rfl 4 rfl (Zo rfl (Zl sc3 rfl (hs.blk_at 0 rfl 4 rfl) (Zo rfl (Zr (run_asB (c := false) (run_neq rfl rfl) (by simp)) rfl (Zr (run_pick_f rfl rfl) rfl (Zm rfl ?_)))))))))))))))))))))))))))))))))))))))))))))))))))))))))))))))))))))))))
    refine Zo rfl (Zf un41 inf3 rfl 5 rfl (Zo rfl (Zl sc3 rfl (hs.blk_at 1 rfl 5 rfl) (Zo rfl (Zf un41 inf3 rfl 5 rfl (Zo rfl (Zl sc3 rfl (hs.blk_at 0 rfl 5 rfl) (Zo rfl (Zr (run_asB (c := false) (run_neq rfl rfl) (by simp)) rfl (Zr (run_pick_f rfl rfl) rfl (Zm rfl (Zo rfl (Zf un41 inf25 rfl 6 rfl (Zo rfl (Zl sc25 rfl (hs.blk_at 1 rfl 6 rfl) (Zo rfl (Zf un41 inf25 rfl 6 rfl (Zo rfl (Zl sc25 rfl (hs.blk_at 0 rfl 6 rfl) (Zo rfl (Zc fn13 rfl (ints19_c w18 _ _ _ m.es _ _ _ m.es (hm1.inB hs) (hm2.inB hs) (by omega)) rfl ?_)))))))))))))))))))))
    rintro v19 w20 ⟨rfl, hsF⟩
    replace hs := hs.T hsF
    rw [decide_eq_true rfl]
    refine Zo rfl (Zr (run_not rfl) rfl (Zr (run_pick_f rfl rfl) rfl (Zm rfl (Zo rfl (Zf un41 inf38 rfl 7 rfl (Zo rfl (Zl sc38 rfl (hs.blk_at 1 rfl 7 rfl) (Zo rfl (Zr (run_len un38 rfl) rfl (Zo rfl (Zr (run_asB (c := false) (run_neq rfl rfl) (by simp [hk1])) rfl (Zr (run_pick_f rfl rfl) rfl (Zm rfl (Zo rfl (Zf un41 inf39 rfl 8 rfl (Zo rfl (Zl sc39 rfl (hs.blk_at 1 rfl 8 rfl) (Zo rfl (Zr (run_len un39 rfl) rfl (Zo rfl (Zr (run_asB (c := false) (run_neq rfl rfl) (by simp [hp1])) rfl (Zr (run_pick_f rfl rfl) rfl (Zj (St_iff rfl (St_skip (Jm_block_normal (Zq (St_region (Zm rfl (Zr (run_add rfl rfl (w64 (by omega))) rfl (Za rfl (Ls_nil ?_))))))))))))))))))))))))))))))))
    replace hs := hs.E0.E0
    refine Jm_round (i + 1) ?_ ?_ ?_
    · rw [hEn2]; exact sE ⟨rfl, rfl, rfl, trivial⟩
    · rw [hIv3]
      exact ⟨hs.forget, by omega⟩
    rw [hms4, hms4]
    omega
  refine St_exit (Jm_then_exit (Jm_then_exit (Jm_block_same (Zq (Zs (Za rfl (Zj (St_ret (Jm_ret1 rfl rfl ?_)))))))))
  exact ⟨_, rfl, rfl, hs.forget⟩
set_option maxRecDepth 100000 in
set_option maxHeartbeats 1000000 in
theorem tries_c (w : World) (A : Option Addr) (n c : Nat) (v1 : List TT) (A2 : Option Addr) (n2 c2 : Nat) (v2 : List TT) (hr : Rd w A n c 7 (KT.flat v1)) (hr2 : Rd w A2 n2 c2 7 (KT.flat v2)) (hsame : v1.map Prod.fst = v2.map Prod.fst) (hok1 : ∀ x ∈ v1, TRd w x) (hok2 : ∀ x ∈ v2, TRd w x) (hn : n ≤ 1024) (hz : ∀ x ∈ v1, x.1.fr.length ≤ 1073741824 ∧ x.1.to.length ≤ 1073741824) :
    Calls Try.prog 22 [.slice A n c, .slice A2 n2 c2].toArray w (Ret (fun v' w' => v' = .bool true ∧ Sat w w' [])) := by
  have hs := Sat.start w
  have hl1 := lenKT hr
  have hl2 := lenKT hr2
  have hl12 : n = n2 := by rw [← hl1, ← hl2]; have := congrArg List.length hsame; simpa using this
  refine Zb Try.func22 rfl rfl rfl (Zs (Za rfl (Zj (St_seq (Zs (Zm rfl (Zr (run_len un44 rfl) rfl (Zm rfl (Zr (run_len un44 rfl) rfl (Zr (run_asB (c := false) (run_neq rfl rfl) (by simp [hl12])) rfl (Zj (St_iff rfl (St_skip (Zq (St_seq (Zs (Za rfl (Zj (St_block ?_)))))))))))))))))))
  obtain ⟨En2, hEn2⟩ := ex1 fun (i : Nat) => ([(0, .slice A n c), (1, .slice A2 n2 c2), (5, .int .i64 (i : Int))] : Env)
  obtain ⟨Iv3, hIv3⟩ := ew1 fun (i : Nat) (wr : World) => Sat w wr [] ∧ i ≤ n
  obtain ⟨ms4, hms4⟩ := ex1 fun (i : Nat) => (n - i : Nat)
  refine St_loop En2 Iv3 ms4 (0) ?_ ?_ ?_
  · rw [hIv3]
    exact ⟨hs, by omega⟩
  · rw [hEn2]; exact sE ⟨rfl, rfl, rfl, trivial⟩
  rintro i wr hI5
  rw [hIv3] at hI5
  obtain ⟨hs, hi⟩ := hI5
  refine St_eqE (hEn2 _) (St_seq (Zs (Zm rfl (Zm rfl (Zr (run_len un44 rfl) rfl (Zr (run_lss rfl rfl) rfl (Zj (St_ifP rfl (fun h6 => ?_) (fun h6 => ?_)))))))))
  · refine St_skip (Zq (St_seq (St_block (Zs ?_))))
    obtain ⟨⟨x, q1⟩, hx1⟩ : ∃ z, v1.getD i T0 = z := ⟨_, rfl⟩
    obtain ⟨⟨x2, q2⟩, hx2⟩ : ∃ z, v2.getD i T0 = z := ⟨_, rfl⟩
    have hmm := map_at (d := T0) hsame i
    rw [hx1, hx2] at hmm
    simp only at hmm
    subst hmm
    have hm1m : (x, q1) ∈ v1 := by rw [← hx1]; exact getD_mem3 (by omega)
    have hm2m : (x, q2) ∈ v2 := by rw [← hx2]; exact getD_mem3 (by omega)
    have hm1 : Rd w q1.fA x.fr.length q1.fc 1 (KI.flat x.fr) ∧ Rd w q1.tA x.to.length q1.tc 1 (KI.flat x.to) := hok1 _ hm1m
    have hm2 : Rd w q2.fA x.fr.length q2.fc 1 (KI.flat x.fr) ∧ Rd w q2.tA x.to.length q2.tc 1 (KI.flat x.to) := hok2 _ hm2m
    have hzx : x.fr.length ≤ 1073741824 ∧ x.to.length ≤ 1073741824 := hz _ hm1m
    refine Zm rfl (Zm rfl (Ls_index (KT) (hr.inB hs) un44 inf43 rfl rfl (by omega) (by omega) hx1 rfl (fun b7 o8 hc9 => (Zr (run_as (run_load_agg agg43 inf43 rfl rfl hc9) (show _ = Value.agg #[.int .i64 x.b, .int .i64 x.a, .int .i64 x.nd, .int .i64 x.ph, .int .i64 x.ti, .slice q1.fA x.fr.length q1.fc, .slice q1.tA x.to.length q1.tc] from rfl)) rfl (Ls_alloc hs inf43 rfl (fun b11 w10 hs => (Ls_storeAgg hs inf43 rfl rfl rfl rfl (by simp [Value.oneCell', Value.cells, tcells]) (fun w12 hs => (Zt (Zm rfl (Zm rfl (Ls_index (KT) (hr2.inB hs) un44 inf43 rfl rfl (by omega) (by omega) hx2 rfl (fun b13 o14 hc15 => (Zr (run_as (run_load_agg agg43 inf43 rfl rfl hc15) (show _ = Value.agg #[.int .i64 x.b, .int .i64 x.a, .int .i64 x.nd, .int .i64 x.ph, .int .i64 x.ti, .slice q2.fA x.fr.length q2.fc, .slice q2.tA x.to.length q2.tc] from rfl)) rfl (Ls_alloc hs inf43 rfl (fun b17 w16 hs => (Ls_storeAgg hs inf43 rfl rfl rfl rfl (by simp [Value.oneCell', Value.cells, tcells]) (fun w18 hs => (Zt (Zf un43 inf3 rfl 0 rfl (Zl sc3 rfl (hs.blk_at 1 rfl 0 rfl) (Zf un43 inf3 rfl 0 rfl (Zl sc3 rfl (hs.blk_at 0 rfl 0 rfl) (Zr (run_asB (c := false) (run_neq rfl rfl) (by simp)) rfl (Zm rfl (Zo rfl (Zf un43 inf3 rfl 1 rfl (Zo rfl (Zl sc3 rfl (hs.blk_at 1 rfl 1 rfl) (Zo rfl (Zf un43 inf3 rfl 1 rfl (Zo rfl (Zl sc3 rfl (hs.blk_at 0 rfl 1 rfl) (Zo rfl (Zr (run_asB (c := false) (run_neq rfl rfl) (by simp)) rfl (Zr (run_pick_f rfl rfl) rfl (Zm rfl (Zo rfl (Zf un43 inf3 rfl 2 rfl (Zo rfl (Zl sc3 rfl (hs.blk_at 1 rfl 2 rfl) (Zo rfl (Zf un43 inf3 rfl 2 rfl (Zo rfl (Zl sc3 rfl (hs.blk_at 0 rfl 2 rfl) (Zo rfl (Zr (run_asB (c := false) (run_neq rfl rfl) (by simp)) rfl (Zr (run_pick_f rfl rfl) rfl (Zm rfl (Zo rfl (Zf un43 inf3 rfl 3 rfl (Zo rfl (Zl sc3 rfl (hs.blk_at 1 rfl 3 rfl) (Zo rfl (Zf un43 inf3 rfl 3 rfl (Zo rfl (Zl sc3 rfl (hs.blk_at 0 rfl 3 rfl) (Zo rfl (Zr (run_asB (c := false) (run_neq rfl rfl) (by simp)) rfl (Zr (run_pick_f rfl rfl) rfl (Zm rfl (Zo rfl (Zf un43 inf3 rfl 4 rfl (Zo rfl (Zl sc3 rfl (hs.blk_at 1 rfl 4 rfl) (Zo rfl (Zf un43 inf3 rfl 4 rfl (Zo rfl (Zl sc3 rfl (hs.blk_at 0 rfl 4 rfl) (Zo rfl (Zr (run_asB (c := false) (run_neq rfl rfl) (by simp)) rfl (Zr (run_pick_f rfl rfl) rfl (Zm rfl ?_)))))))))))))))))))))))))))))))))))))))))))))))))))))))))))))))))))))))))
    refine Zo rfl (Zf un43 inf25 rfl 5 rfl (Zo rfl (Zl sc25 rfl (hs.blk_at 1 rfl 5 rfl) (Zo rfl (Zf un43 inf25 rfl 5 rfl (Zo rfl (Zl sc25 rfl (hs.blk_at 0 rfl 5 rfl) (Zo rfl (Zc fn13 rfl (ints19_c w18 _ _ _ x.fr _ _ _ x.fr (hm1.1.inB hs) (hm2.1.inB hs) (by omega)) rfl ?_)))))))))
    rintro v19 w20 ⟨rfl, hsF⟩
    replace hs := hs.T hsF
    rw [decide_eq_true rfl]
    refine Zo rfl (Zr (run_not rfl) rfl (Zr (run_pick_f rfl rfl) rfl (Zm rfl (Zo rfl (Zf un43 inf25 rfl 6 rfl (Zo rfl (Zl sc25 rfl (hs.blk_at 1 rfl 6 rfl) (Zo rfl (Zf un43 inf25 rfl 6 rfl (Zo rfl (Zl sc25 rfl (hs.blk_at 0 rfl 6 rfl) (Zo rfl (Zc fn13 rfl (ints19_c w20 _ _ _ x.to _ _ _ x.to (hm1.2.inB hs) (hm2.2.inB hs) (by omega)) rfl ?_)))))))))))))
    rintro v21 w22 ⟨rfl, hsF⟩
    replace hs := hs.T hsF
    rw [decide_eq_true rfl]
    refine Zo rfl (Zr (run_not rfl) rfl (Zr (run_pick_f rfl rfl) rfl (Zj (St_iff rfl (St_skip (Jm_block_normal (Zq (St_region (Zm rfl (Zr (run_add rfl rfl (w64 (by omega))) rfl (Za rfl (Ls_nil ?_))))))))))))
    replace hs := hs.E0.E0
    refine Jm_round (i + 1) ?_ ?_ ?_
    · rw [hEn2]; exact sE ⟨rfl, rfl, rfl, trivial⟩
    · rw [hIv3]
      exact ⟨hs.forget, by omega⟩
    rw [hms4, hms4]
    omega
  refine St_exit (Jm_then_exit (Jm_then_exit (Jm_block_same (Zq (Zs (Za rfl (Zj (St_ret (Jm_ret1 rfl rfl ?_)))))))))
  exact ⟨_, rfl, rfl, hs.forget⟩
set_option maxRecDepth 100000 in
set_option maxHeartbeats 1000000 in
theorem notes19_c (w : World) (n : NSt) (Ap : Option Addr) (cAp : Nat) (Ac : Option Addr) (cAc : Nat) (Bp : Option Addr) (cBp : Nat) (Bc : Option Addr) (cBc : Nat) (h1 : Rd w Ap n.prev.length cAp 1 (KI.flat n.prev)) (h2 : Rd w Ac n.cur.length cAc 1 (KI.flat n.cur)) (h3 : Rd w Bp n.prev.length cBp 1 (KI.flat n.prev)) (h4 : Rd w Bc n.cur.length cBc 1 (KI.flat n.cur)) (hz : n.prev.length ≤ 1073741824 ∧ n.cur.length ≤ 1073741824) :
    Calls Try.prog 23 [.agg #[.int .i64 n.batch, .slice Ap n.prev.length cAp, .slice Ac n.cur.length cAc, .int .i64 n.att], .agg #[.int .i64 n.batch, .slice Bp n.prev.length cBp, .slice Bc n.cur.length cBc, .int .i64 n.att]].toArray w (Ret (fun v' w' => v' = .bool true ∧ Sat w w' [])) := by
  have hs := Sat.start w
  refine Zb Try.func23 rfl rfl rfl (Zs (Ls_box hs rfl rfl (fun b2 w1 hs => (Ls_box hs rfl rfl (fun b4 w3 hs => (Za rfl (Zt (Zf un53 inf3 rfl 3 rfl (Zl sc3 rfl (hs.blk_at 1 rfl 3 rfl) (Zf un53 inf3 rfl 3 rfl (Zl sc3 rfl (hs.blk_at 0 rfl 3 rfl) (Zr (run_asB (c := true) (run_eql rfl rfl) (by simp)) rfl (Zm rfl (Zo rfl (Zf un53 inf51 rfl 0 rfl (Zo rfl (Zf un51 inf3 rfl 0 rfl (Zo rfl (Zl sc3 rfl (hs.blk_at 1 rfl 0 rfl) (Zo rfl (Zf un53 inf51 rfl 0 rfl (Zo rfl (Zf un51 inf3 rfl 0 rfl (Zo rfl (Zl sc3 rfl (hs.blk_at 0 rfl 0 rfl) (Zo rfl (Zr (run_asB (c := true) (run_eql rfl rfl) (by simp)) rfl (Zr (run_pick_t rfl rfl) rfl (Zm rfl (Zo rfl (Zf un53 inf51 rfl 0 rfl (Zo rfl (Zf un51 inf25 rfl 1 rfl (Zo rfl (Zl sc25 rfl (hs.blk_at 1 rfl 1 rfl) (Zo rfl (Zf un53 inf51 rfl 0 rfl (Zo rfl (Zf un51 inf25 rfl 1 rfl (Zo rfl (Zl sc25 rfl (hs.blk_at 0 rfl 1 rfl) (Zo rfl (Zc fn13 rfl (ints19_c w3 _ _ _ n.prev _ _ _ n.prev (h1.inB hs) (h3.inB hs) (by omega)) rfl ?_)))))))))))))))))))))))))))))))))))))))))))
  rintro v5 w6 ⟨rfl, hsF⟩
  replace hs := hs.T hsF
  rw [decide_eq_true rfl]
  refine Zr (run_pick_t rfl rfl) rfl (Zm rfl (Zo rfl (Zf un53 inf51 rfl 0 rfl (Zo rfl (Zf un51 inf25 rfl 2 rfl (Zo rfl (Zl sc25 rfl (hs.blk_at 1 rfl 2 rfl) (Zo rfl (Zf un53 inf51 rfl 0 rfl (Zo rfl (Zf un51 inf25 rfl 2 rfl (Zo rfl (Zl sc25 rfl (hs.blk_at 0 rfl 2 rfl) (Zo rfl (Zc fn13 rfl (ints19_c w6 _ _ _ n.cur _ _ _ n.cur (h2.inB hs) (h4.inB hs) (by omega)) rfl ?_)))))))))))))))
  rintro v7 w9 ⟨rfl, hsF⟩
  replace hs := hs.T hsF
  rw [decide_eq_true rfl]
  refine Zr (run_pick_t rfl rfl) rfl (Za rfl (Zj (St_ret (Jm_ret1 rfl rfl ?_))))
  exact ⟨_, rfl, rfl, hs.forget⟩
end Go.Proofs.Ytcifdianinbkeaa.Lg
set_option linter.unusedVariables false
set_option linter.unusedSimpArgs false
namespace Go.Proofs.Ytcifdianinbkeaa.Lg
open Go Go.RowKit Go.Proofs.Ytcifdianinbkeaa.WirePure Go.Proofs.Ytcifdianinbkeaa.PlanPure
section
variable {N : Int} {p : PlanA} {ops : OpL} {tr : List TSt} {j : JSt} {d : DSt} {m : MC}
/-- A message about a try is sound. -/
theorem about_sound {k f b a : Int} {es : List Int} {pa : Int} (hk : k = 2 ∨ k = 8) (hf : 0 ≤ f ∧ f ≤ 8) (hb : 1 ≤ b ∧ b ≤ 1099511627776) (ha : 1 ≤ a ∧ a ≤ 1099511627776) (he : EB pa es) (h1 : 1 ≤ pa) (h4 : pa ≤ 4) : Msound ⟨k, f, 0, b, a, 0, es, [], []⟩ := by
  have hm : mof k = 1 := by unfold mof; rw [if_pos (by omega)]
  have hl := he.1
  refine ⟨?_, hf, ⟨Int.le_refl _, by show (0 : Int) ≤ 8; decide⟩, hb, ha, fun _ => ⟨he.2, by simp only; omega, by simp only; omega⟩, fun q => absurd hm q, fun q => ?_, fun _ => rfl, fun q => ?_, fun _ => rfl, fun q => ?_, fun _ => rfl⟩
  · show mof k ≠ 0; rw [hm]; decide
  · have q2 : mof k = 2 := q; rw [hm] at q2; exact absurd q2 (by decide)
  · have q2 : mof k = 3 := q; rw [hm] at q2; exact absurd q2 (by decide)
  · have q2 : mof k = 4 := q; rw [hm] at q2; exact absurd q2 (by decide)
theorem CI.ev (h : CI N p ops tr j d) : (false || j.ended || d.down) = false := by rw [h.je, h.dn]; rfl
theorem CI.ev' (h : CI N p ops tr j d) : ¬ (false || j.ended || d.down) = true := by rw [h.ev]; decide
theorem CI.take2 (h : CI N p ops tr j d) (hs : Msound m) (ht : m.t = 0) (hk : m.k = 2) : ctake p tr false j d m = ((cready p tr m).1, 0, (cready p tr m).2, false, j, d) := by
  unfold ctake
  rw [if_neg h.ev', if_neg (by simpa using hs), if_neg (by simpa using ht), if_pos hk, h.ev]
theorem CI.take8 (h : CI N p ops tr j d) (hs : Msound m) (ht : m.t = 0) (hk : m.k = 8) : ctake p tr false j d m = cdone tr false j d m := by
  unfold ctake
  rw [if_neg h.ev', if_neg (by simpa using hs), if_neg (by simpa using ht), if_neg (by omega), if_pos hk, h.ev]
theorem ageT_nil (g : Int) : ageT g [] = [] := rfl
/-- The first try. -/
def T1 (p : PlanA) (ops : OpL) (m : Nat) : TSt := ⟨1, 1, workerOf p ops 1, 1, 0, List.replicate m 0, []⟩
def j1 (m : Nat) : JSt := jnext (jnew m) (nextN (jnew m))
theorem newT_1 {m : Nat} : newT p ops (jnew m) [] = T1 p ops m := rfl
theorem first_tick {m : Nat} (h : CI 0 p ops [] (jnew m) d) (ha : d.armed = false) : ∃ d', ctick p ops [] false (jnew m) d = (some (sayM 1 (T1 p ops m) (List.replicate m 0)), 0, [T1 p ops m], false, j1 m, d') ∧ CI 1 p ops [T1 p ops m] (j1 m) d' ∧ d'.armed = false := by
  have hk := h.nums
  unfold numsOk at hk
  rcases h.tick (by decide) with ⟨h1, _⟩ | ⟨_, h2, _⟩ | ⟨_, _, d', h3, h4, h5⟩
  · unfold idle at h1
    rw [ageT_nil] at h1
    simp at h1
    omega
  · rw [ha] at h2; cases h2
  · rw [ageT_nil, newT_1] at h3 h4
    exact ⟨d', h3, h4, h5⟩
/-- A try that reads, alone. -/
theorem ready_1 {t : TSt} (h1 : t.ph = 1) (hm : m.b = t.b ∧ m.a = t.a ∧ m.f = t.nd) (hf : fwd t.fr m.es) (hfar : ¬ far p.ba t.fr m.es) (hn : t.fr ≠ m.es) : cready p [t] m = (some (sayM 3 (going (readied t m.es)) m.es), [going (readied t m.es)]) := by
  have hi : idxB (fun t => decide (abt m t 1)) [t] = some 0 := by
    unfold idxB
    have : decide (abt m t 1) = true := decide_eq_true ⟨hm.1.symm, hm.2.1.symm, hm.2.2.symm, h1⟩
    simp [this]
  unfold cready
  rw [hi]
  show (if ¬ fwd t.fr m.es then _ else if far p.ba t.fr m.es then _ else if t.fr = m.es then _ else if 0 < 0 then _ else _) = _
  rw [if_neg (by simpa using hf), if_neg hfar, if_neg hn, if_neg (by decide)]
  rfl
theorem ready_not {t : TSt} (h : ¬ abt m t 1) : cready p [t] m = (none, [t]) := by
  have hi : idxB (fun t => decide (abt m t 1)) [t] = none := by
    unfold idxB
    have : decide (abt m t 1) = false := decide_eq_false h
    simp [this]
  unfold cready
  rw [hi]
/-- Ends that have gone on from nothing, by no more than a batch. -/
theorem onw_facts {ba : Int} {c x : List Int} {pa : Int} (h : Onw ba c x) (hc : EB pa c) : EB pa x ∧ fwd c x ∧ ¬ far ba c x := by
  have hl := h.1
  have hf : fwd c x := ⟨hl.symm, fun i hi => (h.2 i hi).1⟩
  refine ⟨hc.fwd hf (fun y hy => ?_), hf, ?_⟩
  · obtain ⟨i, hi, rfl⟩ := List.getElem_of_mem hy
    have := (h.2 i (by omega)).2.1
    rwa [getD_el hi] at this
  · rintro ⟨k, hk, h9⟩
    have := (h.2 k (by omega)).2.2
    omega
end
end Go.Proofs.Ytcifdianinbkeaa.Lg
set_option linter.unusedVariables false
set_option linter.unusedSimpArgs false
namespace Go.Proofs.Ytcifdianinbkeaa.Lg
open Go Go.RowKit Go.Proofs.Ytcifdianinbkeaa.WirePure Go.Proofs.Ytcifdianinbkeaa.PlanPure
def P0 : PlanA := ⟨1, 1, 2, none, 0, 0, 1, 4, 2, 8⟩
def T2 : TSt := ⟨1, 1, 2, 1, 0, [0], []⟩
def G2 : TSt := ⟨1, 1, 2, 3, 0, [0], [4]⟩
def m1A : MC := ⟨1, 0, 2, 1, 1, 0, [0], [], []⟩
def m2R : MC := ⟨2, 2, 0, 1, 1, 0, [4], [], []⟩
def m3G : MC := ⟨3, 0, 2, 1, 1, 0, [4], [], []⟩
def m8D : MC := ⟨8, 2, 0, 1, 1, 0, [4], [], []⟩
def j2A : JSt := jnext (j1 1) ⟨1, [0], [4], 1⟩
theorem aw_1 {pq : PlanA} {d : DSt} (hwo : pq.wo = 2) (h : CI 0 pq [] [] (jnew 1) d) (ha : d.armed = false) : ∃ d1, ctick pq [] [] false (jnew 1) d = (some m1A, 0, [T2], false, j1 1, d1) ∧ CI 1 pq [] [T2] (j1 1) d1 ∧ d1.armed = false := by
  obtain ⟨d1, h1, h2, h3⟩ := first_tick h ha
  have hnd : workerOf pq [] 1 = 2 := by unfold workerOf; rw [if_pos ⟨h.ck, by decide⟩, hwo]; rfl
  have e : T1 pq [] 1 = T2 := by unfold T1 T2; rw [hnd]; rfl
  rw [e] at h1 h2
  exact ⟨d1, h1, h2, h3⟩
theorem aw_sound {k : Int} (hk : k = 2 ∨ k = 8) : Msound ⟨k, 2, 0, 1, 1, 0, [4], [], []⟩ := about_sound (pa := 1) hk (by decide) (by decide) (by decide) ⟨rfl, by simp⟩ (by decide) (by decide)
theorem aw_2 {pq : PlanA} {d : DSt} (hba : pq.ba = 4) (h : CI 1 pq [] [T2] (j1 1) d) : ctake pq [T2] false (j1 1) d m2R = (some m3G, 0, [G2], false, j1 1, d) ∧ CI 1 pq [] [G2] (j1 1) d := by
  have hr : cready pq [T2] m2R = (some m3G, [G2]) := ready_1 (t := T2) (m := m2R) rfl ⟨rfl, rfl, rfl⟩ (by decide) (by rw [hba]; decide) (by decide)
  have h2 := h.ready (m := m2R) (by decide)
  rw [hr] at h2
  refine ⟨?_, h2⟩
  rw [h.take2 (m := m2R) (aw_sound (.inl rfl)) rfl rfl, hr]
theorem aw_3 {pq : PlanA} {d : DSt} (h : CI 1 pq [] [G2] (j1 1) d) (ha : d.armed = false) : ∃ d2, ctake pq [G2] false (j1 1) d m8D = (none, 0, [], false, j2A, d2) ∧ CI 2 pq [] [] j2A d2 := by
  have hc : ¬ ([G2] = [] ∨ ¬ abt m8D ([G2].getD 0 T0.1) 3 ∨ ([G2].getD 0 T0.1).to ≠ m8D.es) := by decide
  rcases h.done (by decide) m8D with ⟨q, _⟩ | ⟨_, q, _⟩ | ⟨_, _, d2, h1, h2, _⟩
  · exact absurd q hc
  · rw [ha] at q; cases q
  · refine ⟨d2, ?_, h2⟩
    rw [h.take8 (m := m8D) (aw_sound (.inr rfl)) rfl rfl, h1]
    rfl
theorem mcells_1 (m : MC) (q : MP) : KM.flat [(m, q)] = mcells m q := by simp [El.flat, KM]
set_option maxRecDepth 100000 in
set_option maxHeartbeats 1000000 in
theorem awake19_c (w : World) :
    Calls Try.prog 8 [].toArray w (Ret (fun v' w' => v' = .bool true ∧ Sat w w' [])) := by
  have hs := Sat.start w
  refine Calls_body Try.func8 rfl rfl rfl envE_nil (Zs (Za rfl (Zt (Zc fn27 rfl (small_c w) rfl ?_))))
  rintro v1 w2 ⟨rfl, hsF⟩
  replace hs := hs.T hsF
  refine Zc fn26 rfl (fresh_c w2 P0 [] (Rd.none _ 3) (by decide) (by decide)) rfl ?_
  rintro v3 w4 ⟨bd, bc, bj, Ao, co, m, d, hm, rfl, hsF, hg, hdj⟩
  replace hs := hs.T hsF
  have hm1 : m = 1 := by have q : (1 : Int) = (m : Int) := hm; omega
  subst hm1
  obtain ⟨pq, hpq⟩ : ∃ q, ({ P0 with oA := Ao, oc := co } : PlanA) = q := ⟨_, rfl⟩
  have hck0 : chk P0 [] = 0 := by decide
  have hck : chk pq [] = 0 := by rw [← hpq]; exact hck0
  have hCI : CI 0 pq [] [] (jnew 1) d := CI.new hck (by rw [← hpq]; rfl) hg hdj
  have hwo : pq.wo = 2 := by rw [← hpq]; rfl
  have hba : pq.ba = 4 := by rw [← hpq]; rfl
  have hon : pq.on = 0 := by rw [← hpq]; rfl
  rw [hpq] at hs
  refine Zm rfl (Zr (run_extract rfl rfl) rfl (Zr (run_extract rfl rfl) rfl (Za rfl (Za rfl (Zj (St_seq (Zs (Zm rfl (Zr (run_asB (c := false) (run_eql_ptr_nil un28 rfl rfl) rfl) rfl (Zj (St_iff rfl (St_skip (Zq (Zs (Zm rfl ?_)))))))))))))))
  replace hs := hs.F2.F2.F2
  obtain ⟨d1, ht1, hC1, ha1⟩ := aw_1 hwo hCI hg.2.1
  refine Zc fn11 rfl (cTick_c w w4 _ bc bd bj pq [] [] false (jnew 1) d hs (by simp) (by simp) (by rw [ageT_nil]; simp) hCI.jo hCI.rows (by omega)) rfl ?_
  rintro v6 w7 ⟨va, rfl, hs⟩
  simp only [ht1] at hs ⊢
  obtain ⟨ga, Aa, ca, hva, h9⟩ := hs.moSome
  subst hva
  replace hs := h9
  refine Zm rfl (Zr (run_extract rfl rfl) rfl (Zr (run_extract rfl rfl) rfl (Za rfl (Za rfl (Zt (Zm rfl (Ls_literal [_] hs un25 inf3 rfl rfl rfl rfl rfl rfl (fun b8 w9 hs => ?_))))))))
  simp only [List.flatMap_cons, List.flatMap_nil, Value.cells, List.cons_append, List.nil_append] at hs
  refine Zr (run_buildO (pv := [(0, _), (1, _), (3, _), (4, _), (6, _)]) rfl (bld41_0_1_3_4_6 _ _ _ _ _ _ _)) rfl ?_
  replace hs := hs.F5.F5.F5
  have hCx := hC1
  obtain ⟨ht2, hC2⟩ := aw_2 hba hC1
  refine Zc fn15 rfl (cTake_c w w9 _ bc bd bj pq [] [T2] false (j1 1) d1 hs hCx.jo hCx.rows m2R ⟨some ⟨b8, 0, none⟩, 1, 1, none, 0, 0, none, 0, 0⟩ (fun w' X z => ⟨rd_block (z.is_at 1 rfl).2 1 1 rfl, Rd.none w' 1, Rd.none w' 3⟩) rfl (by refine ⟨?_, ?_, ?_⟩ <;> simp only <;> decide) (by decide) (by decide) (by decide)) rfl ?_
  rintro v10 w11 ⟨vb, rfl, hs⟩
  simp only [ht2] at hs ⊢
  obtain ⟨gb, Ab, cb, hvb, h9⟩ := hs.moSome
  subst hvb
  replace hs := h9
  refine Zm rfl (Zr (run_extract rfl rfl) rfl (Zr (run_extract rfl rfl) rfl (Za rfl (Za rfl (Zt (Zm rfl (Ls_literal [_] hs un25 inf3 rfl rfl rfl rfl rfl rfl (fun b12 w13 hs => ?_))))))))
  simp only [List.flatMap_cons, List.flatMap_nil, Value.cells, List.cons_append, List.nil_append] at hs
  refine Zr (run_buildO (pv := [(0, _), (1, _), (3, _), (4, _), (6, _)]) rfl (bld41_0_1_3_4_6 _ _ _ _ _ _ _)) rfl ?_
  replace hs := hs.F5.F5.F5
  replace hCx := hC2
  obtain ⟨d2, ht3, hC3⟩ := aw_3 hC2 ha1
  refine Zc fn15 rfl (cTake_c w w13 _ bc bd bj pq [] [G2] false (j1 1) d1 hs hCx.jo hCx.rows m8D ⟨some ⟨b12, 0, none⟩, 1, 1, none, 0, 0, none, 0, 0⟩ (fun w' X z => ⟨rd_block (z.is_at 1 rfl).2 1 1 rfl, Rd.none w' 1, Rd.none w' 3⟩) rfl (by refine ⟨?_, ?_, ?_⟩ <;> simp only <;> decide) (by decide) (by decide) (by decide)) rfl ?_
  rintro v14 w15 ⟨vb, rfl, hs⟩
  simp only [ht3] at hs ⊢
  obtain ⟨hvc, h9⟩ := hs.moNone
  subst hvc
  replace hs := h9
  refine Zm rfl (Zr (run_extract rfl rfl) rfl (Zr (run_extract rfl rfl) rfl (Za rfl (Za rfl (Zt (Zm rfl ?_))))))
  replace hs := hs.F1.F1
  refine Zc fn17 rfl (cNote_c w w15 _ bc bd bj pq [] [] false j2A hs (by decide)) rfl ?_
  rintro v16 w17 ⟨Np, np, Nc, nc, rfl, hs⟩
  refine Ls_alloc hs inf53 rfl (fun b19 w18 hs => (Ls_storeAgg hs inf53 rfl rfl rfl rfl (by simp [Value.oneCell', Value.cells]) (fun w20 hs => (Zt (Zm rfl (Zr (run_asB (c := true) (run_eql rfl rfl) (by decide)) rfl (Zm rfl (Zo rfl (Zm rfl (Zo rfl (Zr (run_asB (c := true) (run_eql rfl rfl) (by decide)) rfl (Zr (run_pick_t rfl rfl) rfl (Zm rfl (Zo rfl (Zm rfl (Zo rfl (Zr (run_asB (c := true) (run_eql rfl rfl) (by decide)) rfl (Zr (run_pick_t rfl rfl) rfl (Zm rfl (Zo rfl (Zm rfl (Zo rfl (Ls_literal [_] hs un25 inf3 rfl rfl rfl rfl rfl rfl (fun b21 w22 hs => ?_))))))))))))))))))))))))
  simp only [List.flatMap_cons, List.flatMap_nil, Value.cells, List.cons_append, List.nil_append] at hs
  refine Zo rfl (Zr (run_buildO (pv := [(0, _), (2, _), (3, _), (4, _), (6, _)]) rfl (bld41_0_2_3_4_6 _ _ _ _ _ _ _)) rfl (Zo rfl (Ls_literal [_] hs un29 inf41 rfl rfl rfl rfl rfl rfl (fun b23 w24 hs => ?_))))
  simp only [List.flatMap_cons, List.flatMap_nil, Value.cells, List.cons_append, List.nil_append] at hs
  refine Zo rfl ?_
  have hx1 := rd_block (hs.is_at 12 rfl).2 9 1 rfl
  rw [← mcells_1] at hx1
  have hx2 := rd_block (hs.is_at 0 rfl).2 9 1 rfl
  have hx3 : KM.flat [(m1A, (⟨some ⟨b21, 0, none⟩, 1, 1, none, 0, 0, none, 0, 0⟩ : MP))] = _ := mcells_1 _ _
  have hx4 := hs.rd_at 13 rfl
  have hx5 := rd_block (hs.is_at 1 rfl).2 1 1 rfl
  refine Zc fn28 rfl (msgs_c w24 _ 1 _ [(m1A, _)] _ 1 _ [(m1A, ⟨some ⟨b21, 0, none⟩, 1, 1, none, 0, 0, none, 0, 0⟩)] hx1 (by rw [hx3]; exact hx2) rfl (fun x hx => by rw [List.mem_singleton] at hx; subst hx; exact ⟨hx4, rfl, rfl⟩) (fun x hx => by rw [List.mem_singleton] at hx; subst hx; exact hx5) (by decide) (fun x hx => by rw [List.mem_singleton] at hx; subst hx; show List.length _ ≤ _; decide)) rfl ?_
  rintro v25 w26 ⟨rfl, hsF⟩
  replace hs := hs.T hsF
  clear hx1 hx2 hx3 hx4 hx5
  refine Zr (run_pick_t rfl rfl) rfl (Zm rfl (Zo rfl (Zm rfl (Zo rfl (Ls_literal [_] hs un25 inf3 rfl rfl rfl rfl rfl rfl (fun b27 w28 hs => ?_))))))
  simp only [List.flatMap_cons, List.flatMap_nil, Value.cells, List.cons_append, List.nil_append] at hs
  refine Zo rfl (Zr (run_buildO (pv := [(0, _), (2, _), (3, _), (4, _), (6, _)]) rfl (bld41_0_2_3_4_6 _ _ _ _ _ _ _)) rfl (Zo rfl (Ls_literal [_] hs un29 inf41 rfl rfl rfl rfl rfl rfl (fun b29 w30 hs => ?_))))
  simp only [List.flatMap_cons, List.flatMap_nil, Value.cells, List.cons_append, List.nil_append] at hs
  refine Zo rfl ?_
  have hx1 := rd_block (hs.is_at 11 rfl).2 9 1 rfl
  rw [← mcells_1] at hx1
  have hx2 := rd_block (hs.is_at 0 rfl).2 9 1 rfl
  have hx3 : KM.flat [(m3G, (⟨some ⟨b27, 0, none⟩, 1, 1, none, 0, 0, none, 0, 0⟩ : MP))] = _ := mcells_1 _ _
  have hx4 := hs.rd_at 12 rfl
  have hx5 := rd_block (hs.is_at 1 rfl).2 1 1 rfl
  refine Zc fn28 rfl (msgs_c w30 _ 1 _ [(m3G, _)] _ 1 _ [(m3G, ⟨some ⟨b27, 0, none⟩, 1, 1, none, 0, 0, none, 0, 0⟩)] hx1 (by rw [hx3]; exact hx2) rfl (fun x hx => by rw [List.mem_singleton] at hx; subst hx; exact ⟨hx4, rfl, rfl⟩) (fun x hx => by rw [List.mem_singleton] at hx; subst hx; exact hx5) (by decide) (fun x hx => by rw [List.mem_singleton] at hx; subst hx; show List.length _ ≤ _; decide)) rfl ?_
  rintro v31 w32 ⟨rfl, hsF⟩
  replace hs := hs.T hsF
  clear hx1 hx2 hx3 hx4 hx5
  refine Zr (run_pick_t rfl rfl) rfl (Zm rfl (Zo rfl (Zm rfl (Zo rfl (Zr (run_len un29 rfl) rfl (Zo rfl (Zr (run_asB (c := true) (run_eql rfl rfl) (by decide)) rfl (Zr (run_pick_t rfl rfl) rfl (Zm rfl (Zo rfl (Zf un53 inf51 rfl 0 rfl (Zo rfl (Zf un51 inf3 rfl 0 rfl (Zo rfl (Zl sc3 rfl (hs.blk_at 4 rfl 0 rfl) (Zo rfl (Zr (run_asB (c := true) (run_eql rfl rfl) (by decide)) rfl (Zr (run_pick_t rfl rfl) rfl (Zm rfl (Zo rfl (Zf un53 inf51 rfl 0 rfl (Zo rfl (Zf un51 inf25 rfl 2 rfl (Zo rfl (Zl sc25 rfl (hs.blk_at 4 rfl 2 rfl) (Zo rfl (Ls_literal [_] hs un25 inf3 rfl rfl rfl rfl rfl rfl (fun b33 w34 hs => ?_))))))))))))))))))))))))))))
  simp only [List.flatMap_cons, List.flatMap_nil, Value.cells, List.cons_append, List.nil_append] at hs
  refine Zo rfl (Zc fn13 rfl (ints19_c w34 _ _ _ [4] _ _ _ [4] (hs.rd_at 7 rfl) (rd_block (hs.is_at 0 rfl).2 1 1 rfl) (by decide)) rfl ?_)
  rintro v35 w36 ⟨rfl, hsF⟩
  replace hs := hs.T hsF
  rw [decide_eq_true rfl]
  refine Zr (run_pick_t rfl rfl) rfl (Zm rfl (Zo rfl (Zf un53 inf3 rfl 3 rfl (Zo rfl (Zl sc3 rfl (hs.blk_at 5 rfl 3 rfl) (Zo rfl (Zr (run_asB (c := true) (run_eql rfl rfl) (by decide)) rfl (Zr (run_pick_t rfl rfl) rfl (Zm rfl (Zo rfl (Zm rfl (Zo rfl ?_))))))))))))
  replace hs := hs.F8
  refine Zc fn12 rfl (cTries_c w w36 _ bc bd bj pq [] [] false hs (by decide) (by simp)) rfl ?_
  rintro v37 w38 ⟨vo, Ao2, co2, hvo, rfl, hs⟩
  have hvo0 : vo = [] := List.map_eq_nil_iff.1 hvo
  subst hvo0
  replace hs := Sat.pre (L1 := [_, _, _, _, _, _, _, _, _, _, _, _, _, _, _, _, _, _]) hs
  refine Zo rfl (Zr (run_len un44 rfl) rfl (Zo rfl (Zr (run_asB (c := true) (run_eql rfl rfl) (by decide)) rfl (Zr (run_pick_t rfl rfl) rfl (Zm rfl (Zo rfl (Zm rfl (Zo rfl ?_))))))))
  replace hs := hs.F1
  refine Zc fn29 rfl (cEnded_c w w38 _ bc bd bj pq [] [] false hs) rfl ?_
  rintro v39 w40 ⟨rfl, rfl⟩
  refine Zo rfl (Zr (run_not rfl) rfl (Zr (run_pick_t rfl rfl) rfl (Za rfl (Zj (St_ret (Jm_ret1 rfl rfl ?_))))))
  exact ⟨_, rfl, rfl, hs.forget⟩
end Go.Proofs.Ytcifdianinbkeaa.Lg
set_option linter.unusedVariables false
set_option linter.unusedSimpArgs false
namespace Go.Proofs.Ytcifdianinbkeaa.Lg
open Go Go.RowKit Go.Proofs.Ytcifdianinbkeaa.WirePure Go.Proofs.Ytcifdianinbkeaa.PlanPure
set_option maxRecDepth 100000 in
set_option maxHeartbeats 1000000 in
theorem CoordGivesUp_bad (w : World) (p : PlanA) (ops : OpL) (hr : Rd w p.oA p.on p.oc 3 (KOp.flat ops)) (hn : p.on ≤ 9223372036854775807) (hck : chk p ops ≠ 0) (A1 : Option Addr) (n1 c1 : Nat) (A2 : Option Addr) (n2 c2 : Nat) :
    Calls Try.prog 5 [.agg #[.int .i64 p.pa, .int .i64 p.st, .int .i64 p.wo, .slice p.oA p.on p.oc, .int .i64 p.ag, .int .i64 p.ba, .int .i64 p.wi, .int .i64 p.gu], .slice A1 n1 c1, .slice A2 n2 c2].toArray w (Ret (fun v' w' => v' = .bool true ∧ Below w.heap.size w w')) := by
  have hs := Sat.start w
  refine Zb Try.func5 rfl rfl rfl (Zs (Ls_box hs rfl rfl (fun b2 w1 hs => (Za rfl (Zj (St_seq (Zs (Zc fn8 rfl (awake19_c w1) rfl ?_))))))))
  rintro v3 w4 ⟨rfl, hsA5⟩
  replace hs := hs.T hsA5
  refine Zr (run_not rfl) rfl (Zj (St_iff rfl (St_skip (Zq (Zs (Zr (run_load_agg agg24 inf24 rfl rfl (hs.blk_cells 0 rfl 0 8)) rfl (Zc fn9 rfl (laid19_bad w4 p ops (hr.inB hs) hn hck) rfl ?_)))))))
  rintro v7 w9 ⟨q, rfl, hsF⟩
  replace hs := hs.T hsF
  refine Zm rfl (Zr (run_extract rfl rfl) rfl (Zr (run_extract rfl rfl) rfl (Ls_alloc hs inf31 rfl (fun b11 w10 hs => (Ls_storeAgg hs inf31 rfl rfl rfl rfl (by simp [Value.oneCell', Value.cells]) (fun w12 hs => (Za rfl (Zj (St_seq (Zs (Zm rfl (Zr (run_not rfl) rfl (Zj (St_ift rfl (Zs (Zr (run_load_agg agg24 inf24 rfl rfl (hs.blk_cells 1 rfl 0 8)) rfl (Zc fn10 rfl (Check_c w12 p ops (hr.inB hs) (by omega)) rfl ?_)))))))))))))))))
  rintro v14 w15 ⟨rfl, hsQ⟩
  replace hs := hs.T hsQ
  refine Zr (run_neq rfl rfl) rfl (Za rfl (Zj (St_ret (Jm_then_ret (Jm_ret1 rfl rfl ?_)))))
  exact ⟨_, rfl, by simp [hck], hs.below⟩
end Go.Proofs.Ytcifdianinbkeaa.Lg
set_option linter.unusedVariables false
set_option linter.unusedSimpArgs false
namespace Go.Proofs.Ytcifdianinbkeaa.Lg
open Go Go.RowKit Go.Proofs.Ytcifdianinbkeaa.WirePure Go.Proofs.Ytcifdianinbkeaa.PlanPure
section
variable {p : PlanA} {ops : OpL} {d : DSt} {m : Nat} {es : List Int}
def aboutT (k : Int) (t : TSt) (es : List Int) : MC := ⟨k, t.nd, 0, t.b, t.a, 0, es, [], []⟩
/-- A message that isn't its end. -/
theorem first_not {k : Int} {t : TSt} {N : Int} {j : JSt} (h : CI N p ops [t] j d) {x : MC} (hx : Msound x) (ht : x.t = 0) (hk : x.k = 8) (hn : ¬ abt x t 3 ∨ t.to ≠ x.es) : ctake p [t] false j d x = (none, 0, [t], false, j, d) := by
  rw [h.take8 hx ht hk]
  unfold cdone
  rw [if_pos (.inr hn)]
theorem msg_rd {w : World} {g T : Nat} {x : MC} {q : MP} {fr : Nat × Nat} (h : w.heap[g]? = some (.cells (mcells x q).toArray T fr)) : Rd w (some ⟨g, 0, none⟩) 1 1 9 (KM.flat [(x, q)]) := by
  rw [mcells_1]; exact rd_block h 9 1 rfl
end
theorem chk_len {p : PlanA} {l : OpL} (h : chk p l = 0) : l.length ≤ 8 := by
  unfold chk at h
  split at h
  · unfold opsChk at h
    split at h
    · cases h
    · rename_i h2
      unfold opsBad at h2
      omega
  · cases h
end Go.Proofs.Ytcifdianinbkeaa.Lg
set_option linter.unusedVariables false
set_option linter.unusedSimpArgs false
namespace Go.Proofs.Ytcifdianinbkeaa.Lg
open Go Go.RowKit Go.Proofs.Ytcifdianinbkeaa.WirePure Go.Proofs.Ytcifdianinbkeaa.PlanPure
theorem one_row {vo : List TT} {t : TSt} (h : vo.map Prod.fst = [t]) : ∃ q, vo = [(t, q)] := by
  match vo, h with
  | [(a, q)], h => simp at h; exact ⟨q, by rw [h]⟩
theorem Onw.one {ba : Int} {c x : List Int} (h : Onw ba c x) (hb : 1 ≤ ba) (h0 : x.getD 0 0 = 0) (hc : c.getD 0 0 = 0) : Onw ba c (x.set 0 1) := h.put (i := 0) (by omega) (by decide) (by omega)
end Go.Proofs.Ytcifdianinbkeaa.Lg
set_option linter.unusedVariables false
set_option linter.unusedSimpArgs false
namespace Go.Proofs.Ytcifdianinbkeaa.Lg
open Go Go.RowKit
section
variable {P : Program} {E : Env} {w : World} {ty t : TypeId} {x : Operand} {i : Nat}
end
end Go.Proofs.Ytcifdianinbkeaa.Lg
