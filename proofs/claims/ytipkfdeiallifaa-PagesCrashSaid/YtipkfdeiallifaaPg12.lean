/-
  The law PagesCrash, walked. By program (gen/pg12.py).
-/
import Derived.Test.YtipkfdeiallifaaPgL
set_option linter.unusedVariables false
set_option linter.unusedSimpArgs false
namespace Go.Proofs.Ytipkfdeiallifaa.Lg
open Go Go.RowKit Go.Proofs.Ytipkfdeiallifaa.WirePure
theorem cut_off {e2 : Int} {s2 s : BSt} {d2 d : DSt} {W : List (List Int)} {l : List Wr} (hpg : PGb d.bl s W) (hdn : d.down = false) (hen : s.ended = false) (hg : s.gen < 1099511627776) (hl : FitW l) (hb : bput dO (fun _ => 80) s d l = (e2, s2, d2)) (he : e2 = 80) : s2.ended = true ∧ d2.down = true ∧ PGb d2.bl s W ∧ BInv s2 18 := by
  rcases hpg.put hdn hen hg hl with ⟨s', d', h9, _⟩ | ⟨s', d', h9, a, b, c, e, f⟩
  · rw [hb] at h9; cases h9; omega
  · rw [hb] at h9; cases h9; exact ⟨a, b, e, f⟩
theorem cut_on {e2 : Int} {s2 s : BSt} {d2 d : DSt} {W : List (List Int)} {l : List Wr} (hpg : PGb d.bl s W) (hdn : d.down = false) (hen : s.ended = false) (hg : s.gen < 1099511627776) (hl : FitW l) (hb : bput dO (fun _ => 80) s d l = (e2, s2, d2)) (he : ¬ e2 = 80) : e2 = 0 ∧ PGb d2.bl s2 (withL W l) ∧ d2.down = false ∧ s2.ended = false ∧ s2.gen ≤ s.gen + 1 := by
  rcases hpg.put hdn hen hg hl with ⟨s', d', h9, a, b, c, e, f, _⟩ | ⟨s', d', h9, _⟩
  · rw [hb] at h9; cases h9; exact ⟨rfl, a, b, e, f⟩
  · rw [hb] at h9; cases h9; exact absurd rfl he
set_option maxRecDepth 100000 in
set_option maxHeartbeats 1000000 in
theorem PagesCrash_c (w : World) (A : Option Addr) (n c : Nat) (ls : List Value) (A1 : Option Addr) (n1 c1 : Nat) (vs1 : List KWt) (ws1 : List Wr) (ct : Int) (hr : Rd w A n c 1 (El.val.flat ls)) (hll : ∀ x ∈ ls, LL w x) (hw1 : PWs w A1 n1 c1 vs1 ws1) (hok1 : PWok ws1) (hn1 : n1 ≤ 9223372036854775806) (hn : n ≤ 9223372036854775806) :
    Calls Try.prog 11 [.slice A n c, .slice A1 n1 c1, .int .i64 ct].toArray w (Ret (fun v' w' => v' = .bool true ∧ Below w.heap.size w w')) := by
  have hs := Sat.start w
  have hln : ls.length = n := by have := hr.len; rw [El.flat_length] at this; simpa [El.val] using this
  refine Calls_body Try.func11 rfl rfl rfl (envE_cons (i := 0) (v := .slice A n c) rfl (envE_cons (i := 1) (v := .slice A1 n1 c1) rfl (envE_cons (i := 2) (v := .int .i64 ct) rfl envE_nil))) ?_
  refine St_seq ?_
  refine St_region ?_
  refine Ls_run (run_assign rfl) rfl ?_
  refine Ls_nil ?_
  refine Jm_seq ?_
  refine St_seq ?_
  refine St_seq ?_
  refine St_region ?_
  refine Ls_call Try.func23 nm23 rfl rfl (awake9_c w) rfl ?_
  rintro v1 w2 ⟨rfl, hsA⟩
  replace hs := hs.trans hsA
  simp only [List.nil_append] at hs
  refine Ls_run (run_not rfl) rfl ?_
  refine Ls_nil ?_
  refine Jm_seq ?_
  refine St_iff rfl ?_
  refine St_skip ?_
  refine Jm_seq ?_
  refine St_seq ?_
  refine St_region ?_
  refine Ls_call Try.func24 nm24 rfl rfl (room_c w2) rfl ?_
  rintro v4 w5 ⟨b0, bj, d0, rfl, hsR, hpg0, hdn0, har0⟩
  replace hs := hs.trans hsR
  simp only [List.cons_append, List.nil_append] at hs
  refine Ls_run (run_move rfl) rfl ?_
  refine Ls_run (run_extract rfl rfl) rfl ?_
  refine Ls_run (run_extract rfl rfl) rfl ?_
  refine Ls_run (run_assign rfl) rfl ?_
  refine Ls_run (run_assign rfl) rfl ?_
  refine Ls_nil ?_
  refine Jm_seq ?_
  refine St_seq ?_
  refine St_seq ?_
  refine St_region ?_
  refine Ls_run (run_move rfl) rfl ?_
  refine Ls_run (run_asB (c := false) (run_eql_ptr_nil Try.underlying47 rfl rfl) rfl) rfl ?_
  refine Ls_nil ?_
  refine Jm_seq ?_
  refine St_iff rfl ?_
  refine St_skip ?_
  refine Jm_seq ?_
  refine St_seq ?_
  refine St_region ?_
  refine Ls_alloc hs inf50 rfl ?_
  intro b8 w7 hs
  refine Ls_nil ?_
  refine Jm_seq ?_
  refine St_seq ?_
  refine St_seq ?_
  refine St_region ?_
  refine Ls_run (run_assign rfl) rfl ?_
  refine Ls_nil ?_
  refine Jm_seq ?_
  refine St_block ?_
  replace hs := hs.front 2 rfl
  simp only [List.cons_append, List.nil_append, List.eraseIdx_cons_zero, List.eraseIdx_cons_succ] at hs
  replace hs := hs.front 2 rfl
  simp only [List.cons_append, List.nil_append, List.eraseIdx_cons_zero, List.eraseIdx_cons_succ] at hs
  obtain ⟨En9, hEn9⟩ : ∃ F : Nat × BSt × DSt × List (List Int) → Env, ∀ (i : Nat) (s : BSt) (d : DSt) (W : List (List Int)), F (i, s, d, W) = [(0, .slice A n c), (1, .slice A1 n1 c1), (2, .int .i64 ct), (7, .pointer (some ⟨b0, 0, none⟩)), (8, .pointer (some ⟨bj, 0, none⟩)), (9, .pointer (some ⟨b8, 0, none⟩)), (10, .int .i64 (i : Int))] := ⟨(fun (sx0 : Nat × BSt × DSt × List (List Int)) => match sx0 with | (i, s, d, W) => [(0, .slice A n c), (1, .slice A1 n1 c1), (2, .int .i64 ct), (7, .pointer (some ⟨b0, 0, none⟩)), (8, .pointer (some ⟨bj, 0, none⟩)), (9, .pointer (some ⟨b8, 0, none⟩)), (10, .int .i64 (i : Int))]), fun _ _ _ _ => rfl⟩
  obtain ⟨Iv10, hIv10⟩ : ∃ F : Nat × BSt × DSt × List (List Int) → World → Prop, ∀ (i : Nat) (s : BSt) (d : DSt) (W : List (List Int)) (wr : World), F (i, s, d, W) wr = (Sat w wr [BA 122 3 bj (some ⟨b0, 0, none⟩) s, DiskA 129 28 5 b0 d, Blk b8 (SW W) 50] ∧ (PGb d.bl s W ∧ d.down = false ∧ d.armed = false ∧ s.ended = false ∧ s.gen ≤ 1 + i) ∧ i ≤ 64 ∧ (∀ x ∈ W, IsBytes x)) := ⟨(fun (sx0 : Nat × BSt × DSt × List (List Int)) => match sx0 with | (i, s, d, W) => fun (wr : World) => Sat w wr [BA 122 3 bj (some ⟨b0, 0, none⟩) s, DiskA 129 28 5 b0 d, Blk b8 (SW W) 50] ∧ (PGb d.bl s W ∧ d.down = false ∧ d.armed = false ∧ s.ended = false ∧ s.gen ≤ 1 + i) ∧ i ≤ 64 ∧ (∀ x ∈ W, IsBytes x)), fun _ _ _ _ _ => rfl⟩
  obtain ⟨ms11, hms11⟩ : ∃ F : Nat × BSt × DSt × List (List Int) → Nat, ∀ (i : Nat) (s : BSt) (d : DSt) (W : List (List Int)), F (i, s, d, W) = (n - i) := ⟨(fun (sx0 : Nat × BSt × DSt × List (List Int)) => match sx0 with | (i, s, d, W) => n - i), fun _ _ _ _ => rfl⟩
  refine St_loop En9 Iv10 ms11 (0, (bnew 8), d0, (List.replicate 8 [])) ?_ ?_ ?_
  · skip
    rw [hIv10]
    exact ⟨hs, ⟨hpg0, hdn0, har0, rfl, by decide⟩, by omega, rep_bytes⟩
  · rw [hEn9]; exact (subE_cons rfl (subE_cons rfl (subE_cons rfl (subE_cons rfl (subE_cons rfl (subE_cons rfl (subE_cons rfl subE_nil)))))))
  rintro ⟨i, s, d, W⟩ wr hI12
  rw [hIv10] at hI12
  obtain ⟨hs, ⟨hpg, hdn, har, hen, hgn⟩, hi64, hWb⟩ := hI12
  refine St_eqE (hEn9 _ _ _ _) ?_
  have hWl := hpg.wl
  refine St_seq ?_
  refine St_seq ?_
  refine St_region ?_
  refine Ls_run (run_move rfl) rfl ?_
  refine Ls_run (run_move rfl) rfl ?_
  refine Ls_run (run_len Try.underlying43 rfl) rfl ?_
  refine Ls_run (run_lss rfl rfl) rfl ?_
  refine Ls_run (run_move rfl) rfl ?_
  refine Ls_partP (t := 32) rfl (fun h13 => ?_) (fun h13 => ?_)
  · skip
    refine Ls_on rfl rfl ?_
    refine Ls_run (run_move rfl) rfl ?_
    refine Ls_on rfl rfl ?_
    refine Ls_run (run_lss rfl rfl) rfl ?_
    refine Ls_run (run_pick_t rfl rfl) rfl ?_
    refine Ls_nil ?_
    refine Jm_seq ?_
    refine St_ifP rfl (fun h14 => ?_) (fun h14 => ?_)
    · skip
      refine St_skip ?_
      refine Jm_seq ?_
      refine St_seq ?_
      refine St_block ?_
      refine St_seq ?_
      refine St_region ?_
      refine Ls_run (run_move rfl) rfl ?_
      refine Ls_run (run_move rfl) rfl ?_
      obtain ⟨Al, nl, cl, vl, wl, hlv, hwl, hokl, hnl⟩ := hll (ls.getD i El.val.dflt) (getElem_mem3 (by omega))
      refine Ls_index (El.val) (hr.inB hs) Try.underlying43 inf51 rfl rfl (by omega) (by omega) hlv rfl ?_
      intro b15 o16 hc17
      refine Ls_run (run_load sc51 rfl (hc17 0 _ rfl)) rfl ?_
      refine Ls_call Try.func25 nm25 rfl rfl (fit_c w wr hs.forget Al nl cl vl wl hwl hokl hnl) rfl ?_
      rintro v18 w19 ⟨AF, cF, vF, rfl, hsF, hpF⟩
      have hgF := fitL_good hokl
      obtain ⟨lF, hlF⟩ : ∃ q, fitL wl = q := ⟨_, rfl⟩
      rw [hlF] at hsF hpF hgF ⊢
      replace hs := hs.trans hsF
      simp only [List.cons_append, List.nil_append] at hs
      have hnF := hgF.len
      refine Ls_run (run_assign rfl) rfl ?_
      refine Ls_nil ?_
      refine Jm_seq ?_
      refine St_seq ?_
      refine St_seq ?_
      refine St_region ?_
      refine Ls_run (run_move rfl) rfl ?_
      refine Ls_run (run_move rfl) rfl ?_
      replace hs := hs.front 2 rfl
      simp only [List.cons_append, List.nil_append, List.eraseIdx_cons_zero, List.eraseIdx_cons_succ] at hs
      replace hs := hs.front 2 rfl
      simp only [List.cons_append, List.nil_append, List.eraseIdx_cons_zero, List.eraseIdx_cons_succ] at hs
      obtain ⟨sQ, dQ, hbQ, hpgQ, hdnQ, harQ, henQ, hgnQ, hnlQ, hshQ⟩ := (PGb.put hpg hdn hen (by omega) hgF.fit).resolve_right (fun ⟨_, _, _, _, _, h9, _⟩ => by rw [har] at h9; cases h9)
      refine Ls_call Try.func26 nm26 rfl rfl (BPut_g w w19 _ bj b0 s d hs ⟨hpg.rows, by rw [hpg.n]; decide⟩ (by rw [hpg.n]; exact hpg.inv) AF lF.length cF vF lF (fun w' X q => ((hpF.inB q).with_ (q.rd_at 1 rfl))) hgF.ok (by omega)) rfl ?_
      rintro v20 w21 ⟨rfl, hs⟩
      simp only [hbQ] at hs ⊢
      refine Ls_run (run_asB (c := false) (run_neq rfl rfl) (by decide)) rfl ?_
      refine Ls_nil ?_
      refine Jm_seq ?_
      refine St_iff rfl ?_
      refine St_skip ?_
      refine Jm_seq ?_
      refine St_region ?_
      refine Ls_run (run_as (run_load_agg agg50 inf50 rfl (show (((SW W).drop 0).take 8).length = 8 by rw [SW_take hWl, SW_len]; exact hWl) (hs.blk_cells 3 rfl 0 8)) (show _ = Value.agg (SW W).toArray by rw [SW_take hWl])) rfl ?_
      refine Ls_run (run_move rfl) rfl ?_
      refine Ls_call Try.func27 nm27 rfl rfl (with_c w21 W hWl AF lF.length cF vF lF ((hpF.inB hs).with_ (hs.rd_at 2 rfl)) hgF.ok (fun x hx => (hgF.2 x hx).1) (by omega)) rfl ?_
      rintro v23 w24 ⟨rfl, hsW25⟩
      replace hs := hs.trans hsW25
      simp only [List.nil_append, List.cons_append] at hs
      replace hs := hs.front 3 rfl
      simp only [List.cons_append, List.nil_append, List.eraseIdx_cons_zero, List.eraseIdx_cons_succ] at hs
      refine Ls_storeAgg hs inf50 rfl rfl (by rw [SW_len, withL_len]; exact hWl) (by first | rfl | (rw [SW_len]; exact hWl)) (SW_one _) ?_
      intro w26 hs
      refine Ls_nil ?_
      refine Jm_block_normal (Jm_seq ?_)
      refine St_region ?_
      refine Ls_run (run_move rfl) rfl ?_
      refine Ls_run (run_add rfl rfl (w64 (by omega))) rfl ?_
      refine Ls_run (run_assign rfl) rfl ?_
      refine Ls_nil ?_
      replace hs := hs.erase 3
      simp only [List.cons_append, List.nil_append, List.eraseIdx_cons_zero, List.eraseIdx_cons_succ] at hs
      replace hs := hs.front 2 rfl
      simp only [List.cons_append, List.nil_append, List.eraseIdx_cons_zero, List.eraseIdx_cons_succ] at hs
      replace hs := hs.front 2 rfl
      simp only [List.cons_append, List.nil_append, List.eraseIdx_cons_zero, List.eraseIdx_cons_succ] at hs
      refine Jm_round (i + 1, sQ, dQ, (withL W lF)) ?_ ?_ ?_
      · rw [hEn9]; exact (subE_cons rfl (subE_cons rfl (subE_cons rfl (subE_cons rfl (subE_cons rfl (subE_cons rfl (subE_cons rfl subE_nil)))))))
      · skip
        rw [hIv10]
        exact ⟨hs, ⟨hpgQ, hdnQ, harQ.trans har, henQ, by omega⟩, by omega, withL_bytes _ _ hWb (fun x hx => (hgF.2 x hx).2.1)⟩
      · skip
        rw [hms11, hms11]
        omega
    · skip
      refine St_exit ?_
      refine Jm_then_exit (Jm_then_exit (Jm_block_same (Jm_seq ?_)))
      refine St_seq ?_
      refine St_region ?_
      refine Ls_run (run_move rfl) rfl ?_
      refine Ls_call Try.func25 nm25 rfl rfl (fit_c w wr hs.forget A1 n1 c1 vs1 ws1 hw1 hok1 hn1) rfl ?_
      rintro v27 w28 ⟨AE, cE, vE, rfl, hsE, hpE⟩
      have hgE := fitL_good hok1
      obtain ⟨lE, hlE⟩ : ∃ q, fitL ws1 = q := ⟨_, rfl⟩
      rw [hlE] at hsE hpE hgE ⊢
      replace hs := hs.trans hsE
      simp only [List.cons_append, List.nil_append] at hs
      have hnE := hgE.len
      refine Ls_run (run_assign rfl) rfl ?_
      refine Ls_nil ?_
      refine Jm_seq ?_
      refine St_seq ?_
      refine St_region ?_
      refine Ls_run (run_move rfl) rfl ?_
      obtain ⟨u, hu, hu2⟩ := u64_nat' ct
      refine Ls_run (run_as (run_conv_int Try.underlying57 us3 rfl rfl) (show _ = Value.int .u64 (u : Int) by rw [← hu])) rfl ?_
      refine Ls_run (run_as (run_rem rfl rfl (by decide) rfl) (show _ = Value.int .u64 ((u % 11 : Nat) : Int) by rw [← rem_nn' u 11]; rfl)) rfl ?_
      refine Ls_run (run_as (run_conv_int Try.underlying3 us57 rfl (w64 (by omega))) (show _ = Value.int .i64 ((u % 11 : Nat) : Int) from rfl)) rfl ?_
      refine Ls_run (run_assign rfl) rfl ?_
      refine Ls_nil ?_
      refine Jm_seq ?_
      refine St_seq ?_
      refine St_region ?_
      refine Ls_run (run_move rfl) rfl ?_
      refine Ls_run (run_move rfl) rfl ?_
      replace hs := hs.front 2 rfl
      simp only [List.cons_append, List.nil_append, List.eraseIdx_cons_zero, List.eraseIdx_cons_succ] at hs
      obtain ⟨vs0, A0, c0, hv0, hs⟩ := hs.dopen
      refine Ls_call Try.func32 nm32 rfl rfl (Cut_c w w28 _ b0 d A0 c0 hs ((u % 11 : Nat) : Int)) rfl ?_
      rintro v29 w30 ⟨rfl, hs⟩
      replace hs := Sat.dshut (s := dcut d ((u % 11 : Nat) : Int)) hv0 hs
      obtain ⟨d1, hd1⟩ : ∃ q, dcut d ((u % 11 : Nat) : Int) = q := ⟨_, rfl⟩
      have hpg1 : PGb d1.bl s W := by rw [← hd1]; exact hpg
      have hdn1 : d1.down = false := by rw [← hd1]; exact hdn
      rw [hd1] at hs
      refine Ls_nil ?_
      refine Jm_seq ?_
      refine St_seq ?_
      refine St_region ?_
      refine Ls_run (run_move rfl) rfl ?_
      refine Ls_run (run_move rfl) rfl ?_
      replace hs := hs.front 2 rfl
      simp only [List.cons_append, List.nil_append, List.eraseIdx_cons_zero, List.eraseIdx_cons_succ] at hs
      refine Ls_call Try.func26 nm26 rfl rfl (BPut_g w w30 _ bj b0 s d1 hs ⟨hpg1.rows, by rw [hpg1.n]; decide⟩ (by rw [hpg1.n]; exact hpg1.inv) AE lE.length cE vE lE (fun w' X q => ((hpE.inB q).with_ (q.rd_at 1 rfl))) hgE.ok (by omega)) rfl ?_
      rintro v31 w32 ⟨rfl, hs⟩
      obtain ⟨⟨e2, s2, d2⟩, hb2⟩ : ∃ q, bput dO (fun _ => 80) s d1 lE = q := ⟨_, rfl⟩
      simp only [hb2] at hs ⊢
      refine Ls_run (run_assign rfl) rfl ?_
      refine Ls_nil ?_
      refine Jm_seq ?_
      refine St_seq ?_
      refine St_seq ?_
      refine St_region ?_
      refine Ls_run (run_move rfl) rfl ?_
      refine Ls_run (run_eql rfl rfl) rfl ?_
      refine Ls_nil ?_
      refine Jm_seq ?_
      refine St_ifP rfl (fun h33 => ?_) (fun h33 => ?_)
      · skip
        have hF := cut_off hpg1 hdn1 hen (by omega) hgE.fit hb2 (by omega)
        obtain ⟨hF1, hF2, hF3, hF4⟩ := hF
        refine St_seq ?_
        refine St_region ?_
        refine Ls_run (run_move rfl) rfl ?_
        replace hs := hs.front 1 rfl
        simp only [List.cons_append, List.nil_append, List.eraseIdx_cons_zero, List.eraseIdx_cons_succ] at hs
        replace hs := hs.front 1 rfl
        simp only [List.cons_append, List.nil_append, List.eraseIdx_cons_zero, List.eraseIdx_cons_succ] at hs
        have hg66 : bget dO s2 d2 0 = ([], 80, s2, d2) := by rw [bget_80 (o := dO) (by rw [bend_end hF1]; exact hF1), bend_end hF1]
        refine Ls_call Try.func31 nm31 rfl rfl (BGet_g w w32 _ bj b0 s2 d2 hs ⟨hF3.rows, by rw [hF3.n]; decide⟩ (by have := hF4.l8; omega) 0) rfl ?_
        rintro v34 w35 ⟨Ag, cg, rfl, hs⟩
        simp only [hg66] at hs ⊢
        refine Ls_run (run_move rfl) rfl ?_
        refine Ls_run (run_extract rfl rfl) rfl ?_
        refine Ls_run (run_extract rfl rfl) rfl ?_
        refine Ls_run (run_assign rfl) rfl ?_
        refine Ls_run (run_assign rfl) rfl ?_
        refine Ls_nil ?_
        refine Jm_seq ?_
        refine St_seq ?_
        refine St_region ?_
        refine Ls_run (run_move rfl) rfl ?_
        obtain ⟨A6, c6, hq6⟩ := hs.bopen
        refine Ls_call Try.func33 nm33 rfl rfl (bEnded_c w35 bj _ s2 A6 c6 (hq6.is_at 0 rfl).2) rfl ?_
        rintro v36 w37 ⟨rfl, rfl⟩
        rw [hF1]
        refine Ls_run (run_not rfl) rfl ?_
        refine Ls_run (run_move rfl) rfl ?_
        refine Ls_on rfl rfl ?_
        refine Ls_run (run_move rfl) rfl ?_
        refine Ls_on rfl rfl ?_
        replace hs := hs.front 1 rfl
        simp only [List.cons_append, List.nil_append, List.eraseIdx_cons_zero, List.eraseIdx_cons_succ] at hs
        obtain ⟨A0, c0, hd0⟩ := hs.dhd
        refine Ls_call Try.func34 nm34 rfl rfl (Down_c w35 b0 d2 A0 c0 hd0) rfl ?_
        rintro v38 w39 ⟨rfl, rfl⟩
        rw [hF2]
        refine Ls_on rfl rfl ?_
        refine Ls_run (run_not rfl) rfl ?_
        refine Ls_run (run_pick_f rfl rfl) rfl ?_
        refine Ls_run (run_move rfl) rfl ?_
        refine Ls_on rfl rfl ?_
        refine Ls_run (run_move rfl) rfl ?_
        refine Ls_on rfl rfl ?_
        refine Ls_run (run_asB (c := false) (run_neq rfl rfl) (by decide)) rfl ?_
        refine Ls_run (run_pick_f rfl rfl) rfl ?_
        refine Ls_run (run_move rfl) rfl ?_
        refine Ls_on rfl rfl ?_
        refine Ls_run (run_move rfl) rfl ?_
        refine Ls_on rfl rfl ?_
        replace hs := hs.front 1 rfl
        simp only [List.cons_append, List.nil_append, List.eraseIdx_cons_zero, List.eraseIdx_cons_succ] at hs
        have hb83 : bput dO (fun _ => 80) s2 d2 [] = (80, s2, d2) := by rw [bput_80 (o := dO) (by rw [bend_end hF1]; exact hF1), bend_end hF1]
        refine Ls_call Try.func26 nm26 rfl rfl (BPut_g w w35 _ bj b0 s2 d2 hs ⟨hF3.rows, by rw [hF3.n]; decide⟩ (by rw [hF3.n]; exact hF4) none 0 0 [] [] (fun w' X q => PWs.none_ w') (by simp [PWok]) (by decide)) rfl ?_
        rintro v40 w41 ⟨rfl, hs⟩
        simp only [hb83] at hs ⊢
        refine Ls_on rfl rfl ?_
        refine Ls_run (run_asB (c := false) (run_neq rfl rfl) (by decide)) rfl ?_
        refine Ls_run (run_pick_f rfl rfl) rfl ?_
        refine Ls_nil ?_
        refine Jm_seq ?_
        refine St_iff rfl ?_
        refine St_skip ?_
        refine Jm_seq ?_
        refine St_seq ?_
        refine St_region ?_
        refine Ls_run (run_move rfl) rfl ?_
        replace hs := hs.front 1 rfl
        simp only [List.cons_append, List.nil_append, List.eraseIdx_cons_zero, List.eraseIdx_cons_succ] at hs
        obtain ⟨vs0, A0, c0, hv0, hs⟩ := hs.dopen
        refine Ls_call Try.func35 nm35 rfl rfl (On_c w w41 _ b0 d2 A0 c0 hs) rfl ?_
        rintro v43 w44 ⟨rfl, hs⟩
        replace hs := Sat.dshut (s := don d2) hv0 hs
        obtain ⟨d3, hd3⟩ : ∃ q, don d2 = q := ⟨_, rfl⟩
        have hpg3 : PGb d3.bl s W := by rw [← hd3]; exact hF3
        have hdn3 : d3.down = false := by rw [← hd3]; rfl
        have har3 : d3.armed = false := by rw [← hd3]; rfl
        rw [hd3] at hs
        refine Ls_nil ?_
        refine Jm_seq ?_
        refine St_seq ?_
        refine St_region ?_
        refine Ls_run (run_move rfl) rfl ?_
        replace hs := hs.front 1 rfl
        simp only [List.cons_append, List.nil_append, List.eraseIdx_cons_zero, List.eraseIdx_cons_succ] at hs
        have hg99 : bget dO s2 d3 0 = ([], 80, s2, d3) := by rw [bget_80 (o := dO) (by rw [bend_end hF1]; exact hF1), bend_end hF1]
        have hsm4 : SameD d3 d3 := SameD.refl _
        refine Ls_call Try.func31 nm31 rfl rfl (BGet_g w w44 _ bj b0 s2 d3 hs ⟨hpg3.rows, by rw [hpg3.n]; decide⟩ (by have := hF4.l8; omega) 0) rfl ?_
        rintro v45 w46 ⟨Ag2, cg2, rfl, hs⟩
        simp only [hg99] at hs ⊢
        obtain ⟨d4, hd4⟩ : ∃ q, d3 = q := ⟨_, rfl⟩
        have hsm5 : SameD d3 d4 := by rw [← hd4]; exact hsm4
        have hs9 := hs
        rw [hd4] at hs9
        clear hs
        have hs := hs9
        clear hs9
        refine Ls_run (run_move rfl) rfl ?_
        refine Ls_run (run_extract rfl rfl) rfl ?_
        refine Ls_run (run_extract rfl rfl) rfl ?_
        refine Ls_run (run_assign rfl) rfl ?_
        refine Ls_run (run_assign rfl) rfl ?_
        refine Ls_nil ?_
        refine Jm_seq ?_
        refine St_seq ?_
        refine St_seq ?_
        refine St_region ?_
        refine Ls_run (run_move rfl) rfl ?_
        refine Ls_run (run_asB (c := true) (run_eql rfl rfl) (by decide)) rfl ?_
        refine Ls_run (run_move rfl) rfl ?_
        refine Ls_run (run_asB (c := true) (run_eql rfl rfl) (by rw [decide_eq_true_eq]; assumption)) rfl ?_
        refine Ls_run (run_asB (c := false) (run_neq_bool Try.underlying4 rfl rfl) (by decide)) rfl ?_
        refine Ls_nil ?_
        refine Jm_seq ?_
        refine St_iff rfl ?_
        refine St_skip ?_
        refine Jm_seq ?_
        refine St_seq ?_
        refine St_region ?_
        refine Ls_run (run_move rfl) rfl ?_
        replace hs := hs.front 1 rfl
        simp only [List.cons_append, List.nil_append, List.eraseIdx_cons_zero, List.eraseIdx_cons_succ] at hs
        obtain ⟨d5, ho5, hsm6⟩ := PGb.open_ (d := d4) (s := s) (W := W) (by rw [hsm5.1]; exact hpg3) (hsm5.2.1.trans hdn3)
        have hsm7 := hsm5.trans hsm6
        refine Ls_call Try.func36 nm36 rfl rfl (BOpen_g w w46 _ b0 d4 hs ⟨by rw [hsm5.1]; exact hpg3.rows, by rw [hsm5.1, hpg3.n]; decide⟩ (by rw [hsm5.1, hpg3.n]; decide)) rfl ?_
        rintro v48 w49 ⟨p5, rfl, hs⟩
        simp only [ho5] at hs ⊢
        obtain ⟨bk5, hp5, h9⟩ := hs.boSome
        subst hp5
        replace hs := h9
        obtain ⟨s5, hs5⟩ : ∃ q, ({ s with ended := false } : BSt) = q := ⟨_, rfl⟩
        rw [hs5] at hs
        have hpg5 : PGb d5.bl s5 W := by rw [hsm7.1, ← hs5]; exact hpg3.ended false
        have hdn5 : d5.down = false := hsm7.2.1.trans hdn3
        have har5 : d5.armed = false := hsm7.2.2.trans har3
        have hen5 : s5.ended = false := by rw [← hs5]
        have hgn5 : s5.gen = s.gen := by rw [← hs5]
        have hWb5 : ∀ x ∈ W, IsBytes x := hWb
        refine Ls_run (run_move rfl) rfl ?_
        refine Ls_run (run_extract rfl rfl) rfl ?_
        refine Ls_run (run_extract rfl rfl) rfl ?_
        refine Ls_run (run_assign rfl) rfl ?_
        refine Ls_run (run_assign rfl) rfl ?_
        refine Ls_nil ?_
        refine Jm_seq ?_
        refine St_seq ?_
        refine St_seq ?_
        refine St_region ?_
        refine Ls_run (run_move rfl) rfl ?_
        refine Ls_run (run_asB (c := false) (run_neq rfl rfl) (by decide)) rfl ?_
        refine Ls_run (run_move rfl) rfl ?_
        refine Ls_on rfl rfl ?_
        refine Ls_run (run_move rfl) rfl ?_
        refine Ls_on rfl rfl ?_
        refine Ls_run (run_as (run_load_agg agg50 inf50 rfl (show (((SW W).drop 0).take 8).length = 8 by rw [SW_take hWl, SW_len]; exact hWl) (hs.blk_cells 6 rfl 0 8)) (show _ = Value.agg (SW W).toArray by rw [SW_take hWl])) rfl ?_
        refine Ls_on rfl rfl ?_
        replace hs := hs.front 1 rfl
        simp only [List.cons_append, List.nil_append, List.eraseIdx_cons_zero, List.eraseIdx_cons_succ] at hs
        replace hs := hs.front 1 rfl
        simp only [List.cons_append, List.nil_append, List.eraseIdx_cons_zero, List.eraseIdx_cons_succ] at hs
        refine Ls_call Try.func30 nm30 rfl rfl (holds_c w w49 _ bk5 b0 s5 d5 W hs hpg5 hdn5 hen5 hWb5) rfl ?_
        rintro v50 w51 ⟨d6, rfl, hsmd6, hs⟩
        refine Ls_on rfl rfl ?_
        refine Ls_run (run_not rfl) rfl ?_
        refine Ls_run (run_pick_f rfl rfl) rfl ?_
        refine Ls_nil ?_
        refine Jm_seq ?_
        refine St_iff rfl ?_
        refine St_skip ?_
        refine Jm_seq ?_
        refine St_seq ?_
        refine St_region ?_
        refine Ls_run (run_move rfl) rfl ?_
        refine Ls_run (run_move rfl) rfl ?_
        replace hs := hs.front 1 rfl
        simp only [List.cons_append, List.nil_append, List.eraseIdx_cons_zero, List.eraseIdx_cons_succ] at hs
        replace hs := hs.front 1 rfl
        simp only [List.cons_append, List.nil_append, List.eraseIdx_cons_zero, List.eraseIdx_cons_succ] at hs
        obtain ⟨sZ, dZ, hbZ, hpgZ, hdnZ, harZ, henZ, hgnZ, _, _⟩ := (PGb.put (d := d6) (s := s5) (W := W) (by rw [hsmd6.1]; exact hpg5) (hsmd6.2.1.trans hdn5) hen5 (by omega) hgE.fit).resolve_right (fun ⟨_, _, _, _, _, h9, _⟩ => by rw [hsmd6.2.2.trans har5] at h9; cases h9)
        refine Ls_call Try.func26 nm26 rfl rfl (BPut_g w w51 _ bk5 b0 s5 d6 hs ⟨by rw [hsmd6.1]; exact hpg5.rows, by rw [hsmd6.1, hpg5.n]; decide⟩ (by rw [hsmd6.1, hpg5.n]; exact hpg5.inv) AE lE.length cE vE lE (fun w' X q => ((hpE.inB q).with_ (q.rd_at 4 rfl))) hgE.ok (by omega)) rfl ?_
        rintro v53 w54 ⟨rfl, hs⟩
        simp only [hbZ] at hs ⊢
        refine Ls_run (run_asB (c := true) (run_eql rfl rfl) (by decide)) rfl ?_
        refine Ls_run (run_move rfl) rfl ?_
        refine Ls_on rfl rfl ?_
        refine Ls_run (run_move rfl) rfl ?_
        refine Ls_on rfl rfl ?_
        refine Ls_run (run_as (run_load_agg agg50 inf50 rfl (show (((SW W).drop 0).take 8).length = 8 by rw [SW_take hWl, SW_len]; exact hWl) (hs.blk_cells 6 rfl 0 8)) (show _ = Value.agg (SW W).toArray by rw [SW_take hWl])) rfl ?_
        refine Ls_on rfl rfl ?_
        refine Ls_run (run_move rfl) rfl ?_
        refine Ls_on rfl rfl ?_
        refine Ls_call Try.func27 nm27 rfl rfl (with_c w54 W hWl AE lE.length cE vE lE ((hpE.inB hs).with_ (hs.rd_at 5 rfl)) hgE.ok (fun x hx => (hgE.2 x hx).1) (by omega)) rfl ?_
        rintro v55 w56 ⟨rfl, hsW57⟩
        replace hs := hs.trans hsW57
        simp only [List.nil_append, List.cons_append] at hs
        refine Ls_on rfl rfl ?_
        replace hs := hs.front 1 rfl
        simp only [List.cons_append, List.nil_append, List.eraseIdx_cons_zero, List.eraseIdx_cons_succ] at hs
        replace hs := hs.front 1 rfl
        simp only [List.cons_append, List.nil_append, List.eraseIdx_cons_zero, List.eraseIdx_cons_succ] at hs
        refine Ls_call Try.func30 nm30 rfl rfl (holds_c w w56 _ bk5 b0 sZ dZ (withL W lE) hs hpgZ hdnZ henZ (withL_bytes _ _ hWb5 (fun x hx => (hgE.2 x hx).2.1))) rfl ?_
        rintro v58 w59 ⟨d7, rfl, hsmd7, hs⟩
        refine Ls_run (run_pick_t rfl rfl) rfl ?_
        refine Ls_run (run_assign rfl) rfl ?_
        refine Ls_nil ?_
        refine Jm_seq ?_
        refine St_ret ?_
        refine Jm_ret1 rfl rfl ?_
        exact ⟨_, rfl, rfl, hs.below⟩
      · skip
        have hF := cut_on hpg1 hdn1 hen (by omega) hgE.fit hb2 (by omega)
        obtain ⟨he0, hF3, hF2, hF1, hF5⟩ := hF
        subst he0
        refine St_seq ?_
        refine St_region ?_
        refine Ls_run (run_as (run_load_agg agg50 inf50 rfl (show (((SW W).drop 0).take 8).length = 8 by rw [SW_take hWl, SW_len]; exact hWl) (hs.blk_cells 3 rfl 0 8)) (show _ = Value.agg (SW W).toArray by rw [SW_take hWl])) rfl ?_
        refine Ls_run (run_move rfl) rfl ?_
        refine Ls_call Try.func27 nm27 rfl rfl (with_c w32 W hWl AE lE.length cE vE lE ((hpE.inB hs).with_ (hs.rd_at 2 rfl)) hgE.ok (fun x hx => (hgE.2 x hx).1) (by omega)) rfl ?_
        rintro v60 w61 ⟨rfl, hsW62⟩
        replace hs := hs.trans hsW62
        simp only [List.nil_append, List.cons_append] at hs
        replace hs := hs.front 3 rfl
        simp only [List.cons_append, List.nil_append, List.eraseIdx_cons_zero, List.eraseIdx_cons_succ] at hs
        refine Ls_storeAgg hs inf50 rfl rfl (by rw [SW_len, withL_len]; exact hWl) (by first | rfl | (rw [SW_len]; exact hWl)) (SW_one _) ?_
        intro w63 hs
        refine Ls_nil ?_
        refine Jm_seq ?_
        refine St_seq ?_
        refine St_region ?_
        refine Ls_run (run_move rfl) rfl ?_
        refine Ls_run (run_asB (c := false) (run_neq rfl rfl) (by decide)) rfl ?_
        refine Ls_run (run_move rfl) rfl ?_
        refine Ls_on rfl rfl ?_
        refine Ls_run (run_move rfl) rfl ?_
        refine Ls_on rfl rfl ?_
        replace hs := hs.front 2 rfl
        simp only [List.cons_append, List.nil_append, List.eraseIdx_cons_zero, List.eraseIdx_cons_succ] at hs
        obtain ⟨A0, c0, hd0⟩ := hs.dhd
        refine Ls_call Try.func34 nm34 rfl rfl (Down_c w63 b0 d2 A0 c0 hd0) rfl ?_
        rintro v64 w65 ⟨rfl, rfl⟩
        rw [hF2]
        refine Ls_run (run_pick_f rfl rfl) rfl ?_
        refine Ls_nil ?_
        refine Jm_seq ?_
        refine St_iff rfl ?_
        refine St_skip ?_
        refine Jm_seq ?_
        refine St_seq ?_
        refine St_region ?_
        refine Ls_run (run_move rfl) rfl ?_
        obtain ⟨vs0, A0, c0, hv0, hs⟩ := hs.dopen
        refine Ls_call Try.func35 nm35 rfl rfl (On_c w w63 _ b0 d2 A0 c0 hs) rfl ?_
        rintro v67 w68 ⟨rfl, hs⟩
        replace hs := Sat.dshut (s := don d2) hv0 hs
        obtain ⟨d3, hd3⟩ : ∃ q, don d2 = q := ⟨_, rfl⟩
        have hpg3 : PGb d3.bl s2 (withL W lE) := by rw [← hd3]; exact hF3
        have hdn3 : d3.down = false := by rw [← hd3]; rfl
        have har3 : d3.armed = false := by rw [← hd3]; rfl
        rw [hd3] at hs
        refine Ls_nil ?_
        refine Jm_seq ?_
        refine St_seq ?_
        refine St_region ?_
        refine Ls_run (run_move rfl) rfl ?_
        replace hs := hs.front 2 rfl
        simp only [List.cons_append, List.nil_append, List.eraseIdx_cons_zero, List.eraseIdx_cons_succ] at hs
        obtain ⟨d4, hg99, hsm5⟩ := PGb.get (p := 0) hpg3 hdn3 hF1 (by decide)
        have hg99b : bget dO s2 d3 0 = ((withL W lE).getD 0 [], 0, s2, d4) := hg99
        refine Ls_call Try.func31 nm31 rfl rfl (BGet_g w w68 _ bj b0 s2 d3 hs ⟨hpg3.rows, by rw [hpg3.n]; decide⟩ (by rw [hpg3.l8]; decide) 0) rfl ?_
        rintro v69 w70 ⟨Ag2, cg2, rfl, hs⟩
        simp only [hg99b] at hs ⊢
        have hs9 := hs
        clear hs
        have hs := hs9
        clear hs9
        refine Ls_run (run_move rfl) rfl ?_
        refine Ls_run (run_extract rfl rfl) rfl ?_
        refine Ls_run (run_extract rfl rfl) rfl ?_
        refine Ls_run (run_assign rfl) rfl ?_
        refine Ls_run (run_assign rfl) rfl ?_
        refine Ls_nil ?_
        refine Jm_seq ?_
        refine St_seq ?_
        refine St_seq ?_
        refine St_region ?_
        refine Ls_run (run_move rfl) rfl ?_
        refine Ls_run (run_asB (c := false) (run_eql rfl rfl) (by decide)) rfl ?_
        refine Ls_run (run_move rfl) rfl ?_
        refine Ls_run (run_asB (c := false) (run_eql rfl rfl) (by decide)) rfl ?_
        refine Ls_run (run_asB (c := false) (run_neq_bool Try.underlying4 rfl rfl) (by decide)) rfl ?_
        refine Ls_nil ?_
        refine Jm_seq ?_
        refine St_iff rfl ?_
        refine St_skip ?_
        refine Jm_seq ?_
        refine St_seq ?_
        refine St_region ?_
        refine Ls_run (run_move rfl) rfl ?_
        replace hs := hs.front 1 rfl
        simp only [List.cons_append, List.nil_append, List.eraseIdx_cons_zero, List.eraseIdx_cons_succ] at hs
        obtain ⟨d5, ho5, hsm6⟩ := PGb.open_ (d := d4) (s := s2) (W := (withL W lE)) (by rw [hsm5.1]; exact hpg3) (hsm5.2.1.trans hdn3)
        have hsm7 := hsm5.trans hsm6
        refine Ls_call Try.func36 nm36 rfl rfl (BOpen_g w w70 _ b0 d4 hs ⟨by rw [hsm5.1]; exact hpg3.rows, by rw [hsm5.1, hpg3.n]; decide⟩ (by rw [hsm5.1, hpg3.n]; decide)) rfl ?_
        rintro v72 w73 ⟨p5, rfl, hs⟩
        simp only [ho5] at hs ⊢
        obtain ⟨bk5, hp5, h9⟩ := hs.boSome
        subst hp5
        replace hs := h9
        obtain ⟨s5, hs5⟩ : ∃ q, ({ s2 with ended := false } : BSt) = q := ⟨_, rfl⟩
        rw [hs5] at hs
        have hpg5 : PGb d5.bl s5 (withL W lE) := by rw [hsm7.1, ← hs5]; exact hpg3.ended false
        have hdn5 : d5.down = false := hsm7.2.1.trans hdn3
        have har5 : d5.armed = false := hsm7.2.2.trans har3
        have hen5 : s5.ended = false := by rw [← hs5]
        have hgn5 : s5.gen = s2.gen := by rw [← hs5]
        have hWb5 : ∀ x ∈ (withL W lE), IsBytes x := withL_bytes _ _ hWb (fun x hx => (hgE.2 x hx).2.1)
        refine Ls_run (run_move rfl) rfl ?_
        refine Ls_run (run_extract rfl rfl) rfl ?_
        refine Ls_run (run_extract rfl rfl) rfl ?_
        refine Ls_run (run_assign rfl) rfl ?_
        refine Ls_run (run_assign rfl) rfl ?_
        refine Ls_nil ?_
        refine Jm_seq ?_
        refine St_seq ?_
        refine St_seq ?_
        refine St_region ?_
        refine Ls_run (run_move rfl) rfl ?_
        refine Ls_run (run_asB (c := false) (run_neq rfl rfl) (by decide)) rfl ?_
        refine Ls_run (run_move rfl) rfl ?_
        refine Ls_on rfl rfl ?_
        refine Ls_run (run_move rfl) rfl ?_
        refine Ls_on rfl rfl ?_
        refine Ls_run (run_as (run_load_agg agg50 inf50 rfl (show (((SW (withL W lE)).drop 0).take 8).length = 8 by rw [SW_take (by rw [withL_len]; exact hWl), SW_len]; exact (by rw [withL_len]; exact hWl)) (hs.blk_cells 4 rfl 0 8)) (show _ = Value.agg (SW (withL W lE)).toArray by rw [SW_take (by rw [withL_len]; exact hWl)])) rfl ?_
        refine Ls_on rfl rfl ?_
        replace hs := hs.front 1 rfl
        simp only [List.cons_append, List.nil_append, List.eraseIdx_cons_zero, List.eraseIdx_cons_succ] at hs
        replace hs := hs.front 1 rfl
        simp only [List.cons_append, List.nil_append, List.eraseIdx_cons_zero, List.eraseIdx_cons_succ] at hs
        refine Ls_call Try.func30 nm30 rfl rfl (holds_c w w73 _ bk5 b0 s5 d5 (withL W lE) hs hpg5 hdn5 hen5 hWb5) rfl ?_
        rintro v74 w75 ⟨d6, rfl, hsmd6, hs⟩
        refine Ls_on rfl rfl ?_
        refine Ls_run (run_not rfl) rfl ?_
        refine Ls_run (run_pick_f rfl rfl) rfl ?_
        refine Ls_nil ?_
        refine Jm_seq ?_
        refine St_iff rfl ?_
        refine St_skip ?_
        refine Jm_seq ?_
        refine St_seq ?_
        refine St_region ?_
        refine Ls_run (run_move rfl) rfl ?_
        refine Ls_run (run_move rfl) rfl ?_
        replace hs := hs.front 1 rfl
        simp only [List.cons_append, List.nil_append, List.eraseIdx_cons_zero, List.eraseIdx_cons_succ] at hs
        replace hs := hs.front 1 rfl
        simp only [List.cons_append, List.nil_append, List.eraseIdx_cons_zero, List.eraseIdx_cons_succ] at hs
        obtain ⟨sZ, dZ, hbZ, hpgZ, hdnZ, harZ, henZ, hgnZ, _, _⟩ := (PGb.put (d := d6) (s := s5) (W := (withL W lE)) (by rw [hsmd6.1]; exact hpg5) (hsmd6.2.1.trans hdn5) hen5 (by omega) hgE.fit).resolve_right (fun ⟨_, _, _, _, _, h9, _⟩ => by rw [hsmd6.2.2.trans har5] at h9; cases h9)
        refine Ls_call Try.func26 nm26 rfl rfl (BPut_g w w75 _ bk5 b0 s5 d6 hs ⟨by rw [hsmd6.1]; exact hpg5.rows, by rw [hsmd6.1, hpg5.n]; decide⟩ (by rw [hsmd6.1, hpg5.n]; exact hpg5.inv) AE lE.length cE vE lE (fun w' X q => ((hpE.inB q).with_ (q.rd_at 4 rfl))) hgE.ok (by omega)) rfl ?_
        rintro v77 w78 ⟨rfl, hs⟩
        simp only [hbZ] at hs ⊢
        refine Ls_run (run_asB (c := true) (run_eql rfl rfl) (by decide)) rfl ?_
        refine Ls_run (run_move rfl) rfl ?_
        refine Ls_on rfl rfl ?_
        refine Ls_run (run_move rfl) rfl ?_
        refine Ls_on rfl rfl ?_
        refine Ls_run (run_as (run_load_agg agg50 inf50 rfl (show (((SW (withL W lE)).drop 0).take 8).length = 8 by rw [SW_take (by rw [withL_len]; exact hWl), SW_len]; exact (by rw [withL_len]; exact hWl)) (hs.blk_cells 4 rfl 0 8)) (show _ = Value.agg (SW (withL W lE)).toArray by rw [SW_take (by rw [withL_len]; exact hWl)])) rfl ?_
        refine Ls_on rfl rfl ?_
        refine Ls_run (run_move rfl) rfl ?_
        refine Ls_on rfl rfl ?_
        refine Ls_call Try.func27 nm27 rfl rfl (with_c w78 (withL W lE) (by rw [withL_len]; exact hWl) AE lE.length cE vE lE ((hpE.inB hs).with_ (hs.rd_at 5 rfl)) hgE.ok (fun x hx => (hgE.2 x hx).1) (by omega)) rfl ?_
        rintro v79 w80 ⟨rfl, hsW81⟩
        replace hs := hs.trans hsW81
        simp only [List.nil_append, List.cons_append] at hs
        refine Ls_on rfl rfl ?_
        replace hs := hs.front 1 rfl
        simp only [List.cons_append, List.nil_append, List.eraseIdx_cons_zero, List.eraseIdx_cons_succ] at hs
        replace hs := hs.front 1 rfl
        simp only [List.cons_append, List.nil_append, List.eraseIdx_cons_zero, List.eraseIdx_cons_succ] at hs
        refine Ls_call Try.func30 nm30 rfl rfl (holds_c w w80 _ bk5 b0 sZ dZ (withL (withL W lE) lE) hs hpgZ hdnZ henZ (withL_bytes _ _ hWb5 (fun x hx => (hgE.2 x hx).2.1))) rfl ?_
        rintro v82 w83 ⟨d7, rfl, hsmd7, hs⟩
        refine Ls_run (run_pick_t rfl rfl) rfl ?_
        refine Ls_run (run_assign rfl) rfl ?_
        refine Ls_nil ?_
        refine Jm_seq ?_
        refine St_ret ?_
        refine Jm_ret1 rfl rfl ?_
        exact ⟨_, rfl, rfl, hs.below⟩
  · skip
    refine Ls_off rfl rfl rfl rfl ?_
    refine Ls_off rfl rfl rfl rfl ?_
    refine Ls_run (run_pick_f rfl rfl) rfl ?_
    refine Ls_nil ?_
    refine Jm_seq ?_
    refine St_iff rfl ?_
    refine St_exit ?_
    refine Jm_then_exit (Jm_then_exit (Jm_block_same (Jm_seq ?_)))
    refine St_seq ?_
    refine St_region ?_
    refine Ls_run (run_move rfl) rfl ?_
    refine Ls_call Try.func25 nm25 rfl rfl (fit_c w wr hs.forget A1 n1 c1 vs1 ws1 hw1 hok1 hn1) rfl ?_
    rintro v85 w86 ⟨AE, cE, vE, rfl, hsE, hpE⟩
    have hgE := fitL_good hok1
    obtain ⟨lE, hlE⟩ : ∃ q, fitL ws1 = q := ⟨_, rfl⟩
    rw [hlE] at hsE hpE hgE ⊢
    replace hs := hs.trans hsE
    simp only [List.cons_append, List.nil_append] at hs
    have hnE := hgE.len
    refine Ls_run (run_assign rfl) rfl ?_
    refine Ls_nil ?_
    refine Jm_seq ?_
    refine St_seq ?_
    refine St_region ?_
    refine Ls_run (run_move rfl) rfl ?_
    obtain ⟨u, hu, hu2⟩ := u64_nat' ct
    refine Ls_run (run_as (run_conv_int Try.underlying57 us3 rfl rfl) (show _ = Value.int .u64 (u : Int) by rw [← hu])) rfl ?_
    refine Ls_run (run_as (run_rem rfl rfl (by decide) rfl) (show _ = Value.int .u64 ((u % 11 : Nat) : Int) by rw [← rem_nn' u 11]; rfl)) rfl ?_
    refine Ls_run (run_as (run_conv_int Try.underlying3 us57 rfl (w64 (by omega))) (show _ = Value.int .i64 ((u % 11 : Nat) : Int) from rfl)) rfl ?_
    refine Ls_run (run_assign rfl) rfl ?_
    refine Ls_nil ?_
    refine Jm_seq ?_
    refine St_seq ?_
    refine St_region ?_
    refine Ls_run (run_move rfl) rfl ?_
    refine Ls_run (run_move rfl) rfl ?_
    replace hs := hs.front 2 rfl
    simp only [List.cons_append, List.nil_append, List.eraseIdx_cons_zero, List.eraseIdx_cons_succ] at hs
    obtain ⟨vs0, A0, c0, hv0, hs⟩ := hs.dopen
    refine Ls_call Try.func32 nm32 rfl rfl (Cut_c w w86 _ b0 d A0 c0 hs ((u % 11 : Nat) : Int)) rfl ?_
    rintro v87 w88 ⟨rfl, hs⟩
    replace hs := Sat.dshut (s := dcut d ((u % 11 : Nat) : Int)) hv0 hs
    obtain ⟨d1, hd1⟩ : ∃ q, dcut d ((u % 11 : Nat) : Int) = q := ⟨_, rfl⟩
    have hpg1 : PGb d1.bl s W := by rw [← hd1]; exact hpg
    have hdn1 : d1.down = false := by rw [← hd1]; exact hdn
    rw [hd1] at hs
    refine Ls_nil ?_
    refine Jm_seq ?_
    refine St_seq ?_
    refine St_region ?_
    refine Ls_run (run_move rfl) rfl ?_
    refine Ls_run (run_move rfl) rfl ?_
    replace hs := hs.front 2 rfl
    simp only [List.cons_append, List.nil_append, List.eraseIdx_cons_zero, List.eraseIdx_cons_succ] at hs
    refine Ls_call Try.func26 nm26 rfl rfl (BPut_g w w88 _ bj b0 s d1 hs ⟨hpg1.rows, by rw [hpg1.n]; decide⟩ (by rw [hpg1.n]; exact hpg1.inv) AE lE.length cE vE lE (fun w' X q => ((hpE.inB q).with_ (q.rd_at 1 rfl))) hgE.ok (by omega)) rfl ?_
    rintro v89 w90 ⟨rfl, hs⟩
    obtain ⟨⟨e2, s2, d2⟩, hb2⟩ : ∃ q, bput dO (fun _ => 80) s d1 lE = q := ⟨_, rfl⟩
    simp only [hb2] at hs ⊢
    refine Ls_run (run_assign rfl) rfl ?_
    refine Ls_nil ?_
    refine Jm_seq ?_
    refine St_seq ?_
    refine St_seq ?_
    refine St_region ?_
    refine Ls_run (run_move rfl) rfl ?_
    refine Ls_run (run_eql rfl rfl) rfl ?_
    refine Ls_nil ?_
    refine Jm_seq ?_
    refine St_ifP rfl (fun h91 => ?_) (fun h91 => ?_)
    · skip
      have hF := cut_off hpg1 hdn1 hen (by omega) hgE.fit hb2 (by omega)
      obtain ⟨hF1, hF2, hF3, hF4⟩ := hF
      refine St_seq ?_
      refine St_region ?_
      refine Ls_run (run_move rfl) rfl ?_
      replace hs := hs.front 1 rfl
      simp only [List.cons_append, List.nil_append, List.eraseIdx_cons_zero, List.eraseIdx_cons_succ] at hs
      replace hs := hs.front 1 rfl
      simp only [List.cons_append, List.nil_append, List.eraseIdx_cons_zero, List.eraseIdx_cons_succ] at hs
      have hg66 : bget dO s2 d2 0 = ([], 80, s2, d2) := by rw [bget_80 (o := dO) (by rw [bend_end hF1]; exact hF1), bend_end hF1]
      refine Ls_call Try.func31 nm31 rfl rfl (BGet_g w w90 _ bj b0 s2 d2 hs ⟨hF3.rows, by rw [hF3.n]; decide⟩ (by have := hF4.l8; omega) 0) rfl ?_
      rintro v92 w93 ⟨Ag, cg, rfl, hs⟩
      simp only [hg66] at hs ⊢
      refine Ls_run (run_move rfl) rfl ?_
      refine Ls_run (run_extract rfl rfl) rfl ?_
      refine Ls_run (run_extract rfl rfl) rfl ?_
      refine Ls_run (run_assign rfl) rfl ?_
      refine Ls_run (run_assign rfl) rfl ?_
      refine Ls_nil ?_
      refine Jm_seq ?_
      refine St_seq ?_
      refine St_region ?_
      refine Ls_run (run_move rfl) rfl ?_
      obtain ⟨A6, c6, hq6⟩ := hs.bopen
      refine Ls_call Try.func33 nm33 rfl rfl (bEnded_c w93 bj _ s2 A6 c6 (hq6.is_at 0 rfl).2) rfl ?_
      rintro v94 w95 ⟨rfl, rfl⟩
      rw [hF1]
      refine Ls_run (run_not rfl) rfl ?_
      refine Ls_run (run_move rfl) rfl ?_
      refine Ls_on rfl rfl ?_
      refine Ls_run (run_move rfl) rfl ?_
      refine Ls_on rfl rfl ?_
      replace hs := hs.front 1 rfl
      simp only [List.cons_append, List.nil_append, List.eraseIdx_cons_zero, List.eraseIdx_cons_succ] at hs
      obtain ⟨A0, c0, hd0⟩ := hs.dhd
      refine Ls_call Try.func34 nm34 rfl rfl (Down_c w93 b0 d2 A0 c0 hd0) rfl ?_
      rintro v96 w97 ⟨rfl, rfl⟩
      rw [hF2]
      refine Ls_on rfl rfl ?_
      refine Ls_run (run_not rfl) rfl ?_
      refine Ls_run (run_pick_f rfl rfl) rfl ?_
      refine Ls_run (run_move rfl) rfl ?_
      refine Ls_on rfl rfl ?_
      refine Ls_run (run_move rfl) rfl ?_
      refine Ls_on rfl rfl ?_
      refine Ls_run (run_asB (c := false) (run_neq rfl rfl) (by decide)) rfl ?_
      refine Ls_run (run_pick_f rfl rfl) rfl ?_
      refine Ls_run (run_move rfl) rfl ?_
      refine Ls_on rfl rfl ?_
      refine Ls_run (run_move rfl) rfl ?_
      refine Ls_on rfl rfl ?_
      replace hs := hs.front 1 rfl
      simp only [List.cons_append, List.nil_append, List.eraseIdx_cons_zero, List.eraseIdx_cons_succ] at hs
      have hb83 : bput dO (fun _ => 80) s2 d2 [] = (80, s2, d2) := by rw [bput_80 (o := dO) (by rw [bend_end hF1]; exact hF1), bend_end hF1]
      refine Ls_call Try.func26 nm26 rfl rfl (BPut_g w w93 _ bj b0 s2 d2 hs ⟨hF3.rows, by rw [hF3.n]; decide⟩ (by rw [hF3.n]; exact hF4) none 0 0 [] [] (fun w' X q => PWs.none_ w') (by simp [PWok]) (by decide)) rfl ?_
      rintro v98 w99 ⟨rfl, hs⟩
      simp only [hb83] at hs ⊢
      refine Ls_on rfl rfl ?_
      refine Ls_run (run_asB (c := false) (run_neq rfl rfl) (by decide)) rfl ?_
      refine Ls_run (run_pick_f rfl rfl) rfl ?_
      refine Ls_nil ?_
      refine Jm_seq ?_
      refine St_iff rfl ?_
      refine St_skip ?_
      refine Jm_seq ?_
      refine St_seq ?_
      refine St_region ?_
      refine Ls_run (run_move rfl) rfl ?_
      replace hs := hs.front 1 rfl
      simp only [List.cons_append, List.nil_append, List.eraseIdx_cons_zero, List.eraseIdx_cons_succ] at hs
      obtain ⟨vs0, A0, c0, hv0, hs⟩ := hs.dopen
      refine Ls_call Try.func35 nm35 rfl rfl (On_c w w99 _ b0 d2 A0 c0 hs) rfl ?_
      rintro v101 w102 ⟨rfl, hs⟩
      replace hs := Sat.dshut (s := don d2) hv0 hs
      obtain ⟨d3, hd3⟩ : ∃ q, don d2 = q := ⟨_, rfl⟩
      have hpg3 : PGb d3.bl s W := by rw [← hd3]; exact hF3
      have hdn3 : d3.down = false := by rw [← hd3]; rfl
      have har3 : d3.armed = false := by rw [← hd3]; rfl
      rw [hd3] at hs
      refine Ls_nil ?_
      refine Jm_seq ?_
      refine St_seq ?_
      refine St_region ?_
      refine Ls_run (run_move rfl) rfl ?_
      replace hs := hs.front 1 rfl
      simp only [List.cons_append, List.nil_append, List.eraseIdx_cons_zero, List.eraseIdx_cons_succ] at hs
      have hg99 : bget dO s2 d3 0 = ([], 80, s2, d3) := by rw [bget_80 (o := dO) (by rw [bend_end hF1]; exact hF1), bend_end hF1]
      have hsm4 : SameD d3 d3 := SameD.refl _
      refine Ls_call Try.func31 nm31 rfl rfl (BGet_g w w102 _ bj b0 s2 d3 hs ⟨hpg3.rows, by rw [hpg3.n]; decide⟩ (by have := hF4.l8; omega) 0) rfl ?_
      rintro v103 w104 ⟨Ag2, cg2, rfl, hs⟩
      simp only [hg99] at hs ⊢
      obtain ⟨d4, hd4⟩ : ∃ q, d3 = q := ⟨_, rfl⟩
      have hsm5 : SameD d3 d4 := by rw [← hd4]; exact hsm4
      have hs9 := hs
      rw [hd4] at hs9
      clear hs
      have hs := hs9
      clear hs9
      refine Ls_run (run_move rfl) rfl ?_
      refine Ls_run (run_extract rfl rfl) rfl ?_
      refine Ls_run (run_extract rfl rfl) rfl ?_
      refine Ls_run (run_assign rfl) rfl ?_
      refine Ls_run (run_assign rfl) rfl ?_
      refine Ls_nil ?_
      refine Jm_seq ?_
      refine St_seq ?_
      refine St_seq ?_
      refine St_region ?_
      refine Ls_run (run_move rfl) rfl ?_
      refine Ls_run (run_asB (c := true) (run_eql rfl rfl) (by decide)) rfl ?_
      refine Ls_run (run_move rfl) rfl ?_
      refine Ls_run (run_asB (c := true) (run_eql rfl rfl) (by rw [decide_eq_true_eq]; assumption)) rfl ?_
      refine Ls_run (run_asB (c := false) (run_neq_bool Try.underlying4 rfl rfl) (by decide)) rfl ?_
      refine Ls_nil ?_
      refine Jm_seq ?_
      refine St_iff rfl ?_
      refine St_skip ?_
      refine Jm_seq ?_
      refine St_seq ?_
      refine St_region ?_
      refine Ls_run (run_move rfl) rfl ?_
      replace hs := hs.front 1 rfl
      simp only [List.cons_append, List.nil_append, List.eraseIdx_cons_zero, List.eraseIdx_cons_succ] at hs
      obtain ⟨d5, ho5, hsm6⟩ := PGb.open_ (d := d4) (s := s) (W := W) (by rw [hsm5.1]; exact hpg3) (hsm5.2.1.trans hdn3)
      have hsm7 := hsm5.trans hsm6
      refine Ls_call Try.func36 nm36 rfl rfl (BOpen_g w w104 _ b0 d4 hs ⟨by rw [hsm5.1]; exact hpg3.rows, by rw [hsm5.1, hpg3.n]; decide⟩ (by rw [hsm5.1, hpg3.n]; decide)) rfl ?_
      rintro v106 w107 ⟨p5, rfl, hs⟩
      simp only [ho5] at hs ⊢
      obtain ⟨bk5, hp5, h9⟩ := hs.boSome
      subst hp5
      replace hs := h9
      obtain ⟨s5, hs5⟩ : ∃ q, ({ s with ended := false } : BSt) = q := ⟨_, rfl⟩
      rw [hs5] at hs
      have hpg5 : PGb d5.bl s5 W := by rw [hsm7.1, ← hs5]; exact hpg3.ended false
      have hdn5 : d5.down = false := hsm7.2.1.trans hdn3
      have har5 : d5.armed = false := hsm7.2.2.trans har3
      have hen5 : s5.ended = false := by rw [← hs5]
      have hgn5 : s5.gen = s.gen := by rw [← hs5]
      have hWb5 : ∀ x ∈ W, IsBytes x := hWb
      refine Ls_run (run_move rfl) rfl ?_
      refine Ls_run (run_extract rfl rfl) rfl ?_
      refine Ls_run (run_extract rfl rfl) rfl ?_
      refine Ls_run (run_assign rfl) rfl ?_
      refine Ls_run (run_assign rfl) rfl ?_
      refine Ls_nil ?_
      refine Jm_seq ?_
      refine St_seq ?_
      refine St_seq ?_
      refine St_region ?_
      refine Ls_run (run_move rfl) rfl ?_
      refine Ls_run (run_asB (c := false) (run_neq rfl rfl) (by decide)) rfl ?_
      refine Ls_run (run_move rfl) rfl ?_
      refine Ls_on rfl rfl ?_
      refine Ls_run (run_move rfl) rfl ?_
      refine Ls_on rfl rfl ?_
      refine Ls_run (run_as (run_load_agg agg50 inf50 rfl (show (((SW W).drop 0).take 8).length = 8 by rw [SW_take hWl, SW_len]; exact hWl) (hs.blk_cells 6 rfl 0 8)) (show _ = Value.agg (SW W).toArray by rw [SW_take hWl])) rfl ?_
      refine Ls_on rfl rfl ?_
      replace hs := hs.front 1 rfl
      simp only [List.cons_append, List.nil_append, List.eraseIdx_cons_zero, List.eraseIdx_cons_succ] at hs
      replace hs := hs.front 1 rfl
      simp only [List.cons_append, List.nil_append, List.eraseIdx_cons_zero, List.eraseIdx_cons_succ] at hs
      refine Ls_call Try.func30 nm30 rfl rfl (holds_c w w107 _ bk5 b0 s5 d5 W hs hpg5 hdn5 hen5 hWb5) rfl ?_
      rintro v108 w109 ⟨d6, rfl, hsmd6, hs⟩
      refine Ls_on rfl rfl ?_
      refine Ls_run (run_not rfl) rfl ?_
      refine Ls_run (run_pick_f rfl rfl) rfl ?_
      refine Ls_nil ?_
      refine Jm_seq ?_
      refine St_iff rfl ?_
      refine St_skip ?_
      refine Jm_seq ?_
      refine St_seq ?_
      refine St_region ?_
      refine Ls_run (run_move rfl) rfl ?_
      refine Ls_run (run_move rfl) rfl ?_
      replace hs := hs.front 1 rfl
      simp only [List.cons_append, List.nil_append, List.eraseIdx_cons_zero, List.eraseIdx_cons_succ] at hs
      replace hs := hs.front 1 rfl
      simp only [List.cons_append, List.nil_append, List.eraseIdx_cons_zero, List.eraseIdx_cons_succ] at hs
      obtain ⟨sZ, dZ, hbZ, hpgZ, hdnZ, harZ, henZ, hgnZ, _, _⟩ := (PGb.put (d := d6) (s := s5) (W := W) (by rw [hsmd6.1]; exact hpg5) (hsmd6.2.1.trans hdn5) hen5 (by omega) hgE.fit).resolve_right (fun ⟨_, _, _, _, _, h9, _⟩ => by rw [hsmd6.2.2.trans har5] at h9; cases h9)
      refine Ls_call Try.func26 nm26 rfl rfl (BPut_g w w109 _ bk5 b0 s5 d6 hs ⟨by rw [hsmd6.1]; exact hpg5.rows, by rw [hsmd6.1, hpg5.n]; decide⟩ (by rw [hsmd6.1, hpg5.n]; exact hpg5.inv) AE lE.length cE vE lE (fun w' X q => ((hpE.inB q).with_ (q.rd_at 4 rfl))) hgE.ok (by omega)) rfl ?_
      rintro v111 w112 ⟨rfl, hs⟩
      simp only [hbZ] at hs ⊢
      refine Ls_run (run_asB (c := true) (run_eql rfl rfl) (by decide)) rfl ?_
      refine Ls_run (run_move rfl) rfl ?_
      refine Ls_on rfl rfl ?_
      refine Ls_run (run_move rfl) rfl ?_
      refine Ls_on rfl rfl ?_
      refine Ls_run (run_as (run_load_agg agg50 inf50 rfl (show (((SW W).drop 0).take 8).length = 8 by rw [SW_take hWl, SW_len]; exact hWl) (hs.blk_cells 6 rfl 0 8)) (show _ = Value.agg (SW W).toArray by rw [SW_take hWl])) rfl ?_
      refine Ls_on rfl rfl ?_
      refine Ls_run (run_move rfl) rfl ?_
      refine Ls_on rfl rfl ?_
      refine Ls_call Try.func27 nm27 rfl rfl (with_c w112 W hWl AE lE.length cE vE lE ((hpE.inB hs).with_ (hs.rd_at 5 rfl)) hgE.ok (fun x hx => (hgE.2 x hx).1) (by omega)) rfl ?_
      rintro v113 w114 ⟨rfl, hsW115⟩
      replace hs := hs.trans hsW115
      simp only [List.nil_append, List.cons_append] at hs
      refine Ls_on rfl rfl ?_
      replace hs := hs.front 1 rfl
      simp only [List.cons_append, List.nil_append, List.eraseIdx_cons_zero, List.eraseIdx_cons_succ] at hs
      replace hs := hs.front 1 rfl
      simp only [List.cons_append, List.nil_append, List.eraseIdx_cons_zero, List.eraseIdx_cons_succ] at hs
      refine Ls_call Try.func30 nm30 rfl rfl (holds_c w w114 _ bk5 b0 sZ dZ (withL W lE) hs hpgZ hdnZ henZ (withL_bytes _ _ hWb5 (fun x hx => (hgE.2 x hx).2.1))) rfl ?_
      rintro v116 w117 ⟨d7, rfl, hsmd7, hs⟩
      refine Ls_run (run_pick_t rfl rfl) rfl ?_
      refine Ls_run (run_assign rfl) rfl ?_
      refine Ls_nil ?_
      refine Jm_seq ?_
      refine St_ret ?_
      refine Jm_ret1 rfl rfl ?_
      exact ⟨_, rfl, rfl, hs.below⟩
    · skip
      have hF := cut_on hpg1 hdn1 hen (by omega) hgE.fit hb2 (by omega)
      obtain ⟨he0, hF3, hF2, hF1, hF5⟩ := hF
      subst he0
      refine St_seq ?_
      refine St_region ?_
      refine Ls_run (run_as (run_load_agg agg50 inf50 rfl (show (((SW W).drop 0).take 8).length = 8 by rw [SW_take hWl, SW_len]; exact hWl) (hs.blk_cells 3 rfl 0 8)) (show _ = Value.agg (SW W).toArray by rw [SW_take hWl])) rfl ?_
      refine Ls_run (run_move rfl) rfl ?_
      refine Ls_call Try.func27 nm27 rfl rfl (with_c w90 W hWl AE lE.length cE vE lE ((hpE.inB hs).with_ (hs.rd_at 2 rfl)) hgE.ok (fun x hx => (hgE.2 x hx).1) (by omega)) rfl ?_
      rintro v118 w119 ⟨rfl, hsW120⟩
      replace hs := hs.trans hsW120
      simp only [List.nil_append, List.cons_append] at hs
      replace hs := hs.front 3 rfl
      simp only [List.cons_append, List.nil_append, List.eraseIdx_cons_zero, List.eraseIdx_cons_succ] at hs
      refine Ls_storeAgg hs inf50 rfl rfl (by rw [SW_len, withL_len]; exact hWl) (by first | rfl | (rw [SW_len]; exact hWl)) (SW_one _) ?_
      intro w121 hs
      refine Ls_nil ?_
      refine Jm_seq ?_
      refine St_seq ?_
      refine St_region ?_
      refine Ls_run (run_move rfl) rfl ?_
      refine Ls_run (run_asB (c := false) (run_neq rfl rfl) (by decide)) rfl ?_
      refine Ls_run (run_move rfl) rfl ?_
      refine Ls_on rfl rfl ?_
      refine Ls_run (run_move rfl) rfl ?_
      refine Ls_on rfl rfl ?_
      replace hs := hs.front 2 rfl
      simp only [List.cons_append, List.nil_append, List.eraseIdx_cons_zero, List.eraseIdx_cons_succ] at hs
      obtain ⟨A0, c0, hd0⟩ := hs.dhd
      refine Ls_call Try.func34 nm34 rfl rfl (Down_c w121 b0 d2 A0 c0 hd0) rfl ?_
      rintro v122 w123 ⟨rfl, rfl⟩
      rw [hF2]
      refine Ls_run (run_pick_f rfl rfl) rfl ?_
      refine Ls_nil ?_
      refine Jm_seq ?_
      refine St_iff rfl ?_
      refine St_skip ?_
      refine Jm_seq ?_
      refine St_seq ?_
      refine St_region ?_
      refine Ls_run (run_move rfl) rfl ?_
      obtain ⟨vs0, A0, c0, hv0, hs⟩ := hs.dopen
      refine Ls_call Try.func35 nm35 rfl rfl (On_c w w121 _ b0 d2 A0 c0 hs) rfl ?_
      rintro v125 w126 ⟨rfl, hs⟩
      replace hs := Sat.dshut (s := don d2) hv0 hs
      obtain ⟨d3, hd3⟩ : ∃ q, don d2 = q := ⟨_, rfl⟩
      have hpg3 : PGb d3.bl s2 (withL W lE) := by rw [← hd3]; exact hF3
      have hdn3 : d3.down = false := by rw [← hd3]; rfl
      have har3 : d3.armed = false := by rw [← hd3]; rfl
      rw [hd3] at hs
      refine Ls_nil ?_
      refine Jm_seq ?_
      refine St_seq ?_
      refine St_region ?_
      refine Ls_run (run_move rfl) rfl ?_
      replace hs := hs.front 2 rfl
      simp only [List.cons_append, List.nil_append, List.eraseIdx_cons_zero, List.eraseIdx_cons_succ] at hs
      obtain ⟨d4, hg99, hsm5⟩ := PGb.get (p := 0) hpg3 hdn3 hF1 (by decide)
      have hg99b : bget dO s2 d3 0 = ((withL W lE).getD 0 [], 0, s2, d4) := hg99
      refine Ls_call Try.func31 nm31 rfl rfl (BGet_g w w126 _ bj b0 s2 d3 hs ⟨hpg3.rows, by rw [hpg3.n]; decide⟩ (by rw [hpg3.l8]; decide) 0) rfl ?_
      rintro v127 w128 ⟨Ag2, cg2, rfl, hs⟩
      simp only [hg99b] at hs ⊢
      have hs9 := hs
      clear hs
      have hs := hs9
      clear hs9
      refine Ls_run (run_move rfl) rfl ?_
      refine Ls_run (run_extract rfl rfl) rfl ?_
      refine Ls_run (run_extract rfl rfl) rfl ?_
      refine Ls_run (run_assign rfl) rfl ?_
      refine Ls_run (run_assign rfl) rfl ?_
      refine Ls_nil ?_
      refine Jm_seq ?_
      refine St_seq ?_
      refine St_seq ?_
      refine St_region ?_
      refine Ls_run (run_move rfl) rfl ?_
      refine Ls_run (run_asB (c := false) (run_eql rfl rfl) (by decide)) rfl ?_
      refine Ls_run (run_move rfl) rfl ?_
      refine Ls_run (run_asB (c := false) (run_eql rfl rfl) (by decide)) rfl ?_
      refine Ls_run (run_asB (c := false) (run_neq_bool Try.underlying4 rfl rfl) (by decide)) rfl ?_
      refine Ls_nil ?_
      refine Jm_seq ?_
      refine St_iff rfl ?_
      refine St_skip ?_
      refine Jm_seq ?_
      refine St_seq ?_
      refine St_region ?_
      refine Ls_run (run_move rfl) rfl ?_
      replace hs := hs.front 1 rfl
      simp only [List.cons_append, List.nil_append, List.eraseIdx_cons_zero, List.eraseIdx_cons_succ] at hs
      obtain ⟨d5, ho5, hsm6⟩ := PGb.open_ (d := d4) (s := s2) (W := (withL W lE)) (by rw [hsm5.1]; exact hpg3) (hsm5.2.1.trans hdn3)
      have hsm7 := hsm5.trans hsm6
      refine Ls_call Try.func36 nm36 rfl rfl (BOpen_g w w128 _ b0 d4 hs ⟨by rw [hsm5.1]; exact hpg3.rows, by rw [hsm5.1, hpg3.n]; decide⟩ (by rw [hsm5.1, hpg3.n]; decide)) rfl ?_
      rintro v130 w131 ⟨p5, rfl, hs⟩
      simp only [ho5] at hs ⊢
      obtain ⟨bk5, hp5, h9⟩ := hs.boSome
      subst hp5
      replace hs := h9
      obtain ⟨s5, hs5⟩ : ∃ q, ({ s2 with ended := false } : BSt) = q := ⟨_, rfl⟩
      rw [hs5] at hs
      have hpg5 : PGb d5.bl s5 (withL W lE) := by rw [hsm7.1, ← hs5]; exact hpg3.ended false
      have hdn5 : d5.down = false := hsm7.2.1.trans hdn3
      have har5 : d5.armed = false := hsm7.2.2.trans har3
      have hen5 : s5.ended = false := by rw [← hs5]
      have hgn5 : s5.gen = s2.gen := by rw [← hs5]
      have hWb5 : ∀ x ∈ (withL W lE), IsBytes x := withL_bytes _ _ hWb (fun x hx => (hgE.2 x hx).2.1)
      refine Ls_run (run_move rfl) rfl ?_
      refine Ls_run (run_extract rfl rfl) rfl ?_
      refine Ls_run (run_extract rfl rfl) rfl ?_
      refine Ls_run (run_assign rfl) rfl ?_
      refine Ls_run (run_assign rfl) rfl ?_
      refine Ls_nil ?_
      refine Jm_seq ?_
      refine St_seq ?_
      refine St_seq ?_
      refine St_region ?_
      refine Ls_run (run_move rfl) rfl ?_
      refine Ls_run (run_asB (c := false) (run_neq rfl rfl) (by decide)) rfl ?_
      refine Ls_run (run_move rfl) rfl ?_
      refine Ls_on rfl rfl ?_
      refine Ls_run (run_move rfl) rfl ?_
      refine Ls_on rfl rfl ?_
      refine Ls_run (run_as (run_load_agg agg50 inf50 rfl (show (((SW (withL W lE)).drop 0).take 8).length = 8 by rw [SW_take (by rw [withL_len]; exact hWl), SW_len]; exact (by rw [withL_len]; exact hWl)) (hs.blk_cells 4 rfl 0 8)) (show _ = Value.agg (SW (withL W lE)).toArray by rw [SW_take (by rw [withL_len]; exact hWl)])) rfl ?_
      refine Ls_on rfl rfl ?_
      replace hs := hs.front 1 rfl
      simp only [List.cons_append, List.nil_append, List.eraseIdx_cons_zero, List.eraseIdx_cons_succ] at hs
      replace hs := hs.front 1 rfl
      simp only [List.cons_append, List.nil_append, List.eraseIdx_cons_zero, List.eraseIdx_cons_succ] at hs
      refine Ls_call Try.func30 nm30 rfl rfl (holds_c w w131 _ bk5 b0 s5 d5 (withL W lE) hs hpg5 hdn5 hen5 hWb5) rfl ?_
      rintro v132 w133 ⟨d6, rfl, hsmd6, hs⟩
      refine Ls_on rfl rfl ?_
      refine Ls_run (run_not rfl) rfl ?_
      refine Ls_run (run_pick_f rfl rfl) rfl ?_
      refine Ls_nil ?_
      refine Jm_seq ?_
      refine St_iff rfl ?_
      refine St_skip ?_
      refine Jm_seq ?_
      refine St_seq ?_
      refine St_region ?_
      refine Ls_run (run_move rfl) rfl ?_
      refine Ls_run (run_move rfl) rfl ?_
      replace hs := hs.front 1 rfl
      simp only [List.cons_append, List.nil_append, List.eraseIdx_cons_zero, List.eraseIdx_cons_succ] at hs
      replace hs := hs.front 1 rfl
      simp only [List.cons_append, List.nil_append, List.eraseIdx_cons_zero, List.eraseIdx_cons_succ] at hs
      obtain ⟨sZ, dZ, hbZ, hpgZ, hdnZ, harZ, henZ, hgnZ, _, _⟩ := (PGb.put (d := d6) (s := s5) (W := (withL W lE)) (by rw [hsmd6.1]; exact hpg5) (hsmd6.2.1.trans hdn5) hen5 (by omega) hgE.fit).resolve_right (fun ⟨_, _, _, _, _, h9, _⟩ => by rw [hsmd6.2.2.trans har5] at h9; cases h9)
      refine Ls_call Try.func26 nm26 rfl rfl (BPut_g w w133 _ bk5 b0 s5 d6 hs ⟨by rw [hsmd6.1]; exact hpg5.rows, by rw [hsmd6.1, hpg5.n]; decide⟩ (by rw [hsmd6.1, hpg5.n]; exact hpg5.inv) AE lE.length cE vE lE (fun w' X q => ((hpE.inB q).with_ (q.rd_at 4 rfl))) hgE.ok (by omega)) rfl ?_
      rintro v135 w136 ⟨rfl, hs⟩
      simp only [hbZ] at hs ⊢
      refine Ls_run (run_asB (c := true) (run_eql rfl rfl) (by decide)) rfl ?_
      refine Ls_run (run_move rfl) rfl ?_
      refine Ls_on rfl rfl ?_
      refine Ls_run (run_move rfl) rfl ?_
      refine Ls_on rfl rfl ?_
      refine Ls_run (run_as (run_load_agg agg50 inf50 rfl (show (((SW (withL W lE)).drop 0).take 8).length = 8 by rw [SW_take (by rw [withL_len]; exact hWl), SW_len]; exact (by rw [withL_len]; exact hWl)) (hs.blk_cells 4 rfl 0 8)) (show _ = Value.agg (SW (withL W lE)).toArray by rw [SW_take (by rw [withL_len]; exact hWl)])) rfl ?_
      refine Ls_on rfl rfl ?_
      refine Ls_run (run_move rfl) rfl ?_
      refine Ls_on rfl rfl ?_
      refine Ls_call Try.func27 nm27 rfl rfl (with_c w136 (withL W lE) (by rw [withL_len]; exact hWl) AE lE.length cE vE lE ((hpE.inB hs).with_ (hs.rd_at 5 rfl)) hgE.ok (fun x hx => (hgE.2 x hx).1) (by omega)) rfl ?_
      rintro v137 w138 ⟨rfl, hsW139⟩
      replace hs := hs.trans hsW139
      simp only [List.nil_append, List.cons_append] at hs
      refine Ls_on rfl rfl ?_
      replace hs := hs.front 1 rfl
      simp only [List.cons_append, List.nil_append, List.eraseIdx_cons_zero, List.eraseIdx_cons_succ] at hs
      replace hs := hs.front 1 rfl
      simp only [List.cons_append, List.nil_append, List.eraseIdx_cons_zero, List.eraseIdx_cons_succ] at hs
      refine Ls_call Try.func30 nm30 rfl rfl (holds_c w w138 _ bk5 b0 sZ dZ (withL (withL W lE) lE) hs hpgZ hdnZ henZ (withL_bytes _ _ hWb5 (fun x hx => (hgE.2 x hx).2.1))) rfl ?_
      rintro v140 w141 ⟨d7, rfl, hsmd7, hs⟩
      refine Ls_run (run_pick_t rfl rfl) rfl ?_
      refine Ls_run (run_assign rfl) rfl ?_
      refine Ls_nil ?_
      refine Jm_seq ?_
      refine St_ret ?_
      refine Jm_ret1 rfl rfl ?_
      exact ⟨_, rfl, rfl, hs.below⟩
end Go.Proofs.Ytipkfdeiallifaa.Lg
