/-
  Pages: the reference's Put. By program (gen/pg6.py).
-/
import Derived.Test.YtipkfdeiallifaaPg5
set_option linter.unusedVariables false
set_option linter.unusedSimpArgs false
namespace Go.Proofs.Ytipkfdeiallifaa.Lg
open Go Go.RowKit Go.Proofs.Ytipkfdeiallifaa.WirePure
set_option maxRecDepth 100000 in
set_option maxHeartbeats 1000000 in
theorem rBPut_g (B w : World) (L : List Assn) (bj b : Nat) (s : BSt) (d : RSt) (hs : Sat B w (QA 138 3 bj (some ⟨b, 0, none⟩) s :: RefA 135 28 5 b d :: L)) (hdok : ROk d) (hbi : BInv s d.bl.length) (A : Option Addr) (n c : Nat) (vs : List KWt) (ws : List Wr) (hr : ∀ w' X, Sat B w' (X :: L) → PWs w' A n c vs ws) (hok : PWok ws) (hn : n ≤ 9223372036854775806) :
    Calls Try.prog 42 [.pointer (some ⟨bj, 0, none⟩), .slice A n c].toArray w (Ret (fun v' w' => v' = .int .i64 (bput rO (fun e => e) s d ws).1 ∧ Sat B w' (QA 138 3 bj (some ⟨b, 0, none⟩) (bput rO (fun e => e) s d ws).2.1 :: RefA 135 28 5 b (bput rO (fun e => e) s d ws).2.2 :: L))) := by
  have hwn := (Sat.rdL0 (pre := [_, _]) hr hs).n
  obtain ⟨Ab, cb, hs⟩ := hs.qopen
  have hl8 := hbi.l8
  have hl1 := hbi.l1
  have hrm := hbi.room
  have hd64 := hdok.2.1
  have hg1 := hbi.g1
  have hpos : ∀ x ∈ s.tb, 0 ≤ x ∧ x ≤ 64 := fun x hx => by have := tabOk_pos hbi.tab (by omega) x hx; omega
  have ebn : (bend rO s d).tb.length = s.tb.length := rfl
  have ebg : (bend rO s d).gen = s.gen := rfl
  have ebs : (bend rO s d).slot = s.slot := rfl
  have hslt := hbi.slot
  refine Calls_body Try.func42 rfl rfl rfl (envE_cons (i := 0) (v := .pointer (some ⟨bj, 0, none⟩)) rfl (envE_cons (i := 1) (v := .slice A n c) rfl envE_nil)) ?_
  refine St_seq ?_
  refine St_region ?_
  refine Ls_run (run_assign rfl) rfl ?_
  refine Ls_nil ?_
  refine Jm_seq ?_
  refine St_seq ?_
  refine St_seq ?_
  refine St_region ?_
  refine Ls_run (run_move rfl) rfl ?_
  refine Ls_run (run_asB (c := false) (run_eql_ptr_nil Try.underlying74 rfl rfl) rfl) rfl ?_
  refine Ls_nil ?_
  refine Jm_seq ?_
  refine St_iff rfl ?_
  refine St_skip ?_
  refine Jm_seq ?_
  refine St_seq ?_
  refine St_seq ?_
  refine St_region ?_
  refine Ls_run (run_move rfl) rfl ?_
  replace hs := hs.front 2 rfl
  simp only [List.cons_append, List.nil_append, List.eraseIdx_cons_zero, List.eraseIdx_cons_succ] at hs
  replace hs := hs.front 1 rfl
  simp only [List.cons_append, List.nil_append, List.eraseIdx_cons_zero, List.eraseIdx_cons_succ] at hs
  refine Ls_call Try.func100 nm100 rfl rfl (qdown_c B w _ bj b s d Ab cb hs) rfl ?_
  rintro v2 w3 ⟨rfl, hs⟩
  refine Ls_nil ?_
  refine Jm_seq ?_
  refine St_if rfl (fun h4 => ?_) (fun h4 => ?_)
  · skip
    have hen : (bend rO s d).ended = true := h4
    refine St_seq ?_
    refine St_region ?_
    refine Ls_run (run_assign rfl) rfl ?_
    refine Ls_nil ?_
    refine Jm_seq ?_
    refine St_ret ?_
    refine Jm_then_ret  ?_
    refine Jm_ret1 rfl rfl ?_
    replace hs := hs.front 1 rfl
    simp only [List.cons_append, List.nil_append, List.eraseIdx_cons_zero, List.eraseIdx_cons_succ] at hs
    replace hs := hs.front 2 rfl
    simp only [List.cons_append, List.nil_append, List.eraseIdx_cons_zero, List.eraseIdx_cons_succ] at hs
    replace hs := hs.front 2 rfl
    simp only [List.cons_append, List.nil_append, List.eraseIdx_cons_zero, List.eraseIdx_cons_succ] at hs
    rw [bput_80 hen]
    exact ⟨_, rfl, rfl, Sat.qshut (s := bend rO s d) hs⟩
  · skip
    have hen : ¬ (bend rO s d).ended = true := by rw [h4]; simp
    refine St_skip ?_
    refine Jm_seq ?_
    refine St_seq ?_
    refine St_seq ?_
    refine St_region ?_
    refine Ls_run (run_move rfl) rfl ?_
    refine Ls_run (run_move rfl) rfl ?_
    refine Ls_call Try.func101 nm101 rfl rfl (bad_c w3 bj (some ⟨b, 0, none⟩) (bend rO s d) Ab cb (hs.is_at 0 rfl).2 A n c vs ws (Sat.rdL0 (pre := [_, _, _]) hr hs) hok hn) rfl ?_
    rintro v5 w6 ⟨rfl, rfl⟩
    rw [ebn]
    refine Ls_run (run_assign rfl) rfl ?_
    refine Ls_nil ?_
    refine Jm_seq ?_
    refine St_seq ?_
    refine St_region ?_
    refine Ls_run (run_move rfl) rfl ?_
    refine Ls_run (run_neq rfl rfl) rfl ?_
    refine Ls_run (run_move rfl) rfl ?_
    refine Ls_partP (t := 21) rfl (fun h7 => ?_) (fun h7 => ?_)
    · skip
      refine Ls_off rfl rfl rfl rfl ?_
      refine Ls_off rfl rfl rfl rfl ?_
      refine Ls_off rfl rfl rfl rfl ?_
      refine Ls_run (run_pick_t rfl rfl) rfl ?_
      refine Ls_nil ?_
      refine Jm_seq ?_
      refine St_ift rfl ?_
      refine St_seq ?_
      refine St_region ?_
      refine Ls_run (run_move rfl) rfl ?_
      refine Ls_run (run_assign rfl) rfl ?_
      refine Ls_nil ?_
      refine Jm_seq ?_
      refine St_ret ?_
      refine Jm_then_ret  ?_
      refine Jm_ret1 rfl rfl ?_
      replace hs := hs.front 1 rfl
      simp only [List.cons_append, List.nil_append, List.eraseIdx_cons_zero, List.eraseIdx_cons_succ] at hs
      replace hs := hs.front 2 rfl
      simp only [List.cons_append, List.nil_append, List.eraseIdx_cons_zero, List.eraseIdx_cons_succ] at hs
      replace hs := hs.front 2 rfl
      simp only [List.cons_append, List.nil_append, List.eraseIdx_cons_zero, List.eraseIdx_cons_succ] at hs
      rw [bput_e hen (.inl (by assumption))]
      exact ⟨_, rfl, rfl, Sat.qshut (s := bend rO s d) hs⟩
    · skip
      refine Ls_on rfl rfl ?_
      refine Ls_run (run_move rfl) rfl ?_
      refine Ls_on rfl rfl ?_
      refine Ls_run (run_len Try.underlying51 rfl) rfl ?_
      refine Ls_on rfl rfl ?_
      refine Ls_run (run_eql rfl rfl) rfl ?_
      refine Ls_run (run_pick_f rfl rfl) rfl ?_
      refine Ls_nil ?_
      refine Jm_seq ?_
      refine St_ifP rfl (fun h9 => ?_) (fun h9 => ?_)
      · skip
        refine St_seq ?_
        refine St_region ?_
        refine Ls_run (run_move rfl) rfl ?_
        refine Ls_run (run_assign rfl) rfl ?_
        refine Ls_nil ?_
        refine Jm_seq ?_
        refine St_ret ?_
        refine Jm_then_ret  ?_
        refine Jm_ret1 rfl rfl ?_
        replace hs := hs.front 1 rfl
        simp only [List.cons_append, List.nil_append, List.eraseIdx_cons_zero, List.eraseIdx_cons_succ] at hs
        replace hs := hs.front 2 rfl
        simp only [List.cons_append, List.nil_append, List.eraseIdx_cons_zero, List.eraseIdx_cons_succ] at hs
        replace hs := hs.front 2 rfl
        simp only [List.cons_append, List.nil_append, List.eraseIdx_cons_zero, List.eraseIdx_cons_succ] at hs
        rw [bput_e hen (.inr (List.eq_nil_of_length_eq_zero (by omega)))]
        exact ⟨_, rfl, rfl, Sat.qshut (s := bend rO s d) hs⟩
      · skip
        refine St_skip ?_
        refine Jm_seq ?_
        refine St_seq ?_
        refine St_seq ?_
        refine St_region ?_
        refine Ls_run (run_move rfl) rfl ?_
        refine Ls_run (run_nilCheck rfl) rfl ?_
        refine Ls_run (run_as (run_field Try.underlying138 rfl inf3 (by decide) rfl) (show _ = Value.pointer (some ⟨bj, 2, none⟩) from rfl)) rfl ?_
        refine Ls_run (run_load sc3 rfl (hs.blk_at 0 rfl 2 rfl)) rfl ?_
        refine Ls_run (run_geq rfl rfl) rfl ?_
        refine Ls_nil ?_
        refine Jm_seq ?_
        refine St_ifP rfl (fun h10 => ?_) (fun h10 => ?_)
        · skip
          refine St_seq ?_
          refine St_region ?_
          refine Ls_run (run_assign rfl) rfl ?_
          refine Ls_nil ?_
          refine Jm_seq ?_
          refine St_ret ?_
          refine Jm_then_ret  ?_
          refine Jm_ret1 rfl rfl ?_
          replace hs := hs.front 1 rfl
          simp only [List.cons_append, List.nil_append, List.eraseIdx_cons_zero, List.eraseIdx_cons_succ] at hs
          replace hs := hs.front 2 rfl
          simp only [List.cons_append, List.nil_append, List.eraseIdx_cons_zero, List.eraseIdx_cons_succ] at hs
          replace hs := hs.front 2 rfl
          simp only [List.cons_append, List.nil_append, List.eraseIdx_cons_zero, List.eraseIdx_cons_succ] at hs
          have hf0 : bfault s.tb.length ws = 0 := by omega
          rw [bput_92 hen (fun q => by rcases q with q | q; exact absurd hf0 q; rw [q] at hwn; simp at hwn; omega) (by omega)]
          exact ⟨_, rfl, rfl, Sat.qshut (s := bend rO s d) hs⟩
        · skip
          have hf0 : bfault s.tb.length ws = 0 := by omega
          have hfo := bfault_ok hf0
          have hg2 : s.gen < 1099511627776 := by omega
          refine St_skip ?_
          refine Jm_seq ?_
          refine St_seq ?_
          refine St_region ?_
          refine Ls_literal [] hs Try.underlying22 inf3 rfl rfl rfl rfl rfl rfl ?_
          intro b11 w12 hs
          simp only [List.flatMap_cons, List.flatMap_nil, Value.cells, List.cons_append, List.nil_append] at hs
          replace hs := Sat.own_block hs 1 0 rfl (by decide)
          refine Ls_run (run_assign rfl) rfl ?_
          refine Ls_nil ?_
          refine Jm_seq ?_
          refine St_seq ?_
          refine St_region ?_
          refine Ls_run (run_move rfl) rfl ?_
          refine Ls_run (run_move rfl) rfl ?_
          refine Ls_run (run_nilCheck rfl) rfl ?_
          refine Ls_run (run_as (run_field Try.underlying138 rfl inf22 (by decide) rfl) (show _ = Value.pointer (some ⟨bj, 1, none⟩) from rfl)) rfl ?_
          refine Ls_run (run_load sc22 rfl (hs.blk_at 1 rfl 1 rfl)) rfl ?_
          refine Ls_append hs Try.underlying22 inf3 rfl (by decide) (by decide) rfl rfl (hs.rd_at 3 rfl) (flatKI_one _) (by simp; omega) rfl ?_
          intro A13 c14 w15 hs
          simp only [Nat.zero_add, List.nil_append] at hs
          obtain ⟨gn, hgn⟩ := hs.own_addr (by omega)
          subst hgn
          simp only [Nat.zero_add]
          refine Ls_run (run_assign rfl) rfl ?_
          refine Ls_nil ?_
          refine Jm_seq ?_
          refine St_seq ?_
          refine St_region ?_
          refine Ls_literal [] hs Try.underlying22 inf3 rfl rfl rfl rfl rfl rfl ?_
          intro b16 w17 hs
          simp only [List.flatMap_cons, List.flatMap_nil, Value.cells, List.cons_append, List.nil_append] at hs
          replace hs := Sat.own_block hs 1 0 rfl (by decide)
          refine Ls_run (run_assign rfl) rfl ?_
          refine Ls_nil ?_
          refine Jm_seq ?_
          refine St_seq ?_
          refine St_seq ?_
          refine St_region ?_
          refine Ls_run (run_assign rfl) rfl ?_
          refine Ls_nil ?_
          refine Jm_seq ?_
          refine St_block ?_
          replace hs := hs.front 3 rfl
          simp only [List.cons_append, List.nil_append, List.eraseIdx_cons_zero, List.eraseIdx_cons_succ] at hs
          replace hs := hs.front 4 rfl
          simp only [List.cons_append, List.nil_append, List.eraseIdx_cons_zero, List.eraseIdx_cons_succ] at hs
          replace hs := hs.front 4 rfl
          simp only [List.cons_append, List.nil_append, List.eraseIdx_cons_zero, List.eraseIdx_cons_succ] at hs
          replace hs := hs.front 3 rfl
          simp only [List.cons_append, List.nil_append, List.eraseIdx_cons_zero, List.eraseIdx_cons_succ] at hs
          replace hs := hs.front 4 rfl
          simp only [List.cons_append, List.nil_append, List.eraseIdx_cons_zero, List.eraseIdx_cons_succ] at hs
          obtain ⟨En18, hEn18⟩ : ∃ F : Nat × Option Addr × Nat × Nat × List Int × List Int × RSt → Env, ∀ (i : Nat) (At : Option Addr) (kt : Nat) (ct : Nat) (tk : List Int) (tb2 : List Int) (d2 : RSt), F (i, At, kt, ct, tk, tb2, d2) = [(0, .pointer (some ⟨bj, 0, none⟩)), (1, .slice A n c), (6, .slice (some ⟨gn, 0, none⟩) s.tb.length c14), (7, .slice At kt ct), (8, .int .i64 (i : Int))] := ⟨(fun (sx0 : Nat × Option Addr × Nat × Nat × List Int × List Int × RSt) => match sx0 with | (i, At, kt, ct, tk, tb2, d2) => [(0, .pointer (some ⟨bj, 0, none⟩)), (1, .slice A n c), (6, .slice (some ⟨gn, 0, none⟩) s.tb.length c14), (7, .slice At kt ct), (8, .int .i64 (i : Int))]), fun _ _ _ _ _ _ _ => rfl⟩
          obtain ⟨Iv19, hIv19⟩ : ∃ F : Nat × Option Addr × Nat × Nat × List Int × List Int × RSt → World → Prop, ∀ (i : Nat) (At : Option Addr) (kt : Nat) (ct : Nat) (tk : List Int) (tb2 : List Int) (d2 : RSt) (wr : World), F (i, At, kt, ct, tk, tb2, d2) wr = (Sat B wr (Own 3 1 (.slice (some ⟨gn, 0, none⟩) s.tb.length c14) s.tb.length (KI.flat tb2) :: Own 3 1 (.slice At kt ct) kt (KI.flat tk) :: Blk bj (qcells (some ⟨b, 0, none⟩) (bend rO s d) Ab cb) 138 :: Own 3 1 (.slice Ab s.tb.length cb) s.tb.length (KI.flat s.tb) :: RefA 135 28 5 b d2 :: L) ∧ i ≤ n ∧ tb2.length = s.tb.length ∧ putL rO (ws.drop i) tb2 (s.tb ++ tk) d2 = putL rO ws s.tb s.tb d ∧ ROk d2 ∧ d2.bl.length = d.bl.length ∧ (tk.length = kt ∧ kt ≤ i) ∧ ∀ x ∈ tb2, 0 ≤ x ∧ x ≤ 64) := ⟨(fun (sx0 : Nat × Option Addr × Nat × Nat × List Int × List Int × RSt) => match sx0 with | (i, At, kt, ct, tk, tb2, d2) => fun (wr : World) => Sat B wr (Own 3 1 (.slice (some ⟨gn, 0, none⟩) s.tb.length c14) s.tb.length (KI.flat tb2) :: Own 3 1 (.slice At kt ct) kt (KI.flat tk) :: Blk bj (qcells (some ⟨b, 0, none⟩) (bend rO s d) Ab cb) 138 :: Own 3 1 (.slice Ab s.tb.length cb) s.tb.length (KI.flat s.tb) :: RefA 135 28 5 b d2 :: L) ∧ i ≤ n ∧ tb2.length = s.tb.length ∧ putL rO (ws.drop i) tb2 (s.tb ++ tk) d2 = putL rO ws s.tb s.tb d ∧ ROk d2 ∧ d2.bl.length = d.bl.length ∧ (tk.length = kt ∧ kt ≤ i) ∧ ∀ x ∈ tb2, 0 ≤ x ∧ x ≤ 64), fun _ _ _ _ _ _ _ _ => rfl⟩
          obtain ⟨ms20, hms20⟩ : ∃ F : Nat × Option Addr × Nat × Nat × List Int × List Int × RSt → Nat, ∀ (i : Nat) (At : Option Addr) (kt : Nat) (ct : Nat) (tk : List Int) (tb2 : List Int) (d2 : RSt), F (i, At, kt, ct, tk, tb2, d2) = (n - i) := ⟨(fun (sx0 : Nat × Option Addr × Nat × Nat × List Int × List Int × RSt) => match sx0 with | (i, At, kt, ct, tk, tb2, d2) => n - i), fun _ _ _ _ _ _ _ => rfl⟩
          refine St_loop En18 Iv19 ms20 (0, (some ⟨b16, 0, none⟩), 0, 0, [], s.tb, d) ?_ ?_ ?_
          · skip
            rw [hIv19]
            exact ⟨hs, by omega, rfl, by rw [List.append_nil]; rfl, hdok, rfl, ⟨rfl, by omega⟩, hpos⟩
          · rw [hEn18]; exact (subE_cons rfl (subE_cons rfl (subE_cons rfl (subE_cons rfl (subE_cons rfl subE_nil)))))
          rintro ⟨i, At, kt, ct, tk, tb2, d2⟩ wr hI21
          rw [hIv19] at hI21
          obtain ⟨hs, hi, htl, hput, hd2, hdl2, ⟨htk, htk2⟩, hp64⟩ := hI21
          refine St_eqE (hEn18 _ _ _ _ _ _ _) ?_
          refine St_seq ?_
          refine St_seq ?_
          refine St_region ?_
          refine Ls_run (run_move rfl) rfl ?_
          refine Ls_run (run_move rfl) rfl ?_
          refine Ls_run (run_len Try.underlying51 rfl) rfl ?_
          refine Ls_run (run_lss rfl rfl) rfl ?_
          refine Ls_nil ?_
          refine Jm_seq ?_
          refine St_ifP rfl (fun h22 => ?_) (fun h22 => ?_)
          · skip
            refine St_skip ?_
            refine Jm_seq ?_
            refine St_seq ?_
            refine St_block ?_
            refine St_seq ?_
            refine St_region ?_
            refine Ls_run (run_assign rfl) rfl ?_
            refine Ls_nil ?_
            refine Jm_seq ?_
            refine St_seq ?_
            refine St_seq ?_
            refine St_region ?_
            refine Ls_run (run_move rfl) rfl ?_
            refine Ls_run (run_move rfl) rfl ?_
            obtain ⟨⟨pg, Aw, nw, cw⟩, ho⟩ : ∃ o, vs.getD i (0, none, 0, 0) = o := ⟨_, rfl⟩
            obtain ⟨⟨q, x⟩, hq⟩ : ∃ o, ws.getD i (0, []) = o := ⟨_, rfl⟩
            obtain ⟨hpg, hrw⟩ := (Sat.rdL0 (pre := [_, _, _, _, _]) hr hs).at_ i (by omega)
            rw [ho, hq] at hpg
            rw [ho, hq] at hrw
            simp only at hpg hrw
            subst hpg
            have hxl := rdB_len hrw
            have hwq := hok _ (wmem (ws := ws) (i := i) (by omega))
            have hwf := hfo.1 _ (wmem (ws := ws) (i := i) (by omega))
            rw [hq] at hwq hwf
            simp only at hwq hwf
            obtain ⟨k, rfl⟩ : ∃ k : Nat, pg = (k : Int) := ⟨pg.toNat, by omega⟩
            rw [wdrop (by omega) hq] at hput
            have hfs := free_spec (s.tb ++ tk)
            rw [List.length_append] at hfs
            refine Ls_index (KW) ((Sat.rdL0 (pre := [_, _, _, _, _]) hr hs).rd) Try.underlying51 inf45 rfl rfl (by omega) (by omega) ho rfl ?_
            intro b23 o24 hc25
            refine Ls_run (run_field Try.underlying45 rfl inf28 (by decide) rfl) rfl ?_
            refine Ls_run (run_as (run_load sc28 rfl (hc25 1 _ rfl)) (show _ = Value.slice Aw nw cw from rfl)) rfl ?_
            refine Ls_run (run_len Try.underlying28 rfl) rfl ?_
            refine Ls_run (run_gtr rfl rfl) rfl ?_
            refine Ls_nil ?_
            refine Jm_seq ?_
            refine St_ifP rfl (fun h26 => ?_) (fun h26 => ?_)
            · skip
              refine St_seq ?_
              refine St_region ?_
              refine Ls_run (run_move rfl) rfl ?_
              refine Ls_run (run_nilCheck rfl) rfl ?_
              refine Ls_run (run_as (run_field Try.underlying138 rfl inf22 (by decide) rfl) (show _ = Value.pointer (some ⟨bj, 1, none⟩) from rfl)) rfl ?_
              refine Ls_run (run_load sc22 rfl (hs.blk_at 2 rfl 1 rfl)) rfl ?_
              refine Ls_run (run_move rfl) rfl ?_
              refine Ls_call Try.func102 nm102 rfl rfl (rfree_c wr _ _ _ s.tb _ _ _ tk (hs.rd_at 3 rfl) (hs.rd_at 1 rfl) (by omega)) rfl ?_
              rintro v27 w28 ⟨rfl, hsK29⟩
              replace hs := hs.trans hsK29
              simp only [List.nil_append, List.cons_append] at hs
              refine Ls_run (run_assign rfl) rfl ?_
              refine Ls_nil ?_
              refine Jm_seq ?_
              refine St_seq ?_
              refine St_seq ?_
              refine St_drawC 10 (fun x => Below w28.heap.size w28 x) mixed ?_
              intro w30 q31
              have hH := q31.below
              replace hs := hs.quiet q31
              refine AnC_grow hH ?_
              replace hH := Below.refl w30.heap.size w30
              refine AnC_takeP 0 (by kernel_rfl) rfl (by kernel_rfl) (by kernel_rfl) (by kernel_rfl) (fun _ _ _ h => h) (fun _ => hH) (fun x => run_move rfl) rfl ?_
              refine AnC_takeP 1 (by kernel_rfl) rfl (by kernel_rfl) (by kernel_rfl) (by kernel_rfl) (fun _ _ _ h => h) (fun _ => hH) (fun x => run_nilCheck rfl) rfl ?_
              refine AnC_takeP 2 (by kernel_rfl) rfl (by kernel_rfl) (by kernel_rfl) (by kernel_rfl) (fun _ _ _ h => h) (fun _ => hH) (fun x => run_as (run_field Try.underlying138 rfl inf71 (by decide) rfl) (show _ = Value.pointer (some ⟨bj, 0, none⟩) from rfl)) rfl ?_
              refine AnC_take 3 [10, 3] rfl (by kernel_rfl) (by kernel_rfl) (by kernel_rfl) (by kernel_rfl) (fun _ _ _ h => h) hH (fun x hx => run_load sc71 rfl ((hs.grow hx).blk_at 2 rfl 0 rfl)) rfl ?_
              refine AnC_takeP 4 (by kernel_rfl) rfl (by kernel_rfl) (by kernel_rfl) (by kernel_rfl) (fun _ _ _ h => h) (fun _ => hH) (fun x => run_move rfl) rfl ?_
              refine AnC_takeP 5 (by kernel_rfl) rfl (by kernel_rfl) (by kernel_rfl) (by kernel_rfl) (fun _ _ _ h => h) (fun _ => hH) (fun x => run_move rfl) rfl ?_
              refine AnC_takeP 6 (by kernel_rfl) rfl (by kernel_rfl) (by kernel_rfl) (by kernel_rfl) (fun _ _ _ h => h) (fun _ => hH) (fun x => run_move rfl) rfl ?_
              refine AnC_index 7 [10, 9, 8, 7] (KW) rfl (by kernel_rfl) (by kernel_rfl) (by kernel_rfl) (by kernel_rfl) (fun _ _ _ _ h => h) hH (fun x hx => (((Sat.rdL0 (pre := [_, _, _, _, _]) hr hs).rd).grow hx)) Try.underlying51 inf45 rfl rfl (by omega) (by omega) ho rfl ?_
              intro b32 o33 hc34
              refine AnC_takeP 8 (by kernel_rfl) rfl (by kernel_rfl) (by kernel_rfl) (by kernel_rfl) (fun _ _ _ h => h) (fun _ => hH) (fun x => run_field Try.underlying45 rfl inf28 (by decide) rfl) rfl ?_
              refine AnC_take 9 [10, 9] rfl (by kernel_rfl) (by kernel_rfl) (by kernel_rfl) (by kernel_rfl) (fun _ _ _ h => h) hH (fun x hx => run_as (run_load sc28 rfl ((hc34 x hx) 1 _ rfl)) (show _ = Value.slice Aw nw cw from rfl)) rfl ?_
              refine AnC_only 10 (by kernel_rfl) rfl ?_
              replace hs := hs.front 4 rfl
              simp only [List.cons_append, List.nil_append, List.eraseIdx_cons_zero, List.eraseIdx_cons_succ] at hs
              refine Ls_call Try.func98 nm98 rfl rfl (rWrite_c B w30 _ b d2 hs hd2.len ⟨hd2.2.2.1, hd2.2.2.2⟩ (free (s.tb ++ tk)) Aw nw cw x (fun w' X q => by have q2 : Sat B w' ([X, _, _, _, _] ++ L) := q; have h9 := (Sat.rdL0 (pre := [X, _, _, _, _]) hr q2).at_ i (by omega); rw [ho, hq] at h9; exact h9.2) (by omega)) rfl ?_
              rintro v35 w36 ⟨rfl, hs⟩
              obtain ⟨⟨edw, dw⟩, hwdw⟩ : ∃ q, rwrite d2 (free (s.tb ++ tk)) (x) = q := ⟨_, rfl⟩
              have hkdw := hd2.wr (free (s.tb ++ tk)) (l := x) hwq.2.1
              simp only [hwdw] at hs hkdw ⊢
              refine Ls_nil (Jm_AnC_closed (by kernel_rfl) ?_)
              refine AnC_switch (H' := fun x => Below w36.heap.size w36 x) 12 (by kernel_rfl) ?_
              replace hH := Below.refl w36.heap.size w36
              refine AnC_takeP 11 (by kernel_rfl) rfl (by kernel_rfl) (by kernel_rfl) (by kernel_rfl) (fun _ _ _ h => h) (fun _ => hH) (fun x => run_assign rfl) rfl ?_
              refine AnC_done (by kernel_rfl) ?_
              refine Jm_seq ?_
              refine St_seq ?_
              refine St_region ?_
              refine Ls_run (run_move rfl) rfl ?_
              refine Ls_run (run_neq rfl rfl) rfl ?_
              refine Ls_nil ?_
              refine Jm_seq ?_
              refine St_ifP rfl (fun h37 => ?_) (fun h37 => ?_)
              · skip
                refine St_seq ?_
                refine St_region ?_
                refine Ls_run (run_move rfl) rfl ?_
                refine Ls_run (run_nilCheck rfl) rfl ?_
                refine Ls_run (run_as (run_field Try.underlying138 rfl inf4 (by decide) rfl) (show _ = Value.pointer (some ⟨bj, 4, none⟩) from rfl)) rfl ?_
                replace hs := hs.front 3 rfl
                simp only [List.cons_append, List.nil_append, List.eraseIdx_cons_zero, List.eraseIdx_cons_succ] at hs
                refine Ls_store hs inf4 rfl rfl rfl rfl ?_
                intro w38 hs
                try simp only [List.set_cons_zero, List.set_cons_succ] at hs
                refine Ls_nil ?_
                refine Jm_seq ?_
                refine St_seq ?_
                refine St_region ?_
                refine Ls_run (run_move rfl) rfl ?_
                refine Ls_run (run_assign rfl) rfl ?_
                refine Ls_nil ?_
                refine Jm_seq ?_
                refine St_ret ?_
                refine Jm_then_ret (Jm_then_ret (Jm_block_ret (Jm_then_ret (Jm_then_ret (Jm_block_ret (Jm_then_ret  ?_))))))
                refine Jm_ret1 rfl rfl ?_
                replace hs := hs.erase 2
                simp only [List.cons_append, List.nil_append, List.eraseIdx_cons_zero, List.eraseIdx_cons_succ] at hs
                replace hs := hs.erase 2
                simp only [List.cons_append, List.nil_append, List.eraseIdx_cons_zero, List.eraseIdx_cons_succ] at hs
                replace hs := hs.front 1 rfl
                simp only [List.cons_append, List.nil_append, List.eraseIdx_cons_zero, List.eraseIdx_cons_succ] at hs
                replace hs := hs.front 2 rfl
                simp only [List.cons_append, List.nil_append, List.eraseIdx_cons_zero, List.eraseIdx_cons_succ] at hs
                replace hs := hs.front 2 rfl
                simp only [List.cons_append, List.nil_append, List.eraseIdx_cons_zero, List.eraseIdx_cons_succ] at hs
                have he9 : edw ≠ 0 := by assumption
                have hpp : putL rO ws s.tb s.tb d = (edw, tb2, dw) := by rw [← hput]; exact putL_fail (by omega) hwdw he9
                rw [bput_f1 (fx := fun e => e) hen (fun q => by rcases q with q | q; exact absurd hf0 q; rw [q] at hwn; simp at hwn; omega) (by omega) hpp he9]
                exact ⟨_, rfl, rfl, Sat.qshut (s := { bend rO s d with ended := true }) hs⟩
              · skip
                have hedw : edw = 0 := by omega
                subst hedw
                refine St_skip ?_
                refine Jm_seq ?_
                refine St_region ?_
                refine Ls_run (run_move rfl) rfl ?_
                refine Ls_run (run_move rfl) rfl ?_
                refine Ls_literal [_] hs Try.underlying22 inf3 rfl rfl rfl rfl rfl rfl ?_
                intro b39 w40 hs
                simp only [List.flatMap_cons, List.flatMap_nil, Value.cells, List.cons_append, List.nil_append] at hs
                replace hs := hs.front 3 rfl
                simp only [List.cons_append, List.nil_append, List.eraseIdx_cons_zero, List.eraseIdx_cons_succ] at hs
                refine Ls_append hs Try.underlying22 inf3 rfl (by decide) (by decide) rfl rfl (rd_block (hs.is_at 1 rfl).2 1 1 rfl) (by simp [Value.oneCell']) (by omega) rfl ?_
                intro A41 c42 w43 hs
                replace hs := hs.erase 1
                simp only [List.cons_append, List.nil_append, List.eraseIdx_cons_zero, List.eraseIdx_cons_succ] at hs
                refine Ls_run (run_assign rfl) rfl ?_
                refine Ls_nil ?_
                refine Jm_seq ?_
                refine St_region ?_
                refine Ls_run (run_move rfl) rfl ?_
                refine Ls_run (run_move rfl) rfl ?_
                refine Ls_run (run_move rfl) rfl ?_
                refine Ls_index (KW) ((Sat.rdL0 (pre := [_, _, _, _, _]) hr hs).rd) Try.underlying51 inf45 rfl rfl (by omega) (by omega) ho rfl ?_
                intro b44 o45 hc46
                refine Ls_run (run_field Try.underlying45 rfl inf3 (by decide) rfl) rfl ?_
                refine Ls_run (run_as (run_load sc3 rfl (hc46 0 _ rfl)) (show _ = Value.int .i64 (k : Int) from rfl)) rfl ?_
                refine Ls_run (run_move rfl) rfl ?_
                refine Ls_run (run_as (run_index Try.underlying22 inf3 rfl rfl rfl (by omega) (by omega)) (show _ = Value.pointer (some ⟨gn, k, none⟩) from by simp)) rfl ?_
                replace hs := hs.front 2 rfl
                simp only [List.cons_append, List.nil_append, List.eraseIdx_cons_zero, List.eraseIdx_cons_succ] at hs
                refine Ls_storeOwn hs inf3 rfl rfl rfl (by omega) ?_
                intro w47 hs
                rw [flatKI_set] at hs
                refine Ls_nil ?_
                refine Jm_block_normal (Jm_seq ?_)
                refine St_region ?_
                refine Ls_run (run_move rfl) rfl ?_
                refine Ls_run (run_add rfl rfl (w64 (by omega))) rfl ?_
                refine Ls_run (run_assign rfl) rfl ?_
                refine Ls_nil ?_
                replace hs := hs.front 2 rfl
                simp only [List.cons_append, List.nil_append, List.eraseIdx_cons_zero, List.eraseIdx_cons_succ] at hs
                replace hs := hs.front 4 rfl
                simp only [List.cons_append, List.nil_append, List.eraseIdx_cons_zero, List.eraseIdx_cons_succ] at hs
                replace hs := hs.front 4 rfl
                simp only [List.cons_append, List.nil_append, List.eraseIdx_cons_zero, List.eraseIdx_cons_succ] at hs
                replace hs := hs.front 4 rfl
                simp only [List.cons_append, List.nil_append, List.eraseIdx_cons_zero, List.eraseIdx_cons_succ] at hs
                replace hs := hs.front 4 rfl
                simp only [List.cons_append, List.nil_append, List.eraseIdx_cons_zero, List.eraseIdx_cons_succ] at hs
                have eks : KI.flat tk ++ [Value.int .i64 (free (s.tb ++ tk))] = KI.flat (tk ++ [free (s.tb ++ tk)]) := by rw [El.int_flat, El.int_flat]; simp
                rw [eks] at hs
                refine Jm_round (i + 1, A41, (kt + 1), c42, (tk ++ [free (s.tb ++ tk)]), (tb2.set k (free (s.tb ++ tk))), dw) ?_ ?_ ?_
                · rw [hEn18]; exact (subE_cons rfl (subE_cons rfl (subE_cons rfl (subE_cons rfl (subE_cons rfl subE_nil)))))
                · skip
                  rw [hIv19]
                  rw [putL_go (by omega) hwdw, List.append_assoc] at hput
                  refine ⟨hs, by omega, by rw [List.length_set]; exact htl, hput, hkdw.1, by rw [hkdw.2]; exact hdl2, ⟨by simp; omega, by omega⟩, set_bd hp64 (by omega)⟩
                · skip
                  rw [hms20, hms20]
                  omega
            · skip
              refine St_skip ?_
              refine Jm_seq ?_
              refine St_region ?_
              refine Ls_run (run_move rfl) rfl ?_
              refine Ls_run (run_move rfl) rfl ?_
              refine Ls_run (run_move rfl) rfl ?_
              refine Ls_index (KW) ((Sat.rdL0 (pre := [_, _, _, _, _]) hr hs).rd) Try.underlying51 inf45 rfl rfl (by omega) (by omega) ho rfl ?_
              intro b48 o49 hc50
              refine Ls_run (run_field Try.underlying45 rfl inf3 (by decide) rfl) rfl ?_
              refine Ls_run (run_as (run_load sc3 rfl (hc50 0 _ rfl)) (show _ = Value.int .i64 (k : Int) from rfl)) rfl ?_
              refine Ls_run (run_move rfl) rfl ?_
              refine Ls_run (run_as (run_index Try.underlying22 inf3 rfl rfl rfl (by omega) (by omega)) (show _ = Value.pointer (some ⟨gn, k, none⟩) from by simp)) rfl ?_
              refine Ls_storeOwn hs inf3 rfl rfl rfl (by omega) ?_
              intro w51 hs
              rw [flatKI_set] at hs
              refine Ls_nil ?_
              refine Jm_block_normal (Jm_seq ?_)
              refine St_region ?_
              refine Ls_run (run_move rfl) rfl ?_
              refine Ls_run (run_add rfl rfl (w64 (by omega))) rfl ?_
              refine Ls_run (run_assign rfl) rfl ?_
              refine Ls_nil ?_
              refine Jm_round (i + 1, At, kt, ct, tk, (tb2.set k 0), d2) ?_ ?_ ?_
              · rw [hEn18]; exact (subE_cons rfl (subE_cons rfl (subE_cons rfl (subE_cons rfl (subE_cons rfl subE_nil)))))
              · skip
                rw [hIv19]
                rw [putL_skip (by omega)] at hput
                exact ⟨hs, by omega, by rw [List.length_set]; exact htl, hput, hd2, hdl2, ⟨htk, by omega⟩, set_bd hp64 (by decide)⟩
              · skip
                rw [hms20, hms20]
                omega
          · skip
            refine St_exit ?_
            refine Jm_then_exit (Jm_then_exit (Jm_block_same (Jm_seq ?_)))
            refine St_seq ?_
            refine St_seq ?_
            refine St_drawC 16 (fun x => Below wr.heap.size wr x) mixed ?_
            intro w52 q53
            have hH := q53.below
            replace hs := hs.quiet q53
            refine AnC_grow hH ?_
            replace hH := Below.refl w52.heap.size w52
            have hi9 : i = n := by omega
            rw [show ws.drop i = [] from List.drop_of_length_le (by omega), putL_nil] at hput
            refine AnC_takeP 0 (by kernel_rfl) rfl (by kernel_rfl) (by kernel_rfl) (by kernel_rfl) (fun _ _ _ h => h) (fun _ => hH) (fun x => run_move rfl) rfl ?_
            refine AnC_takeP 1 (by kernel_rfl) rfl (by kernel_rfl) (by kernel_rfl) (by kernel_rfl) (fun _ _ _ h => h) (fun _ => hH) (fun x => run_nilCheck rfl) rfl ?_
            refine AnC_takeP 2 (by kernel_rfl) rfl (by kernel_rfl) (by kernel_rfl) (by kernel_rfl) (fun _ _ _ h => h) (fun _ => hH) (fun x => run_as (run_field Try.underlying138 rfl inf71 (by decide) rfl) (show _ = Value.pointer (some ⟨bj, 0, none⟩) from rfl)) rfl ?_
            refine AnC_take 3 [16, 3] rfl (by kernel_rfl) (by kernel_rfl) (by kernel_rfl) (by kernel_rfl) (fun _ _ _ h => h) hH (fun x hx => run_load sc71 rfl ((hs.grow hx).blk_at 2 rfl 0 rfl)) rfl ?_
            refine AnC_takeP 4 (by kernel_rfl) rfl (by kernel_rfl) (by kernel_rfl) (by kernel_rfl) (fun _ _ _ h => h) (fun _ => hH) (fun x => run_move rfl) rfl ?_
            refine AnC_takeP 5 (by kernel_rfl) rfl (by kernel_rfl) (by kernel_rfl) (by kernel_rfl) (fun _ _ _ h => h) (fun _ => hH) (fun x => run_nilCheck rfl) rfl ?_
            refine AnC_takeP 6 (by kernel_rfl) rfl (by kernel_rfl) (by kernel_rfl) (by kernel_rfl) (fun _ _ _ h => h) (fun _ => hH) (fun x => run_as (run_field Try.underlying138 rfl inf3 (by decide) rfl) (show _ = Value.pointer (some ⟨bj, 3, none⟩) from rfl)) rfl ?_
            refine AnC_take 7 [16, 8, 7] rfl (by kernel_rfl) (by kernel_rfl) (by kernel_rfl) (by kernel_rfl) (fun _ _ _ h => h) hH (fun x hx => run_load sc3 rfl ((hs.grow hx).blk_at 2 rfl 3 rfl)) rfl ?_
            refine AnC_takeP 8 (by kernel_rfl) rfl (by kernel_rfl) (by kernel_rfl) (by kernel_rfl) (fun _ _ _ h => h) (fun _ => hH) (fun x => run_sub rfl rfl (show _ = 1 - s.slot by rw [ebs, w64 (by omega)])) rfl ?_
            refine AnC_takeP 9 (by kernel_rfl) rfl (by kernel_rfl) (by kernel_rfl) (by kernel_rfl) (fun _ _ _ h => h) (fun _ => hH) (fun x => run_move rfl) rfl ?_
            refine AnC_takeP 10 (by kernel_rfl) rfl (by kernel_rfl) (by kernel_rfl) (by kernel_rfl) (fun _ _ _ h => h) (fun _ => hH) (fun x => run_nilCheck rfl) rfl ?_
            refine AnC_takeP 11 (by kernel_rfl) rfl (by kernel_rfl) (by kernel_rfl) (by kernel_rfl) (fun _ _ _ h => h) (fun _ => hH) (fun x => run_as (run_field Try.underlying138 rfl inf3 (by decide) rfl) (show _ = Value.pointer (some ⟨bj, 2, none⟩) from rfl)) rfl ?_
            refine AnC_take 12 [16, 15, 13, 12] rfl (by kernel_rfl) (by kernel_rfl) (by kernel_rfl) (by kernel_rfl) (fun _ _ _ h => h) hH (fun x hx => run_load sc3 rfl ((hs.grow hx).blk_at 2 rfl 2 rfl)) rfl ?_
            refine AnC_takeP 13 (by kernel_rfl) rfl (by kernel_rfl) (by kernel_rfl) (by kernel_rfl) (fun _ _ _ h => h) (fun _ => hH) (fun x => run_add rfl rfl (show _ = s.gen + 1 by rw [ebg, w64 (by omega)])) rfl ?_
            refine AnC_takeP 14 (by kernel_rfl) rfl (by kernel_rfl) (by kernel_rfl) (by kernel_rfl) (fun _ _ _ h => h) (fun _ => hH) (fun x => run_move rfl) rfl ?_
            refine AnC_only 15 (by kernel_rfl) rfl ?_
            refine Ls_call Try.func99 nm99 rfl rfl (Root_c w52 (s.gen + 1) _ _ tb2 _ htl (hs.rd_at 0 rfl) (by omega) (by omega) hp64) rfl ?_
            rintro v54 w55 ⟨Arb, crb, rfl, hsB⟩
            replace hs := hs.trans hsB
            simp only [List.cons_append, List.nil_append] at hs
            have hnl := rbytes_len (gen := s.gen + 1) (tb := tb2) (by omega) (by omega) hp64
            obtain ⟨rb, hrb⟩ : ∃ q, q = rbytes (s.gen + 1) tb2 := ⟨_, rfl⟩
            have hrbb : IsBytes rb := by rw [hrb]; exact rbytes_bytes _ _
            rw [← hrb] at hs hnl ⊢
            replace hH := (hsB.below : Below w52.heap.size w52 w55)
            refine Ls_nil (Jm_AnC (fun _ => hH) ?_)
            refine AnC_grow hH ?_
            replace hH := Below.refl w55.heap.size w55
            refine AnC_only 16 (by kernel_rfl) rfl ?_
            replace hs := hs.front 5 rfl
            simp only [List.cons_append, List.nil_append, List.eraseIdx_cons_zero, List.eraseIdx_cons_succ] at hs
            refine Ls_call Try.func98 nm98 rfl rfl (rWrite_c B w55 _ b d2 hs hd2.len ⟨hd2.2.2.1, hd2.2.2.2⟩ (1 - s.slot) Arb rb.length crb rb (fun w' X q => q.rd_at 1 rfl) (by omega)) rfl ?_
            rintro v56 w57 ⟨rfl, hs⟩
            obtain ⟨⟨ed3, d3⟩, hwd3⟩ : ∃ q, rwrite d2 (1 - s.slot) (rb) = q := ⟨_, rfl⟩
            have hkd3 := hd2.wr (1 - s.slot) (l := rb) hrbb
            simp only [hwd3] at hs hkd3 ⊢
            refine Ls_nil (Jm_AnC_closed (by kernel_rfl) ?_)
            refine AnC_switch (H' := fun x => Below w57.heap.size w57 x) 18 (by kernel_rfl) ?_
            replace hH := Below.refl w57.heap.size w57
            refine AnC_takeP 17 (by kernel_rfl) rfl (by kernel_rfl) (by kernel_rfl) (by kernel_rfl) (fun _ _ _ h => h) (fun _ => hH) (fun x => run_assign rfl) rfl ?_
            refine AnC_done (by kernel_rfl) ?_
            refine Jm_seq ?_
            refine St_seq ?_
            refine St_region ?_
            refine Ls_run (run_move rfl) rfl ?_
            refine Ls_run (run_neq rfl rfl) rfl ?_
            refine Ls_nil ?_
            refine Jm_seq ?_
            refine St_ifP rfl (fun h58 => ?_) (fun h58 => ?_)
            · skip
              refine St_seq ?_
              refine St_region ?_
              refine Ls_run (run_move rfl) rfl ?_
              refine Ls_run (run_nilCheck rfl) rfl ?_
              refine Ls_run (run_as (run_field Try.underlying138 rfl inf4 (by decide) rfl) (show _ = Value.pointer (some ⟨bj, 4, none⟩) from rfl)) rfl ?_
              replace hs := hs.front 4 rfl
              simp only [List.cons_append, List.nil_append, List.eraseIdx_cons_zero, List.eraseIdx_cons_succ] at hs
              refine Ls_store hs inf4 rfl rfl rfl rfl ?_
              intro w59 hs
              try simp only [List.set_cons_zero, List.set_cons_succ] at hs
              refine Ls_nil ?_
              refine Jm_seq ?_
              refine St_seq ?_
              refine St_region ?_
              refine Ls_run (run_move rfl) rfl ?_
              refine Ls_run (run_assign rfl) rfl ?_
              refine Ls_nil ?_
              refine Jm_seq ?_
              refine St_ret ?_
              refine Jm_then_ret  ?_
              refine Jm_ret1 rfl rfl ?_
              replace hs := hs.erase 2
              simp only [List.cons_append, List.nil_append, List.eraseIdx_cons_zero, List.eraseIdx_cons_succ] at hs
              replace hs := hs.erase 2
              simp only [List.cons_append, List.nil_append, List.eraseIdx_cons_zero, List.eraseIdx_cons_succ] at hs
              replace hs := hs.erase 2
              simp only [List.cons_append, List.nil_append, List.eraseIdx_cons_zero, List.eraseIdx_cons_succ] at hs
              replace hs := hs.front 1 rfl
              simp only [List.cons_append, List.nil_append, List.eraseIdx_cons_zero, List.eraseIdx_cons_succ] at hs
              replace hs := hs.front 2 rfl
              simp only [List.cons_append, List.nil_append, List.eraseIdx_cons_zero, List.eraseIdx_cons_succ] at hs
              replace hs := hs.front 2 rfl
              simp only [List.cons_append, List.nil_append, List.eraseIdx_cons_zero, List.eraseIdx_cons_succ] at hs
              have he9 : ed3 ≠ 0 := by assumption
              have hw8 : rO.wr d2 (1 - s.slot) (rbytes (s.gen + 1) tb2) = (ed3, d3) := by rw [← hrb]; exact hwd3
              rw [bput_f2 (fx := fun e => e) hen (fun q => by rcases q with q | q; exact absurd hf0 q; rw [q] at hwn; simp at hwn; omega) (by omega) hput.symm hw8 he9]
              exact ⟨_, rfl, rfl, Sat.qshut (s := { bend rO s d with ended := true }) hs⟩
            · skip
              refine St_skip ?_
              refine Jm_seq ?_
              refine St_seq ?_
              refine St_region ?_
              refine Ls_run (run_move rfl) rfl ?_
              refine Ls_run (run_move rfl) rfl ?_
              refine Ls_run (run_nilCheck rfl) rfl ?_
              refine Ls_run (run_as (run_field Try.underlying138 rfl inf22 (by decide) rfl) (show _ = Value.pointer (some ⟨bj, 1, none⟩) from rfl)) rfl ?_
              replace hs := hs.front 4 rfl
              simp only [List.cons_append, List.nil_append, List.eraseIdx_cons_zero, List.eraseIdx_cons_succ] at hs
              refine Ls_store hs inf22 rfl rfl rfl rfl ?_
              intro w60 hs
              try simp only [List.set_cons_zero, List.set_cons_succ] at hs
              refine Ls_nil ?_
              refine Jm_seq ?_
              refine St_seq ?_
              refine St_region ?_
              refine Ls_run (run_move rfl) rfl ?_
              refine Ls_run (run_nilCheck rfl) rfl ?_
              refine Ls_run (run_as (run_field Try.underlying138 rfl inf3 (by decide) rfl) (show _ = Value.pointer (some ⟨bj, 2, none⟩) from rfl)) rfl ?_
              refine Ls_run (run_load sc3 rfl (hs.blk_at 0 rfl 2 rfl)) rfl ?_
              refine Ls_run (run_add rfl rfl (show _ = s.gen + 1 by first | rw [ebg, w64 (by omega)] | rw [w64 (by omega)])) rfl ?_
              refine Ls_run (run_nilCheck rfl) rfl ?_
              refine Ls_run (run_as (run_field Try.underlying138 rfl inf3 (by decide) rfl) (show _ = Value.pointer (some ⟨bj, 2, none⟩) from rfl)) rfl ?_
              refine Ls_store hs inf3 rfl rfl rfl rfl ?_
              intro w61 hs
              try simp only [List.set_cons_zero, List.set_cons_succ] at hs
              refine Ls_nil ?_
              refine Jm_seq ?_
              refine St_seq ?_
              refine St_region ?_
              refine Ls_run (run_move rfl) rfl ?_
              refine Ls_run (run_move rfl) rfl ?_
              refine Ls_run (run_nilCheck rfl) rfl ?_
              refine Ls_run (run_as (run_field Try.underlying138 rfl inf3 (by decide) rfl) (show _ = Value.pointer (some ⟨bj, 3, none⟩) from rfl)) rfl ?_
              refine Ls_run (run_load sc3 rfl (hs.blk_at 0 rfl 3 rfl)) rfl ?_
              refine Ls_run (run_sub rfl rfl (show _ = 1 - s.slot by first | rw [ebs, w64 (by omega)] | rw [w64 (by omega)])) rfl ?_
              refine Ls_run (run_nilCheck rfl) rfl ?_
              refine Ls_run (run_as (run_field Try.underlying138 rfl inf3 (by decide) rfl) (show _ = Value.pointer (some ⟨bj, 3, none⟩) from rfl)) rfl ?_
              refine Ls_store hs inf3 rfl rfl rfl rfl ?_
              intro w62 hs
              try simp only [List.set_cons_zero, List.set_cons_succ] at hs
              refine Ls_nil ?_
              refine Jm_seq ?_
              refine St_seq ?_
              refine St_region ?_
              refine Ls_run (run_assign rfl) rfl ?_
              refine Ls_nil ?_
              refine Jm_seq ?_
              refine St_ret ?_
              refine Jm_ret1 rfl rfl ?_
              replace hs := hs.erase 2
              simp only [List.cons_append, List.nil_append, List.eraseIdx_cons_zero, List.eraseIdx_cons_succ] at hs
              replace hs := hs.erase 3
              simp only [List.cons_append, List.nil_append, List.eraseIdx_cons_zero, List.eraseIdx_cons_succ] at hs
              replace hs := hs.erase 3
              simp only [List.cons_append, List.nil_append, List.eraseIdx_cons_zero, List.eraseIdx_cons_succ] at hs
              replace hs := hs.front 1 rfl
              simp only [List.cons_append, List.nil_append, List.eraseIdx_cons_zero, List.eraseIdx_cons_succ] at hs
              replace hs := hs.front 2 rfl
              simp only [List.cons_append, List.nil_append, List.eraseIdx_cons_zero, List.eraseIdx_cons_succ] at hs
              replace hs := hs.front 2 rfl
              simp only [List.cons_append, List.nil_append, List.eraseIdx_cons_zero, List.eraseIdx_cons_succ] at hs
              have he3 : ed3 = 0 := by omega
              subst he3
              have hw8 : rO.wr d2 (1 - s.slot) (rbytes (s.gen + 1) tb2) = (0, d3) := by rw [← hrb]; exact hwd3
              rw [bput_ok (fx := fun e => e) hen (fun q => by rcases q with q | q; exact absurd hf0 q; rw [q] at hwn; simp at hwn; omega) (by omega) hput.symm hw8]
              have hsF : Sat B w62 (Blk bj (qcells (some ⟨b, 0, none⟩) { bend rO s d with tb := tb2, gen := s.gen + 1, slot := 1 - s.slot } (some ⟨gn, 0, none⟩) c14) 138 :: Own 3 1 (.slice (some ⟨gn, 0, none⟩) tb2.length c14) tb2.length (KI.flat tb2) :: RefA 135 28 5 b d3 :: L) := by simp only [qcells, htl]; exact hs
              exact ⟨_, rfl, rfl, Sat.qshut (s := { bend rO s d with tb := tb2, gen := s.gen + 1, slot := 1 - s.slot }) hsF⟩
end Go.Proofs.Ytipkfdeiallifaa.Lg
