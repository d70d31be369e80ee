/-
  The laws WireNumbers, WireRuns, WireNums and WireTakes, walked. By program (gen/wire5.py).
-/
import Derived.Test.YtnmeaokfcalbbaaWire4
set_option linter.unusedVariables false
set_option linter.unusedSimpArgs false
namespace Go.Proofs.Ytnmeaokfcalbbaa.Lg
open Go Go.RowKit Go.Proofs.Ytnmeaokfcalbbaa.WirePure
theorem IsBytes.two {a b : List Int} (ha : IsBytes a) (hb : IsBytes b) : IsBytes [a, b].flatten := by
  intro q hq
  simp only [List.flatten_cons, List.flatten_nil, List.append_nil, List.mem_append] at hq
  exact hq.elim (ha q) (hb q)
theorem tk_two {x : Nat} (hx : x < 18446744073709551616) (l : List Int) : tk 0 0 [pb x, l].flatten = ((x : Int), ((pb x).length : Int), 0) := by
  have := tk_pb x 0 0 (l ++ []) hx (by omega)
  simpa using this
theorem tw_two {x : Nat} (hx : x < 18446744073709551616) (l : List Int) : tw (([wd 8 x, l].flatten).take 8) = x := by
  have h : ([wd 8 x, l].flatten).take 8 = wd 8 x := by
    simp only [List.flatten_cons, List.flatten_nil, List.append_nil]
    rw [List.take_append_of_le_length (by simp [wd_len]), List.take_of_length_le (by simp [wd_len])]
  rw [h]; exact tw_wd 8 x hx
set_option maxRecDepth 100000 in
set_option maxHeartbeats 4000000 in
theorem WireNumbers_c (w : World) (x : Nat) (A : Option Addr) (n c : Nat) (l : List Int) (hx : x < 18446744073709551616) (hr : Rd w A n c 1 (bytesV l)) (hb : IsBytes l) (hn : n ≤ 140737488351232) :
    Calls Try.prog 10 [.int .u64 (x : Int), .slice A n c].toArray w (Ret (fun v' w' => v' = .bool true ∧ Below w.heap.size w w')) := by
  have hs := Sat.start w
  have h10 := pb_len10 hx
  have hl : l.length = n := rdB_len hr
  refine Calls_body Try.func10 rfl rfl rfl (envE_cons (i := 0) (v := .int .u64 (x : Int)) rfl (envE_cons (i := 1) (v := .slice A n c) rfl envE_nil)) ?_
  refine St_seq ?_
  refine St_region ?_
  refine Ls_run (run_assign rfl) rfl ?_
  refine Ls_nil ?_
  refine Jm_seq ?_
  refine St_seq ?_
  refine St_seq ?_
  refine St_region ?_
  refine Ls_call Try.func15 nm15 rfl rfl (awake_c w) rfl ?_
  rintro v1 w2 ⟨rfl, hsA⟩
  replace hs := hs.trans hsA
  refine Ls_run (run_not rfl) rfl ?_
  refine Ls_nil ?_
  refine Jm_seq ?_
  refine St_iff rfl ?_
  refine St_skip ?_
  refine Jm_seq ?_
  refine St_seq ?_
  refine St_region ?_
  refine Ls_run (run_move rfl) rfl ?_
  refine Ls_call Try.func16 nm16 rfl rfl (Put_c w2 x hx) rfl ?_
  rintro v4 w5 ⟨Ap, cp, rfl, hsp⟩
  replace hs := hs.trans hsp
  refine Ls_run (run_assign rfl) rfl ?_
  refine Ls_nil ?_
  refine Jm_seq ?_
  refine St_seq ?_
  refine St_region ?_
  refine Ls_run (run_move rfl) rfl ?_
  refine Ls_call Try.func33 nm33 rfl rfl (Word_c w5 x hx) rfl ?_
  rintro v6 w7 ⟨Ad, cd, rfl, hsd⟩
  replace hs := hs.trans hsd
  refine Ls_run (run_assign rfl) rfl ?_
  refine Ls_nil ?_
  refine Jm_seq ?_
  refine St_seq ?_
  refine St_seq ?_
  refine St_draw (fun x => Below w7.heap.size w7 x) mixed ?_
  intro w8 q9
  have hH := q9.below
  replace hs := hs.quiet q9
  refine An_grow hH ?_
  replace hH := Below.refl w8.heap.size w8
  refine An_take 0 rfl (by kernel_rfl) (by kernel_rfl) (by kernel_rfl) (fun _ _ _ h => h) hH (fun x hx => run_move rfl) rfl ?_
  refine An_take 1 rfl (by kernel_rfl) (by kernel_rfl) (by kernel_rfl) (fun _ _ _ h => h) hH (fun x hx => run_string Try.underlying22 Try.underlying5 Try.underlying9 rfl ((hs.rd_at 1 rfl).grow hx)) rfl ?_
  refine An_take 2 rfl (by kernel_rfl) (by kernel_rfl) (by kernel_rfl) (fun _ _ _ h => h) hH (fun x hx => run_move rfl) rfl ?_
  refine An_only 3 (by kernel_rfl) rfl ?_
  refine Ls_call Try.func34 nm34 rfl rfl (rPut_c w8 x hx) rfl ?_
  rintro v10 w11 ⟨Arp, crp, rfl, hsrp⟩
  replace hs := hs.trans hsrp
  replace hH := (hsrp.below : Below w8.heap.size w8 w11)
  refine Ls_nil (Jm_An hH ?_)
  refine An_grow hH ?_
  replace hH := Below.refl w11.heap.size w11
  refine An_take 4 rfl (by kernel_rfl) (by kernel_rfl) (by kernel_rfl) (fun _ _ _ h => h) hH (fun x hx => run_string Try.underlying22 Try.underlying5 Try.underlying9 rfl ((hs.rd_at 0 rfl).grow hx)) rfl ?_
  refine An_take 5 rfl (by kernel_rfl) (by kernel_rfl) (by kernel_rfl) (fun _ _ _ h => h) hH (fun x hx => run_asB (c := false) (run_neq_str rfl rfl) (by simp)) rfl ?_
  refine An_take 6 rfl (by kernel_rfl) (by kernel_rfl) (by kernel_rfl) (fun _ _ _ h => h) hH (fun x hx => run_move rfl) rfl ?_
  refine An_take_on 7 rfl (by kernel_rfl) (by kernel_rfl) (by kernel_rfl) rfl rfl (fun _ _ _ h => h) hH (fun x hx => run_move rfl) rfl ?_
  refine An_take_on 8 rfl (by kernel_rfl) (by kernel_rfl) (by kernel_rfl) rfl rfl (fun _ _ _ h => h) hH (fun x hx => run_string Try.underlying22 Try.underlying5 Try.underlying9 rfl ((hs.rd_at 1 rfl).grow hx)) rfl ?_
  refine An_take_on 9 rfl (by kernel_rfl) (by kernel_rfl) (by kernel_rfl) rfl rfl (fun _ _ _ h => h) hH (fun x hx => run_move rfl) rfl ?_
  refine An_only 10 (by kernel_rfl) rfl ?_
  refine Ls_on rfl rfl ?_
  refine Ls_call Try.func35 nm35 rfl rfl (rWord_c w11 x hx) rfl ?_
  rintro v12 w13 ⟨Ard, crd, rfl, hsrd⟩
  replace hs := hs.trans hsrd
  replace hH := (hsrd.below : Below w11.heap.size w11 w13)
  refine Ls_nil (Jm_An hH ?_)
  refine An_grow hH ?_
  replace hH := Below.refl w13.heap.size w13
  refine An_take_on 11 rfl (by kernel_rfl) (by kernel_rfl) (by kernel_rfl) rfl rfl (fun _ _ _ h => h) hH (fun x hx => run_string Try.underlying22 Try.underlying5 Try.underlying9 rfl ((hs.rd_at 0 rfl).grow hx)) rfl ?_
  refine An_take_on 12 rfl (by kernel_rfl) (by kernel_rfl) (by kernel_rfl) rfl rfl (fun _ _ _ h => h) hH (fun x hx => run_asB (c := false) (run_neq_str rfl rfl) (by simp)) rfl ?_
  refine An_take 13 rfl (by kernel_rfl) (by kernel_rfl) (by kernel_rfl) (fun _ _ _ h => h) hH (fun x hx => run_pick_f rfl rfl) rfl ?_
  refine An_done (by kernel_rfl) ?_
  refine Jm_seq ?_
  refine St_iff rfl ?_
  refine St_skip ?_
  refine Jm_seq ?_
  refine St_seq ?_
  refine St_region ?_
  refine Ls_run (run_move rfl) rfl ?_
  refine Ls_run (run_move rfl) rfl ?_
  refine Ls_literal [_, _] hs Try.underlying58 inf22 rfl rfl rfl rfl rfl rfl ?_
  intro b15 w16 hs
  simp only [List.flatMap_cons, List.flatMap_nil, Value.cells, List.cons_append, List.nil_append] at hs
  refine Ls_call Try.func36 nm36 rfl rfl (Join_c w16 _ _ _ [Value.slice Ap (pb x).length cp, Value.slice A n c] [pb x, l] (rd_block (hs.is_at 0 rfl).2 1 2 rfl) (Parts.cons (hs.rd_at 4 rfl) (Parts.cons (hr.inB hs) (Parts.nil _))) (by simp; omega) (by omega)) rfl ?_
  rintro v17 w18 ⟨Aj, cj, rfl, hsj⟩
  replace hs := hs.trans hsj
  refine Ls_call Try.func17 nm17 rfl rfl (Take_c w18 _ _ _ [pb x, l].flatten (hs.rd_at 0 rfl) (IsBytes.two (pb_bytes x) hb) (by simp; omega)) rfl ?_
  rintro v19 w20 ⟨rfl, rfl⟩
  rw [tkV_eq (tk_two hx l)]
  refine Ls_run (run_move rfl) rfl ?_
  refine Ls_run (run_extract rfl rfl) rfl ?_
  refine Ls_run (run_extract rfl rfl) rfl ?_
  refine Ls_run (run_extract rfl rfl) rfl ?_
  refine Ls_run (run_assign rfl) rfl ?_
  refine Ls_run (run_assign rfl) rfl ?_
  refine Ls_run (run_assign rfl) rfl ?_
  refine Ls_nil ?_
  refine Jm_seq ?_
  refine St_seq ?_
  refine St_region ?_
  refine Ls_run (run_move rfl) rfl ?_
  refine Ls_run (run_move rfl) rfl ?_
  refine Ls_literal [_, _] hs Try.underlying58 inf22 rfl rfl rfl rfl rfl rfl ?_
  intro b21 w22 hs
  simp only [List.flatMap_cons, List.flatMap_nil, Value.cells, List.cons_append, List.nil_append] at hs
  refine Ls_call Try.func36 nm36 rfl rfl (Join_c w22 _ _ _ [Value.slice Ad 8 cd, Value.slice A n c] [wd 8 x, l] (rd_block (hs.is_at 0 rfl).2 1 2 rfl) (Parts.cons (hs.rd_at 5 rfl) (Parts.cons (hr.inB hs) (Parts.nil _))) (by simp [wd_len]; omega) (by omega)) rfl ?_
  rintro v23 w24 ⟨Aj2, cj2, rfl, hsj2⟩
  replace hs := hs.trans hsj2
  refine Ls_call Try.func37 nm37 rfl rfl (TakeWord_c w24 _ _ _ [wd 8 x, l].flatten (hs.rd_at 0 rfl) (IsBytes.two (wd_bytes 8 x) hb) (by simp [wd_len]; omega)) rfl ?_
  rintro v25 w26 ⟨rfl, (⟨hbad, _⟩ | ⟨_, rfl⟩)⟩
  · exfalso; simp [wd_len] at hbad; omega
  rw [tw_two hx l]
  refine Ls_run (run_move rfl) rfl ?_
  refine Ls_run (run_extract rfl rfl) rfl ?_
  refine Ls_run (run_extract rfl rfl) rfl ?_
  refine Ls_run (run_assign rfl) rfl ?_
  refine Ls_run (run_assign rfl) rfl ?_
  refine Ls_nil ?_
  refine Jm_seq ?_
  refine St_seq ?_
  refine St_region ?_
  refine Ls_run (run_move rfl) rfl ?_
  refine Ls_run (run_move rfl) rfl ?_
  refine Ls_run (run_asB (c := true) (run_eql rfl rfl) (decide_eq_true rfl)) rfl ?_
  refine Ls_run (run_move rfl) rfl ?_
  refine Ls_on rfl rfl ?_
  refine Ls_run (run_move rfl) rfl ?_
  refine Ls_on rfl rfl ?_
  refine Ls_run (run_move rfl) rfl ?_
  refine Ls_on rfl rfl ?_
  refine Ls_run (run_len Try.underlying22 rfl) rfl ?_
  refine Ls_on rfl rfl ?_
  refine Ls_run (run_asB (c := true) (run_eql rfl rfl) (decide_eq_true rfl)) rfl ?_
  refine Ls_run (run_pick_t rfl rfl) rfl ?_
  refine Ls_run (run_move rfl) rfl ?_
  refine Ls_on rfl rfl ?_
  refine Ls_run (run_move rfl) rfl ?_
  refine Ls_on rfl rfl ?_
  refine Ls_run (run_asB (c := true) (run_eql rfl rfl) rfl) rfl ?_
  refine Ls_run (run_pick_t rfl rfl) rfl ?_
  refine Ls_run (run_move rfl) rfl ?_
  refine Ls_on rfl rfl ?_
  refine Ls_run (run_move rfl) rfl ?_
  refine Ls_on rfl rfl ?_
  refine Ls_run (run_move rfl) rfl ?_
  refine Ls_on rfl rfl ?_
  refine Ls_run (run_asB (c := true) (run_eql rfl rfl) (decide_eq_true rfl)) rfl ?_
  refine Ls_run (run_pick_t rfl rfl) rfl ?_
  refine Ls_run (run_move rfl) rfl ?_
  refine Ls_on rfl rfl ?_
  refine Ls_run (run_move rfl) rfl ?_
  refine Ls_on rfl rfl ?_
  refine Ls_run (run_asB (c := true) (run_eql rfl rfl) rfl) rfl ?_
  refine Ls_run (run_pick_t rfl rfl) rfl ?_
  refine Ls_run (run_assign rfl) rfl ?_
  refine Ls_nil ?_
  refine Jm_seq ?_
  refine St_ret ?_
  refine Jm_ret1 rfl rfl ?_
  exact ⟨_, rfl, rfl, hs.below⟩
end Go.Proofs.Ytnmeaokfcalbbaa.Lg
