/-
  The law WireRuns, walked. By program (gen/wire6.py).
-/
import Derived.Test.YtnmeaokfcalbbaaWire5
set_option linter.unusedVariables false
set_option linter.unusedSimpArgs false
namespace Go.Proofs.Ytnmeaokfcalbbaa.Lg
open Go Go.RowKit Go.Proofs.Ytnmeaokfcalbbaa.WirePure
set_option maxRecDepth 100000 in
set_option maxHeartbeats 4000000 in
theorem WireRuns_c (w : World) (A : Option Addr) (n c : Nat) (vs : List Value) (ls : List (List Int)) (hr : Rd w A n c 1 (El.val.flat vs)) (hp : Parts w vs ls) (hll : ls.length = n) (hb : ∀ l ∈ ls, ∀ x ∈ l, 0 ≤ x ∧ x ≤ 255) (hn : (ls.map List.length).sum + ls.length ≤ 1048576) :
    Calls Try.prog 11 [.slice A n c].toArray w (Ret (fun v' w' => v' = .bool true ∧ Below w.heap.size w w')) := by
  have hs := Sat.start w
  have hvl : vs.length = n := by have := hp.1; omega
  have hsum := run_sum ls (fun l hl => by have := sum_mem hl; omega)
  obtain ⟨R, hR⟩ : ∃ R, R = ls.map run := ⟨_, rfl⟩
  have hRl : R.length = n := by rw [hR, List.length_map, hll]
  have hRb : ∀ l ∈ R, ∀ x ∈ l, 0 ≤ x ∧ x ≤ 255 := by
    intro l hl; rw [hR] at hl; obtain ⟨q, hq, rfl⟩ := List.mem_map.1 hl; exact run_bytes (hb q hq)
  rw [← hR] at hsum
  refine Calls_body Try.func11 rfl rfl rfl (envE_cons (i := 0) (v := .slice A n c) rfl envE_nil) ?_
  refine St_seq ?_
  refine St_region ?_
  refine Ls_run (run_assign rfl) rfl ?_
  refine Ls_nil ?_
  refine Jm_seq ?_
  refine St_seq ?_
  refine St_seq ?_
  refine St_draw (fun x => Below w.heap.size w x) mixed ?_
  intro w1 q2
  have hH := q2.below
  replace hs := hs.quiet q2
  refine An_grow hH ?_
  replace hH := Below.refl w1.heap.size w1
  refine An_only 0 (by kernel_rfl) rfl ?_
  refine Ls_call Try.func15 nm15 rfl rfl (awake_c w1) rfl ?_
  rintro v3 w4 ⟨rfl, hsA⟩
  replace hs := hs.trans hsA
  replace hH := (hsA.below : Below w1.heap.size w1 w4)
  refine Ls_nil (Jm_An hH ?_)
  refine An_grow hH ?_
  replace hH := Below.refl w4.heap.size w4
  refine An_take 1 rfl (by kernel_rfl) (by kernel_rfl) (by kernel_rfl) (fun _ _ _ h => h) hH (fun x hx => run_not rfl) rfl ?_
  refine An_take 2 rfl (by kernel_rfl) (by kernel_rfl) (by kernel_rfl) (fun _ _ _ h => h) hH (fun x hx => run_move rfl) rfl ?_
  refine An_take_on 3 rfl (by kernel_rfl) (by kernel_rfl) (by kernel_rfl) rfl rfl (fun _ _ _ h => h) hH (fun x hx => run_move rfl) rfl ?_
  refine An_take_on 6 rfl (by kernel_rfl) (by kernel_rfl) (by kernel_rfl) rfl rfl (fun _ _ _ h => h) hH (fun x hx => run_move rfl) rfl ?_
  refine An_only 4 (by kernel_rfl) rfl ?_
  refine Ls_on rfl rfl ?_
  refine Ls_call Try.func36 nm36 rfl rfl (Join_c w4 A n c vs ls (hr.inB hs) (hp.inB hs) (by omega) (by omega)) rfl ?_
  rintro v5 w6 ⟨Aj, cj, rfl, hsj⟩
  replace hs := hs.trans hsj
  replace hH := (hsj.below : Below w4.heap.size w4 w6)
  refine Ls_nil (Jm_An hH ?_)
  refine An_grow hH ?_
  replace hH := Below.refl w6.heap.size w6
  refine An_take_on 5 rfl (by kernel_rfl) (by kernel_rfl) (by kernel_rfl) rfl rfl (fun _ _ _ h => h) hH (fun x hx => run_string Try.underlying22 Try.underlying5 Try.underlying9 rfl ((hs.rd_at 0 rfl).grow hx)) rfl ?_
  refine An_only 7 (by kernel_rfl) rfl ?_
  refine Ls_on rfl rfl ?_
  refine Ls_call Try.func38 nm38 rfl rfl (rJoin_c w6 A n c vs ls (hr.inB hs) (hp.inB hs) (by omega) (by omega)) rfl ?_
  rintro v7 w8 ⟨Arj, crj, rfl, hsrj⟩
  replace hs := hs.trans hsrj
  replace hH := (hsrj.below : Below w6.heap.size w6 w8)
  refine Ls_nil (Jm_An hH ?_)
  refine An_grow hH ?_
  replace hH := Below.refl w8.heap.size w8
  refine An_take_on 8 rfl (by kernel_rfl) (by kernel_rfl) (by kernel_rfl) rfl rfl (fun _ _ _ h => h) hH (fun x hx => run_string Try.underlying22 Try.underlying5 Try.underlying9 rfl ((hs.rd_at 0 rfl).grow hx)) rfl ?_
  refine An_take_on 9 rfl (by kernel_rfl) (by kernel_rfl) (by kernel_rfl) rfl rfl (fun _ _ _ h => h) hH (fun x hx => run_asB (c := false) (run_neq_str rfl rfl) (by simp)) rfl ?_
  refine An_take 10 rfl (by kernel_rfl) (by kernel_rfl) (by kernel_rfl) (fun _ _ _ h => h) hH (fun x hx => run_pick_f rfl rfl) rfl ?_
  refine An_done (by kernel_rfl) ?_
  refine Jm_seq ?_
  refine St_iff rfl ?_
  refine St_skip ?_
  refine Jm_seq ?_
  refine St_seq ?_
  refine St_region ?_
  refine Ls_run (run_assign rfl) rfl ?_
  refine Ls_nil ?_
  refine Jm_seq ?_
  refine St_seq ?_
  refine St_seq ?_
  refine St_region ?_
  refine Ls_run (run_assign rfl) rfl ?_
  refine Ls_nil ?_
  refine Jm_seq ?_
  refine St_block ?_
  replace hs := hs.erase 0
  simp only [List.cons_append, List.nil_append, List.eraseIdx_cons_zero, List.eraseIdx_cons_succ] at hs
  replace hs := hs.erase 0
  simp only [List.cons_append, List.nil_append, List.eraseIdx_cons_zero, List.eraseIdx_cons_succ] at hs
  replace hs := hs.own_nil 5 1
  obtain ⟨En10, hEn10⟩ : ∃ F : Nat × Value × Nat → Env, ∀ (i : Nat) (v : Value) (m : Nat), F (i, v, m) = [(0, .slice A n c), (4, .int .i64 (i : Int)), (3, v)] := ⟨(fun (s : Nat × Value × Nat) => match s with | (i, v, m) => [(0, .slice A n c), (4, .int .i64 (i : Int)), (3, v)]), fun _ _ _ => rfl⟩
  obtain ⟨Iv11, hIv11⟩ : ∃ F : Nat × Value × Nat → World → Prop, ∀ (i : Nat) (v : Value) (m : Nat) (wr : World), F (i, v, m) wr = (Sat w wr [Own 5 1 v m (bytesV (R.take i).flatten)] ∧ i ≤ n ∧ m = upto R i) := ⟨(fun (s : Nat × Value × Nat) => match s with | (i, v, m) => fun (wr : World) => Sat w wr [Own 5 1 v m (bytesV (R.take i).flatten)] ∧ i ≤ n ∧ m = upto R i), fun _ _ _ _ => rfl⟩
  obtain ⟨ms12, hms12⟩ : ∃ F : Nat × Value × Nat → Nat, ∀ (i : Nat) (v : Value) (m : Nat), F (i, v, m) = (n - i) := ⟨(fun (s : Nat × Value × Nat) => match s with | (i, v, m) => n - i), fun _ _ _ => rfl⟩
  refine St_loop En10 Iv11 ms12 (0, Value.slice none 0 0, 0) ?_ ?_ ?_
  · skip
    rw [hIv11]
    exact ⟨by simpa [bytesV] using hs, by omega, by simp [upto]⟩
  · rw [hEn10]; exact (subE_cons rfl (subE_cons rfl (subE_cons rfl subE_nil)))
  rintro ⟨i, v, m⟩ wr hI13
  rw [hIv11] at hI13
  obtain ⟨hs, hi, hm⟩ := hI13
  refine St_eqE (hEn10 _ _ _) ?_
  refine St_seq ?_
  refine St_seq ?_
  refine St_region ?_
  refine Ls_run (run_move rfl) rfl ?_
  refine Ls_run (run_move rfl) rfl ?_
  refine Ls_run (run_len Try.underlying58 rfl) rfl ?_
  refine Ls_run (run_lss rfl rfl) rfl ?_
  refine Ls_nil ?_
  refine Jm_seq ?_
  refine St_ifP rfl (fun h14 => ?_) (fun h14 => ?_)
  · skip
    refine St_skip ?_
    refine Jm_seq ?_
    refine St_seq ?_
    refine St_block ?_
    refine St_seq ?_
    refine St_region ?_
    refine Ls_run (run_move rfl) rfl ?_
    refine Ls_run (run_move rfl) rfl ?_
    obtain ⟨Ai, ni, ci, hvi, hri⟩ := hp.2 i (by omega)
    have hli := rdB_len hri
    have hmi := getD_mem_ls (ls := ls) (i := i) (by omega)
    have hsi := sum_mem hmi
    have hRi := map_run_getD ls i (by omega)
    rw [← hR] at hRi
    have hus := upto_succ R i (by omega)
    have hule := upto_le R (i + 1)
    rw [hRi] at hus
    have hft := flat_take_succ R i (by omega)
    rw [hRi] at hft
    refine Ls_index (El.val) (hr.inB hs) Try.underlying58 inf22 rfl rfl (by omega) (by omega) hvi rfl ?_
    intro b15 o16 hc17
    refine Ls_run (run_load sc22 rfl (hc17 0 _ rfl)) rfl ?_
    refine Ls_call Try.func39 nm39 rfl rfl (Run_c wr Ai ni ci (ls.getD i []) (hri.inB hs) (by omega)) rfl ?_
    rintro v18 w19 ⟨Ar, cr, rfl, hsr⟩
    rw [show pb ni ++ ls.getD i [] = run (ls.getD i []) by rw [run, hli]] at hsr ⊢
    replace hs := hs.trans hsr
    refine Ls_run (run_assign rfl) rfl ?_
    refine Ls_nil ?_
    refine Jm_seq ?_
    refine St_seq ?_
    refine St_seq ?_
    refine St_draw (fun x => Below w19.heap.size w19 x) mixed ?_
    intro w20 q21
    have hH := q21.below
    replace hs := hs.quiet q21
    refine An_grow hH ?_
    replace hH := Below.refl w20.heap.size w20
    refine An_take 0 rfl (by kernel_rfl) (by kernel_rfl) (by kernel_rfl) (fun _ _ _ h => h) hH (fun x hx => run_move rfl) rfl ?_
    refine An_take 1 rfl (by kernel_rfl) (by kernel_rfl) (by kernel_rfl) (fun _ _ _ h => h) hH (fun x hx => run_string Try.underlying22 Try.underlying5 Try.underlying9 rfl ((hs.rd_at 0 rfl).grow hx)) rfl ?_
    refine An_take 2 rfl (by kernel_rfl) (by kernel_rfl) (by kernel_rfl) (fun _ _ _ h => h) hH (fun x hx => run_move rfl) rfl ?_
    refine An_take 3 rfl (by kernel_rfl) (by kernel_rfl) (by kernel_rfl) (fun _ _ _ h => h) hH (fun x hx => run_move rfl) rfl ?_
    refine An_index 4 (El.val) rfl (by kernel_rfl) (by kernel_rfl) (by kernel_rfl) (fun _ _ _ _ h => h) hH (fun x hx => ((hr.inB hs).grow hx)) Try.underlying58 inf22 rfl rfl (by omega) (by omega) hvi rfl ?_
    intro b22 o23 hc24
    refine An_take 5 rfl (by kernel_rfl) (by kernel_rfl) (by kernel_rfl) (fun _ _ _ h => h) hH (fun x hx => run_load sc22 rfl (hc24 x hx 0 _ rfl)) rfl ?_
    refine An_only 6 (by kernel_rfl) rfl ?_
    refine Ls_call Try.func40 nm40 rfl rfl (rRun_c w20 Ai ni ci (ls.getD i []) (hri.inB hs) (by omega)) rfl ?_
    rintro v25 w26 ⟨Arr, crr, rfl, hsrr⟩
    rw [show pb ni ++ ls.getD i [] = run (ls.getD i []) by rw [run, hli]] at hsrr ⊢
    replace hs := hs.trans hsrr
    replace hH := (hsrr.below : Below w20.heap.size w20 w26)
    refine Ls_nil (Jm_An hH ?_)
    refine An_grow hH ?_
    replace hH := Below.refl w26.heap.size w26
    refine An_take 7 rfl (by kernel_rfl) (by kernel_rfl) (by kernel_rfl) (fun _ _ _ h => h) hH (fun x hx => run_string Try.underlying22 Try.underlying5 Try.underlying9 rfl ((hs.rd_at 0 rfl).grow hx)) rfl ?_
    refine An_take 8 rfl (by kernel_rfl) (by kernel_rfl) (by kernel_rfl) (fun _ _ _ h => h) hH (fun x hx => run_asB (c := false) (run_neq_str rfl rfl) (by simp)) rfl ?_
    refine An_done (by kernel_rfl) ?_
    refine Jm_seq ?_
    refine St_iff rfl ?_
    refine St_skip ?_
    refine Jm_seq ?_
    refine St_region ?_
    refine Ls_run (run_move rfl) rfl ?_
    refine Ls_run (run_move rfl) rfl ?_
    replace hs := hs.front 2 rfl
    simp only [List.cons_append, List.nil_append, List.eraseIdx_cons_zero, List.eraseIdx_cons_succ] at hs
    refine Ls_append hs Try.underlying22 inf5 rfl (by decide) (by decide) rfl rfl (hs.rd_at 2 rfl) (bytesV_one' _) (by omega) rfl ?_
    intro A28 c29 w30 hs
    refine Ls_run (run_assign rfl) rfl ?_
    refine Ls_nil ?_
    refine Jm_block_normal (Jm_seq ?_)
    refine St_region ?_
    refine Ls_run (run_move rfl) rfl ?_
    refine Ls_run (run_add rfl rfl (w64 (by omega))) rfl ?_
    refine Ls_run (run_assign rfl) rfl ?_
    refine Ls_nil ?_
    replace hs := hs.only
    refine Jm_round (i + 1, Value.slice A28 (m + (run (ls.getD i [])).length) c29, m + (run (ls.getD i [])).length) ?_ ?_ ?_
    · rw [hEn10]; exact (subE_cons rfl (subE_cons rfl (subE_cons rfl subE_nil)))
    · skip
      rw [hIv11]
      refine ⟨?_, by omega, by omega⟩
      rw [hft, bytesV_append]; exact hs
    · skip
      rw [hms12, hms12]
      omega
  · skip
    refine St_exit ?_
    refine Jm_then_exit (Jm_then_exit (Jm_block_same (Jm_seq ?_)))
    refine St_seq ?_
    refine St_seq ?_
    refine St_region ?_
    refine Ls_run (run_assign rfl) rfl ?_
    refine Ls_nil ?_
    refine Jm_seq ?_
    refine St_block ?_
    have hi9 : i = n := by omega
    rw [hi9, List.take_of_length_le (by omega)] at hs
    obtain ⟨A9, c9, rfl, _, _, _⟩ := hs.own_form
    have hall := hs.rd_at 0 rfl
    have hbel := hs.below
    replace hr := hr.inB hs
    replace hp := hp.inB hs
    replace hs := Sat.start wr
    obtain ⟨En31, hEn31⟩ : ∃ F : Nat × Option Addr × Nat × Nat → Env, ∀ (i : Nat) (A2 : Option Addr) (m2 : Nat) (c2 : Nat), F (i, A2, m2, c2) = [(0, .slice A n c), (6, .int .i64 (i : Int)), (3, .slice A2 m2 c2)] := ⟨(fun (s : Nat × Option Addr × Nat × Nat) => match s with | (i, A2, m2, c2) => [(0, .slice A n c), (6, .int .i64 (i : Int)), (3, .slice A2 m2 c2)]), fun _ _ _ _ => rfl⟩
    obtain ⟨Iv32, hIv32⟩ : ∃ F : Nat × Option Addr × Nat × Nat → World → Prop, ∀ (i : Nat) (A2 : Option Addr) (m2 : Nat) (c2 : Nat) (wr2 : World), F (i, A2, m2, c2) wr2 = (Sat wr wr2 [] ∧ i ≤ n ∧ Rd wr A2 m2 c2 1 (bytesV (R.drop i).flatten)) := ⟨(fun (s : Nat × Option Addr × Nat × Nat) => match s with | (i, A2, m2, c2) => fun (wr2 : World) => Sat wr wr2 [] ∧ i ≤ n ∧ Rd wr A2 m2 c2 1 (bytesV (R.drop i).flatten)), fun _ _ _ _ _ => rfl⟩
    obtain ⟨ms33, hms33⟩ : ∃ F : Nat × Option Addr × Nat × Nat → Nat, ∀ (i : Nat) (A2 : Option Addr) (m2 : Nat) (c2 : Nat), F (i, A2, m2, c2) = (n - i) := ⟨(fun (s : Nat × Option Addr × Nat × Nat) => match s with | (i, A2, m2, c2) => n - i), fun _ _ _ _ => rfl⟩
    refine St_loop En31 Iv32 ms33 (0, A9, m, c9) ?_ ?_ ?_
    · skip
      rw [hIv32]
      exact ⟨hs, by omega, by simpa using hall⟩
    · rw [hEn31]; exact (subE_cons rfl (subE_cons rfl (subE_cons rfl subE_nil)))
    rintro ⟨i, A2, m2, c2⟩ wr2 hI34
    rw [hIv32] at hI34
    obtain ⟨hs, hi, hv⟩ := hI34
    refine St_eqE (hEn31 _ _ _ _) ?_
    refine St_seq ?_
    refine St_seq ?_
    refine St_region ?_
    refine Ls_run (run_move rfl) rfl ?_
    refine Ls_run (run_move rfl) rfl ?_
    refine Ls_run (run_len Try.underlying58 rfl) rfl ?_
    refine Ls_run (run_lss rfl rfl) rfl ?_
    refine Ls_nil ?_
    refine Jm_seq ?_
    refine St_ifP rfl (fun h35 => ?_) (fun h35 => ?_)
    · skip
      refine St_skip ?_
      refine Jm_seq ?_
      refine St_seq ?_
      refine St_block ?_
      refine St_seq ?_
      refine St_region ?_
      refine Ls_run (run_move rfl) rfl ?_
      obtain ⟨Ai, ni, ci, hvi, hri⟩ := hp.2 i (by omega)
      have hli := rdB_len hri
      have hmi := getD_mem_ls (ls := ls) (i := i) (by omega)
      have hsi := sum_mem hmi
      have hRi := map_run_getD ls i (by omega)
      rw [← hR] at hRi
      have hdf := drop_flat R i (by omega)
      rw [hRi] at hdf
      have htr := trun_run (ls.getD i []) (R.drop (i + 1)).flatten (by omega)
      rw [← hdf] at htr
      have hvlen := rdB_len hv
      have hm2 : m2 ≤ 11534336 := by
        have q1 := flat_len (R.drop i)
        have q2 : ((R.drop i).map List.length).sum ≤ (R.map List.length).sum := by
          have : (R.map List.length).sum = ((R.take i).map List.length).sum + ((R.drop i).map List.length).sum := by rw [← List.sum_append, ← List.map_append, List.take_append_drop]
          omega
        omega
      have hq1 : (R.drop i).flatten.length = (run (ls.getD i [])).length + (R.drop (i + 1)).flatten.length := by rw [hdf, List.length_append]
      have hq2 := WirePure.run_len (ls.getD i [])
      have hq3 := pb_pos (ls.getD i []).length
      refine Ls_call Try.func41 nm41 rfl rfl (TakeRun_c wr2 _ _ _ (R.drop i).flatten (hv.inB hs) (flat_bytes (fun l hl => hRb l (List.mem_of_mem_drop hl))) (by omega)) rfl ?_
      rintro v36 w37 ⟨As, cs, rfl, hss⟩
      simp only [htr] at hss ⊢
      replace hs := hs.trans hss
      refine Ls_run (run_move rfl) rfl ?_
      refine Ls_run (run_extract rfl rfl) rfl ?_
      refine Ls_run (run_extract rfl rfl) rfl ?_
      refine Ls_run (run_extract rfl rfl) rfl ?_
      refine Ls_run (run_assign rfl) rfl ?_
      refine Ls_run (run_assign rfl) rfl ?_
      refine Ls_run (run_assign rfl) rfl ?_
      refine Ls_nil ?_
      refine Jm_seq ?_
      refine St_seq ?_
      refine St_seq ?_
      refine St_draw (fun x => Below w37.heap.size w37 x) mixed ?_
      intro w38 q39
      have hH := q39.below
      replace hs := hs.quiet q39
      refine An_grow hH ?_
      replace hH := Below.refl w38.heap.size w38
      refine An_take 0 rfl (by kernel_rfl) (by kernel_rfl) (by kernel_rfl) (fun _ _ _ h => h) hH (fun x hx => run_move rfl) rfl ?_
      refine An_take 1 rfl (by kernel_rfl) (by kernel_rfl) (by kernel_rfl) (fun _ _ _ h => h) hH (fun x hx => run_asB (c := false) (run_neq rfl rfl) (by simp)) rfl ?_
      refine An_take 2 rfl (by kernel_rfl) (by kernel_rfl) (by kernel_rfl) (fun _ _ _ h => h) hH (fun x hx => run_move rfl) rfl ?_
      refine An_take_on 3 rfl (by kernel_rfl) (by kernel_rfl) (by kernel_rfl) rfl rfl (fun _ _ _ h => h) hH (fun x hx => run_move rfl) rfl ?_
      refine An_take_on 4 rfl (by kernel_rfl) (by kernel_rfl) (by kernel_rfl) rfl rfl (fun _ _ _ h => h) hH (fun x hx => run_string Try.underlying22 Try.underlying5 Try.underlying9 rfl ((hs.rd_at 0 rfl).grow hx)) rfl ?_
      refine An_take_on 5 rfl (by kernel_rfl) (by kernel_rfl) (by kernel_rfl) rfl rfl (fun _ _ _ h => h) hH (fun x hx => run_move rfl) rfl ?_
      refine An_take_on 6 rfl (by kernel_rfl) (by kernel_rfl) (by kernel_rfl) rfl rfl (fun _ _ _ h => h) hH (fun x hx => run_move rfl) rfl ?_
      refine An_index_on 7 (El.val) rfl (by kernel_rfl) (by kernel_rfl) (by kernel_rfl) rfl rfl (fun _ _ _ _ h => h) hH (fun x hx => ((hr.inB hs).grow hx)) Try.underlying58 inf22 rfl rfl (by omega) (by omega) hvi rfl ?_
      intro b40 o41 hc42
      refine An_take_on 8 rfl (by kernel_rfl) (by kernel_rfl) (by kernel_rfl) rfl rfl (fun _ _ _ h => h) hH (fun x hx => run_load sc22 rfl (hc42 x hx 0 _ rfl)) rfl ?_
      refine An_take_on 9 rfl (by kernel_rfl) (by kernel_rfl) (by kernel_rfl) rfl rfl (fun _ _ _ h => h) hH (fun x hx => run_string Try.underlying22 Try.underlying5 Try.underlying9 rfl ((hri.inB hs).grow hx)) rfl ?_
      refine An_take_on 10 rfl (by kernel_rfl) (by kernel_rfl) (by kernel_rfl) rfl rfl (fun _ _ _ h => h) hH (fun x hx => run_asB (c := false) (run_neq_str rfl rfl) (by simp)) rfl ?_
      refine An_take 11 rfl (by kernel_rfl) (by kernel_rfl) (by kernel_rfl) (fun _ _ _ h => h) hH (fun x hx => run_pick_f rfl rfl) rfl ?_
      refine An_take 12 rfl (by kernel_rfl) (by kernel_rfl) (by kernel_rfl) (fun _ _ _ h => h) hH (fun x hx => run_move rfl) rfl ?_
      refine An_take_on 13 rfl (by kernel_rfl) (by kernel_rfl) (by kernel_rfl) rfl rfl (fun _ _ _ h => h) hH (fun x hx => run_move rfl) rfl ?_
      refine An_take_on 14 rfl (by kernel_rfl) (by kernel_rfl) (by kernel_rfl) rfl rfl (fun _ _ _ h => h) hH (fun x hx => run_asB (c := false) (run_lss rfl rfl) (decide_eq_false (by omega))) rfl ?_
      refine An_take 15 rfl (by kernel_rfl) (by kernel_rfl) (by kernel_rfl) (fun _ _ _ h => h) hH (fun x hx => run_pick_f rfl rfl) rfl ?_
      refine An_take 16 rfl (by kernel_rfl) (by kernel_rfl) (by kernel_rfl) (fun _ _ _ h => h) hH (fun x hx => run_move rfl) rfl ?_
      refine An_take_on 17 rfl (by kernel_rfl) (by kernel_rfl) (by kernel_rfl) rfl rfl (fun _ _ _ h => h) hH (fun x hx => run_move rfl) rfl ?_
      refine An_take_on 18 rfl (by kernel_rfl) (by kernel_rfl) (by kernel_rfl) rfl rfl (fun _ _ _ h => h) hH (fun x hx => run_move rfl) rfl ?_
      refine An_take_on 19 rfl (by kernel_rfl) (by kernel_rfl) (by kernel_rfl) rfl rfl (fun _ _ _ h => h) hH (fun x hx => run_len Try.underlying22 rfl) rfl ?_
      refine An_take_on 20 rfl (by kernel_rfl) (by kernel_rfl) (by kernel_rfl) rfl rfl (fun _ _ _ h => h) hH (fun x hx => run_asB (c := false) (run_gtr rfl rfl) (decide_eq_false (by omega))) rfl ?_
      refine An_take 21 rfl (by kernel_rfl) (by kernel_rfl) (by kernel_rfl) (fun _ _ _ h => h) hH (fun x hx => run_pick_f rfl rfl) rfl ?_
      refine An_done (by kernel_rfl) ?_
      refine Jm_seq ?_
      refine St_iff rfl ?_
      refine St_skip ?_
      refine Jm_seq ?_
      refine St_region ?_
      refine Ls_run (run_move rfl) rfl ?_
      refine Ls_run (run_move rfl) rfl ?_
      refine Ls_run (run_slice_l Try.underlying22 inf5 rfl rfl (by omega) (by omega)) rfl ?_
      refine Ls_run (run_assign rfl) rfl ?_
      refine Ls_nil ?_
      refine Jm_block_normal (Jm_seq ?_)
      refine St_region ?_
      refine Ls_run (run_move rfl) rfl ?_
      refine Ls_run (run_add rfl rfl (w64 (by omega))) rfl ?_
      refine Ls_run (run_assign rfl) rfl ?_
      refine Ls_nil ?_
      refine Jm_round (i + 1, if c2 = (pb (ls.getD i []).length).length + (ls.getD i []).length then A2 else A2.map (·.add (((pb (ls.getD i []).length).length + (ls.getD i []).length) * 1)), m2 - ((pb (ls.getD i []).length).length + (ls.getD i []).length), c2 - ((pb (ls.getD i []).length).length + (ls.getD i []).length)) ?_ ?_ ?_
      · rw [hEn31]; exact (subE_cons rfl (subE_cons rfl (subE_cons rfl subE_nil)))
      · skip
        rw [hIv32]
        refine ⟨hs.forget, by omega, ?_⟩
        have hd := rdB_drop hv ((pb (ls.getD i []).length).length + (ls.getD i []).length) (by omega)
        rw [hdf, ← hq2, List.drop_left] at hd
        rw [← hq2]; exact hd
      · skip
        rw [hms33, hms33]
        omega
    · skip
      refine St_exit ?_
      refine Jm_then_exit (Jm_then_exit (Jm_block_same (Jm_seq ?_)))
      refine St_seq ?_
      refine St_region ?_
      refine Ls_run (run_move rfl) rfl ?_
      refine Ls_run (run_len Try.underlying22 rfl) rfl ?_
      refine Ls_run (run_eql rfl rfl) rfl ?_
      refine Ls_run (run_assign rfl) rfl ?_
      refine Ls_nil ?_
      refine Jm_seq ?_
      refine St_ret ?_
      refine Jm_ret1 rfl rfl ?_
      have hi9 : i = n := by omega
      have hvlen := rdB_len hv
      rw [hi9, List.drop_eq_nil_of_le (by omega)] at hvlen
      simp at hvlen
      exact ⟨_, rfl, by simp [← hvlen], hbel.trans (hs.below.mono hbel.size)⟩
end Go.Proofs.Ytnmeaokfcalbbaa.Lg
