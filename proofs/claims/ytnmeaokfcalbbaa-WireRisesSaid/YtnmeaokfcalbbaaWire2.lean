/-
  Two laws of the wire, walked: WireForm and WireRises. By program (gen/wire2.py).
-/
import Derived.Test.YtnmeaokfcalbbaaWire1
import Derived.Test.YtnmeaokfcalbbaaDr
set_option linter.unusedVariables false
set_option linter.unusedSimpArgs false
namespace Go.Proofs.Ytnmeaokfcalbbaa.Lg
open Go Go.RowKit Go.Proofs.Ytnmeaokfcalbbaa.WirePure
set_option maxRecDepth 100000 in
set_option maxHeartbeats 4000000 in
theorem WireRises_c (w : World) (x y : Nat) (hx : x < 18446744073709551616) (hy : y < 18446744073709551616) :
    Calls Try.prog 4 [.int .u64 (x : Int), .int .u64 (y : Int)].toArray w (Ret (fun v' w' => v' = .bool true ∧ Below w.heap.size w w')) := by
  have hs := Sat.start w
  have h10 := pb_len10 hx
  refine Calls_body Try.func4 rfl rfl rfl (envE_cons (i := 0) (v := .int .u64 (x : Int)) rfl (envE_cons (i := 1) (v := .int .u64 (y : Int)) rfl envE_nil)) ?_
  refine St_seq ?_
  refine St_region ?_
  refine Ls_run (run_assign rfl) rfl ?_
  refine Ls_nil ?_
  refine Jm_seq ?_
  refine St_seq ?_
  refine St_seq ?_
  refine St_region ?_
  refine Ls_call Try.func15 nm15 rfl rfl (awake_c w) rfl ?_
  rintro v1 w2 ⟨rfl, hsA⟩
  replace hs := hs.trans hsA
  refine Ls_run (run_not rfl) rfl ?_
  refine Ls_nil ?_
  refine Jm_seq ?_
  refine St_iff rfl ?_
  refine St_skip ?_
  refine Jm_seq ?_
  refine St_seq ?_
  refine St_seq ?_
  refine St_region ?_
  refine Ls_run (run_move rfl) rfl ?_
  refine Ls_run (run_move rfl) rfl ?_
  refine Ls_run (run_gtr rfl rfl) rfl ?_
  refine Ls_nil ?_
  refine Jm_seq ?_
  refine St_ifP rfl (fun h4 => ?_) (fun h4 => ?_)
  · skip
    refine St_seq ?_
    refine St_region ?_
    refine Ls_run (run_move rfl) rfl ?_
    refine Ls_call Try.func16 nm16 rfl rfl (Put_c w2 x (by omega)) rfl ?_
    rintro v5 w6 ⟨A1, c1, rfl, hs1⟩
    replace hs := hs.trans hs1
    refine Ls_run (run_len Try.underlying22 rfl) rfl ?_
    refine Ls_run (run_move rfl) rfl ?_
    refine Ls_call Try.func16 nm16 rfl rfl (Put_c w6 y (by omega)) rfl ?_
    rintro v7 w8 ⟨A2, c2, rfl, hs2⟩
    replace hs := hs.trans hs2
    refine Ls_run (run_len Try.underlying22 rfl) rfl ?_
    refine Ls_run (run_geq rfl rfl) rfl ?_
    refine Ls_run (run_assign rfl) rfl ?_
    refine Ls_nil ?_
    refine Jm_seq ?_
    refine St_ret ?_
    refine Jm_then_ret  ?_
    refine Jm_ret1 rfl rfl ?_
    have hm := pb_len_mono y x
    have hsh := pb_len_shift x
    exact ⟨_, rfl, by first | rfl | (congr 1; exact decide_eq_true (by omega)), hs.below⟩
  · skip
    refine St_skip ?_
    refine Jm_seq ?_
    refine St_seq ?_
    refine St_region ?_
    refine Ls_run (run_move rfl) rfl ?_
    refine Ls_run (run_geq rfl rfl) rfl ?_
    refine Ls_run (run_move rfl) rfl ?_
    refine Ls_partP (t := 19) rfl (fun h9 => ?_) (fun h9 => ?_)
    · skip
      refine Ls_off rfl rfl rfl rfl ?_
      refine Ls_off rfl rfl rfl rfl ?_
      refine Ls_run (run_pick_t rfl rfl) rfl ?_
      refine Ls_run (run_move rfl) rfl ?_
      refine Ls_off rfl rfl rfl rfl ?_
      refine Ls_off rfl rfl rfl rfl ?_
      refine Ls_off rfl rfl rfl rfl ?_
      refine Ls_off rfl rfl rfl rfl ?_
      refine Ls_off rfl rfl rfl rfl ?_
      refine Ls_off rfl rfl rfl rfl ?_
      refine Ls_off rfl rfl rfl rfl ?_
      refine Ls_off rfl rfl rfl rfl ?_
      refine Ls_off rfl rfl rfl rfl ?_
      refine Ls_run (run_pick_t rfl rfl) rfl ?_
      refine Ls_run (run_assign rfl) rfl ?_
      refine Ls_nil ?_
      refine Jm_seq ?_
      refine St_ret ?_
      refine Jm_ret1 rfl rfl ?_
      have hm := pb_len_mono y x
      have hsh := pb_len_shift x
      exact ⟨_, rfl, by first | rfl | (congr 1; exact decide_eq_true (by omega)), hs.below⟩
    · skip
      refine Ls_on rfl rfl ?_
      refine Ls_run (run_move rfl) rfl ?_
      refine Ls_on rfl rfl ?_
      refine Ls_run (run_eql rfl rfl) rfl ?_
      refine Ls_run (run_pick_f rfl rfl) rfl ?_
      refine Ls_run (run_move rfl) rfl ?_
      refine Ls_partP (t := 23) rfl (fun h10 => ?_) (fun h10 => ?_)
      · skip
        refine Ls_off rfl rfl rfl rfl ?_
        refine Ls_off rfl rfl rfl rfl ?_
        refine Ls_off rfl rfl rfl rfl ?_
        refine Ls_off rfl rfl rfl rfl ?_
        refine Ls_off rfl rfl rfl rfl ?_
        refine Ls_off rfl rfl rfl rfl ?_
        refine Ls_off rfl rfl rfl rfl ?_
        refine Ls_off rfl rfl rfl rfl ?_
        refine Ls_off rfl rfl rfl rfl ?_
        refine Ls_run (run_pick_t rfl rfl) rfl ?_
        refine Ls_run (run_assign rfl) rfl ?_
        refine Ls_nil ?_
        refine Jm_seq ?_
        refine St_ret ?_
        refine Jm_ret1 rfl rfl ?_
        have hm := pb_len_mono y x
        have hsh := pb_len_shift x
        exact ⟨_, rfl, by first | rfl | (congr 1; exact decide_eq_true (by omega)), hs.below⟩
      · skip
        refine Ls_on rfl rfl ?_
        refine Ls_run (run_move rfl) rfl ?_
        refine Ls_on rfl rfl ?_
        refine Ls_run (run_shl rfl rfl (by omega) (show _ = ((x * 128 : Nat) : Int) by rw [show min (7 : Int).toNat IntKind.u64.bits = 7 from by decide, wu64 (by omega)]; omega)) rfl ?_
        refine Ls_on rfl rfl ?_
        refine Ls_call Try.func16 nm16 rfl rfl (Put_c w2 (x * 128) (by omega)) rfl ?_
        rintro v11 w12 ⟨A3, c3, rfl, hs3⟩
        replace hs := hs.trans hs3
        refine Ls_on rfl rfl ?_
        refine Ls_run (run_len Try.underlying22 rfl) rfl ?_
        refine Ls_on rfl rfl ?_
        refine Ls_run (run_move rfl) rfl ?_
        refine Ls_on rfl rfl ?_
        refine Ls_call Try.func16 nm16 rfl rfl (Put_c w12 x (by omega)) rfl ?_
        rintro v13 w14 ⟨A4, c4, rfl, hs4⟩
        replace hs := hs.trans hs4
        refine Ls_on rfl rfl ?_
        refine Ls_run (run_len Try.underlying22 rfl) rfl ?_
        refine Ls_on rfl rfl ?_
        refine Ls_run (run_add rfl rfl (w64 (by omega))) rfl ?_
        refine Ls_on rfl rfl ?_
        refine Ls_run (run_eql rfl rfl) rfl ?_
        refine Ls_run (run_pick_f rfl rfl) rfl ?_
        refine Ls_run (run_assign rfl) rfl ?_
        refine Ls_nil ?_
        refine Jm_seq ?_
        refine St_ret ?_
        refine Jm_ret1 rfl rfl ?_
        have hm := pb_len_mono y x
        have hsh := pb_len_shift x
        exact ⟨_, rfl, by first | rfl | (congr 1; exact decide_eq_true (by omega)), hs.below⟩
set_option maxRecDepth 100000 in
set_option maxHeartbeats 4000000 in
theorem WireForm_c (w : World) (A : Option Addr) (n c : Nat) (l : List Int) (x : Nat) (hr : Rd w A n c 1 (bytesV l)) (hb : IsBytes l) (hn : n ≤ 140737488351232) (hx : x < 18446744073709551616) :
    Calls Try.prog 3 [.slice A n c, .int .u64 (x : Int)].toArray w (Ret (fun v' w' => v' = .bool true ∧ Below w.heap.size w w')) := by
  have hs := Sat.start w
  have h10 := pb_len10 hx
  have h1 := pb_pos x
  have hl : l.length = n := by have := hr.len; rw [bytesV_length] at this; omega
  have hcn := hr.cap
  refine Calls_body Try.func3 rfl rfl rfl (envE_cons (i := 0) (v := .slice A n c) rfl (envE_cons (i := 1) (v := .int .u64 (x : Int)) rfl envE_nil)) ?_
  refine St_seq ?_
  refine St_region ?_
  refine Ls_run (run_assign rfl) rfl ?_
  refine Ls_nil ?_
  refine Jm_seq ?_
  refine St_seq ?_
  refine St_seq ?_
  refine St_region ?_
  refine Ls_call Try.func15 nm15 rfl rfl (awake_c w) rfl ?_
  rintro v1 w2 ⟨rfl, hsA⟩
  replace hs := hs.trans hsA
  refine Ls_run (run_not rfl) rfl ?_
  refine Ls_nil ?_
  refine Jm_seq ?_
  refine St_iff rfl ?_
  refine St_skip ?_
  refine Jm_seq ?_
  refine St_seq ?_
  refine St_region ?_
  refine Ls_run (run_move rfl) rfl ?_
  refine Ls_call Try.func16 nm16 rfl rfl (Put_c w2 x (by omega)) rfl ?_
  rintro v4 w5 ⟨A1, c1, rfl, hs1⟩
  replace hs := hs.trans hs1
  refine Ls_run (run_assign rfl) rfl ?_
  refine Ls_nil ?_
  refine Jm_seq ?_
  refine St_seq ?_
  refine St_seq ?_
  refine St_region ?_
  refine Ls_run (run_move rfl) rfl ?_
  refine Ls_run (run_len Try.underlying22 rfl) rfl ?_
  refine Ls_run (run_lss rfl rfl) rfl ?_
  refine Ls_run (run_move rfl) rfl ?_
  refine Ls_partP (t := 20) rfl (fun h6 => ?_) (fun h6 => ?_)
  · skip
    exfalso; omega
  · skip
    refine Ls_on rfl rfl ?_
    refine Ls_run (run_move rfl) rfl ?_
    refine Ls_on rfl rfl ?_
    refine Ls_run (run_len Try.underlying22 rfl) rfl ?_
    refine Ls_on rfl rfl ?_
    refine Ls_run (run_gtr rfl rfl) rfl ?_
    refine Ls_run (run_pick_f rfl rfl) rfl ?_
    refine Ls_nil ?_
    refine Jm_seq ?_
    refine St_ifP rfl (fun h7 => ?_) (fun h7 => ?_)
    · skip
      exfalso; omega
    · skip
      refine St_skip ?_
      refine Jm_seq ?_
      refine St_seq ?_
      refine St_seq ?_
      refine St_region ?_
      refine Ls_run (run_assign rfl) rfl ?_
      refine Ls_nil ?_
      refine Jm_seq ?_
      refine St_block ?_
      obtain ⟨En8, hEn8⟩ : ∃ F : Nat → Env, ∀ (i : Nat), F i = [(0, .slice A n c), (5, .slice A1 (pb x).length c1), (6, .int .i64 (i : Int))] := ⟨(fun (i : Nat) => [(0, .slice A n c), (5, .slice A1 (pb x).length c1), (6, .int .i64 (i : Int))]), fun _ => rfl⟩
      obtain ⟨Iv9, hIv9⟩ : ∃ F : Nat → World → Prop, ∀ (i : Nat) (wr : World), F i wr = (Sat w wr [Own 5 1 (.slice A1 (pb x).length c1) (pb x).length (bytesV (pb x))] ∧ i ≤ (pb x).length) := ⟨(fun (i : Nat) => fun (wr : World) => Sat w wr [Own 5 1 (.slice A1 (pb x).length c1) (pb x).length (bytesV (pb x))] ∧ i ≤ (pb x).length), fun _ _ => rfl⟩
      obtain ⟨ms10, hms10⟩ : ∃ F : Nat → Nat, ∀ (i : Nat), F i = ((pb x).length - i) := ⟨(fun (i : Nat) => (pb x).length - i), fun _ => rfl⟩
      refine St_loop En8 Iv9 ms10 (0) ?_ ?_ ?_
      · skip
        rw [hIv9]
        exact ⟨hs, by omega⟩
      · rw [hEn8]; exact (subE_cons rfl (subE_cons rfl (subE_cons rfl subE_nil)))
      rintro i wr hI11
      rw [hIv9] at hI11
      obtain ⟨hs, hi⟩ := hI11
      refine St_eqE (hEn8 _) ?_
      refine St_seq ?_
      refine St_seq ?_
      refine St_region ?_
      refine Ls_run (run_move rfl) rfl ?_
      refine Ls_run (run_move rfl) rfl ?_
      refine Ls_run (run_len Try.underlying22 rfl) rfl ?_
      refine Ls_run (run_lss rfl rfl) rfl ?_
      refine Ls_nil ?_
      refine Jm_seq ?_
      refine St_ifP rfl (fun h12 => ?_) (fun h12 => ?_)
      · skip
        refine St_skip ?_
        refine Jm_seq ?_
        refine St_seq ?_
        refine St_block ?_
        refine St_seq ?_
        refine St_region ?_
        refine Ls_run (run_move rfl) rfl ?_
        refine Ls_run (run_move rfl) rfl ?_
        have hcap := (hs.rd_at 0 rfl).cap
        refine Ls_run (run_slice_h Try.underlying22 inf5 rfl rfl (by omega) (by omega)) rfl ?_
        refine Ls_call Try.func17 nm17 rfl rfl (Take_c wr _ _ _ ((pb x).take i) (rdB_take (hs.rd_at 0 rfl) i (by omega)) (fun q hq => pb_byte x q (List.mem_of_mem_take hq)) (by omega)) rfl ?_
        rintro v13 w14 ⟨rfl, rfl⟩
        rw [tkV_eq (tk_short x 0 0 i hx (by omega))]
        refine Ls_run (run_move rfl) rfl ?_
        refine Ls_run (run_extract rfl rfl) rfl ?_
        refine Ls_run (run_extract rfl rfl) rfl ?_
        refine Ls_run (run_extract rfl rfl) rfl ?_
        refine Ls_run (run_assign rfl) rfl ?_
        refine Ls_run (run_assign rfl) rfl ?_
        refine Ls_run (run_assign rfl) rfl ?_
        refine Ls_nil ?_
        refine Jm_seq ?_
        refine St_seq ?_
        refine St_region ?_
        refine Ls_run (run_move rfl) rfl ?_
        refine Ls_run (run_asB (c := false) (run_neq rfl rfl) rfl) rfl ?_
        refine Ls_run (run_move rfl) rfl ?_
        refine Ls_on rfl rfl ?_
        refine Ls_run (run_move rfl) rfl ?_
        refine Ls_on rfl rfl ?_
        refine Ls_run (run_asB (c := false) (run_neq rfl rfl) rfl) rfl ?_
        refine Ls_run (run_pick_f rfl rfl) rfl ?_
        refine Ls_nil ?_
        refine Jm_seq ?_
        refine St_iff rfl ?_
        refine St_skip ?_
        refine Jm_block_normal (Jm_seq ?_)
        refine St_region ?_
        refine Ls_run (run_move rfl) rfl ?_
        refine Ls_run (run_add rfl rfl (w64 (by omega))) rfl ?_
        refine Ls_run (run_assign rfl) rfl ?_
        refine Ls_nil ?_
        refine Jm_round (i + 1) ?_ ?_ ?_
        · rw [hEn8]; exact (subE_cons rfl (subE_cons rfl (subE_cons rfl subE_nil)))
        · skip
          rw [hIv9]
          exact ⟨hs, by omega⟩
        · skip
          rw [hms10, hms10]
          omega
      · skip
        refine St_exit ?_
        refine Jm_then_exit (Jm_then_exit (Jm_block_same (Jm_seq ?_)))
        refine St_seq ?_
        refine St_region ?_
        refine Ls_run (run_move rfl) rfl ?_
        refine Ls_call Try.func17 nm17 rfl rfl (Take_c wr _ _ _ l (hr.inB hs) hb (by omega)) rfl ?_
        rintro v16 w17 ⟨rfl, rfl⟩
        obtain ⟨⟨xa, aa, ea⟩, htk⟩ : ∃ q, tk 0 0 l = q := ⟨_, rfl⟩
        rw [tkV_eq htk]
        have herr := tk_err l 0 0 xa aa ea htk
        refine Ls_run (run_move rfl) rfl ?_
        refine Ls_run (run_extract rfl rfl) rfl ?_
        refine Ls_run (run_extract rfl rfl) rfl ?_
        refine Ls_run (run_extract rfl rfl) rfl ?_
        refine Ls_run (run_assign rfl) rfl ?_
        refine Ls_run (run_assign rfl) rfl ?_
        refine Ls_run (run_assign rfl) rfl ?_
        refine Ls_nil ?_
        refine Jm_seq ?_
        refine St_seq ?_
        refine St_seq ?_
        refine St_region ?_
        refine Ls_run (run_move rfl) rfl ?_
        refine Ls_run (run_neq rfl rfl) rfl ?_
        refine Ls_nil ?_
        refine Jm_seq ?_
        refine St_ifP rfl (fun h18 => ?_) (fun h18 => ?_)
        · skip
          obtain ⟨rfl, rfl⟩ := herr h18
          refine St_seq ?_
          refine St_region ?_
          refine Ls_run (run_move rfl) rfl ?_
          refine Ls_run (run_asB (c := true) (run_eql rfl rfl) rfl) rfl ?_
          refine Ls_run (run_move rfl) rfl ?_
          refine Ls_on rfl rfl ?_
          refine Ls_run (run_move rfl) rfl ?_
          refine Ls_on rfl rfl ?_
          refine Ls_run (run_asB (c := true) (run_eql rfl rfl) rfl) rfl ?_
          refine Ls_run (run_pick_t rfl rfl) rfl ?_
          refine Ls_run (run_assign rfl) rfl ?_
          refine Ls_nil ?_
          refine Jm_seq ?_
          refine St_ret ?_
          refine Jm_then_ret  ?_
          refine Jm_ret1 rfl rfl ?_
          exact ⟨_, rfl, rfl, hs.below⟩
        · skip
          have e0 : ea = 0 := by omega
          subst e0
          have hrg := tk_range hb htk
          obtain ⟨xn, rfl⟩ : ∃ k : Nat, xa = (k : Int) := ⟨xa.toNat, by omega⟩
          obtain ⟨an, rfl⟩ : ∃ k : Nat, aa = (k : Int) := ⟨aa.toNat, by omega⟩
          simp only [Int.toNat_natCast] at hrg
          refine St_skip ?_
          refine Jm_seq ?_
          refine St_seq ?_
          refine St_draw (fun x => Below wr.heap.size wr x) mixed ?_
          intro w19 q20
          have hH := q20.below
          replace hs := hs.quiet q20
          refine An_grow hH ?_
          replace hH := Below.refl w19.heap.size w19
          refine An_take 0 rfl (by kernel_rfl) (by kernel_rfl) (by kernel_rfl) (fun _ _ _ h => h) hH (fun x hx => run_move rfl) rfl ?_
          refine An_take 1 rfl (by kernel_rfl) (by kernel_rfl) (by kernel_rfl) (fun _ _ _ h => h) hH (fun x hx => run_asB (c := true) (run_geq rfl rfl) (decide_eq_true (by omega))) rfl ?_
          refine An_take 2 rfl (by kernel_rfl) (by kernel_rfl) (by kernel_rfl) (fun _ _ _ h => h) hH (fun x hx => run_move rfl) rfl ?_
          refine An_take_on 3 rfl (by kernel_rfl) (by kernel_rfl) (by kernel_rfl) rfl rfl (fun _ _ _ h => h) hH (fun x hx => run_move rfl) rfl ?_
          refine An_take_on 4 rfl (by kernel_rfl) (by kernel_rfl) (by kernel_rfl) rfl rfl (fun _ _ _ h => h) hH (fun x hx => run_move rfl) rfl ?_
          refine An_take_on 5 rfl (by kernel_rfl) (by kernel_rfl) (by kernel_rfl) rfl rfl (fun _ _ _ h => h) hH (fun x hx => run_len Try.underlying22 rfl) rfl ?_
          refine An_take_on 6 rfl (by kernel_rfl) (by kernel_rfl) (by kernel_rfl) rfl rfl (fun _ _ _ h => h) hH (fun x hx => run_asB (c := true) (run_leq rfl rfl) (decide_eq_true (by omega))) rfl ?_
          refine An_take 7 rfl (by kernel_rfl) (by kernel_rfl) (by kernel_rfl) (fun _ _ _ h => h) hH (fun x hx => run_pick_t rfl rfl) rfl ?_
          refine An_take 8 rfl (by kernel_rfl) (by kernel_rfl) (by kernel_rfl) (fun _ _ _ h => h) hH (fun x hx => run_move rfl) rfl ?_
          refine An_take_on 9 rfl (by kernel_rfl) (by kernel_rfl) (by kernel_rfl) rfl rfl (fun _ _ _ h => h) hH (fun x hx => run_move rfl) rfl ?_
          refine An_take_on 12 rfl (by kernel_rfl) (by kernel_rfl) (by kernel_rfl) rfl rfl (fun _ _ _ h => h) hH (fun x hx => run_move rfl) rfl ?_
          refine An_take_on 13 rfl (by kernel_rfl) (by kernel_rfl) (by kernel_rfl) rfl rfl (fun _ _ _ h => h) hH (fun x hx => run_move rfl) rfl ?_
          refine An_take_on 14 rfl (by kernel_rfl) (by kernel_rfl) (by kernel_rfl) rfl rfl (fun _ _ _ h => h) hH (fun x hx => run_slice_h Try.underlying22 inf5 rfl rfl (by omega) (by omega)) rfl ?_
          refine An_take_on 15 rfl (by kernel_rfl) (by kernel_rfl) (by kernel_rfl) rfl rfl (fun _ _ _ h => h) hH (fun x hx => run_string Try.underlying22 Try.underlying5 Try.underlying9 rfl ((rdB_take (hr.inB hs) an (by omega)).grow hx)) rfl ?_
          refine An_only 10 (by kernel_rfl) rfl ?_
          refine Ls_on rfl rfl ?_
          refine Ls_call Try.func16 nm16 rfl rfl (Put_c w19 xn (by omega)) rfl ?_
          rintro v21 w22 ⟨A2, c2, rfl, hs2⟩
          replace hs := hs.trans hs2
          replace hH := (hs2.below : Below w19.heap.size w19 w22)
          refine Ls_nil (Jm_An hH ?_)
          refine An_grow hH ?_
          replace hH := Below.refl w22.heap.size w22
          refine An_take_on 11 rfl (by kernel_rfl) (by kernel_rfl) (by kernel_rfl) rfl rfl (fun _ _ _ h => h) hH (fun x hx => run_string Try.underlying22 Try.underlying5 Try.underlying9 rfl ((hs.rd_at 0 rfl).grow hx)) rfl ?_
          refine An_take_on 16 rfl (by kernel_rfl) (by kernel_rfl) (by kernel_rfl) rfl rfl (fun _ _ _ h => h) hH (fun x hx => run_asB (c := true) (run_eql_str rfl rfl) (by rw [hrg.2.2.2.2.2]; exact beq_self_eq_true _)) rfl ?_
          refine An_take 17 rfl (by kernel_rfl) (by kernel_rfl) (by kernel_rfl) (fun _ _ _ h => h) hH (fun x hx => run_pick_t rfl rfl) rfl ?_
          refine An_take 18 rfl (by kernel_rfl) (by kernel_rfl) (by kernel_rfl) (fun _ _ _ h => h) hH (fun x hx => run_assign rfl) rfl ?_
          refine An_done (by kernel_rfl) ?_
          refine Jm_seq ?_
          refine St_ret ?_
          refine Jm_ret1 rfl rfl ?_
          exact ⟨_, rfl, rfl, hs.below⟩
end Go.Proofs.Ytnmeaokfcalbbaa.Lg
