/-
  Lists of pairs: compared, dealt. By program (gen/plan3.py).
-/
import Derived.Test.YtnmeaokfcalbbaaPlan2
import Derived.Test.YtnmeaokfcalbbaaDc
set_option linter.unusedVariables false
set_option linter.unusedSimpArgs false
namespace Go.Proofs.Ytnmeaokfcalbbaa.Lg
open Go Go.RowKit Go.Proofs.Ytnmeaokfcalbbaa.PlanPure
theorem take_all {α : Type} {l l2 : List α} {i : Nat} (h : l.take i = l2.take i) (h1 : l.length = i) (h2 : l2.length = i) : l = l2 := by
  rwa [List.take_of_length_le (by omega), List.take_of_length_le (by omega)] at h
theorem flatP_snoc (l : List Pr) (k : Int) (h : Bool) (b : Int) : KP.flat l ++ [.int .u64 k, .bool h, .int .u64 b] = KP.flat (l ++ [(k, h, b)]) := by simp [El.flat, KP]
set_option maxRecDepth 100000 in
set_option maxHeartbeats 4000000 in
theorem same_c (w : World) (A : Option Addr) (n c : Nat) (l : List Pr) (A2 : Option Addr) (n2 c2 : Nat) (l2 : List Pr) (hr : Rd w A n c 3 (KP.flat l)) (hr2 : Rd w A2 n2 c2 3 (KP.flat l2)) (hn : n ≤ 9223372036854775807) :
    Calls Try.prog 32 [.slice A n c, .slice A2 n2 c2].toArray w (Ret (fun v' w' => v' = .bool (decide (l = l2)) ∧ Sat w w' [])) := by
  have hs := Sat.start w
  have hl : l.length = n := by have := hr.len; rw [El.flat_length] at this; exact Nat.eq_of_mul_eq_mul_right (by decide) this
  have hl2 : l2.length = n2 := by have := hr2.len; rw [El.flat_length] at this; exact Nat.eq_of_mul_eq_mul_right (by decide) this
  refine Calls_body Try.func32 rfl rfl rfl (envE_cons (i := 0) (v := .slice A n c) rfl (envE_cons (i := 1) (v := .slice A2 n2 c2) rfl envE_nil)) ?_
  refine St_seq ?_
  refine St_region ?_
  refine Ls_run (run_assign rfl) rfl ?_
  refine Ls_nil ?_
  refine Jm_seq ?_
  refine St_seq ?_
  refine St_seq ?_
  refine St_region ?_
  refine Ls_run (run_move rfl) rfl ?_
  refine Ls_run (run_len Try.underlying41 rfl) rfl ?_
  refine Ls_run (run_move rfl) rfl ?_
  refine Ls_run (run_len Try.underlying41 rfl) rfl ?_
  refine Ls_run (run_neq rfl rfl) rfl ?_
  refine Ls_nil ?_
  refine Jm_seq ?_
  refine St_ifP rfl (fun h1 => ?_) (fun h1 => ?_)
  · skip
    refine St_seq ?_
    refine St_region ?_
    refine Ls_run (run_assign rfl) rfl ?_
    refine Ls_nil ?_
    refine Jm_seq ?_
    refine St_ret ?_
    refine Jm_then_ret  ?_
    refine Jm_ret1 rfl rfl ?_
    exact ⟨_, rfl, by rw [decide_eq_false (fun q => by subst q; omega)], hs⟩
  · skip
    refine St_skip ?_
    refine Jm_seq ?_
    refine St_seq ?_
    refine St_seq ?_
    refine St_region ?_
    refine Ls_run (run_assign rfl) rfl ?_
    refine Ls_nil ?_
    refine Jm_seq ?_
    refine St_block ?_
    obtain ⟨En2, hEn2⟩ : ∃ F : Nat → Env, ∀ (i : Nat), F i = [(0, .slice A n c), (1, .slice A2 n2 c2), (5, .int .i64 (i : Int))] := ⟨(fun (i : Nat) => [(0, .slice A n c), (1, .slice A2 n2 c2), (5, .int .i64 (i : Int))]), fun _ => rfl⟩
    obtain ⟨Iv3, hIv3⟩ : ∃ F : Nat → World → Prop, ∀ (i : Nat) (wr : World), F i wr = (Sat w wr [] ∧ i ≤ n ∧ l.take i = l2.take i) := ⟨(fun (i : Nat) => fun (wr : World) => Sat w wr [] ∧ i ≤ n ∧ l.take i = l2.take i), fun _ _ => rfl⟩
    obtain ⟨ms4, hms4⟩ : ∃ F : Nat → Nat, ∀ (i : Nat), F i = (n - i) := ⟨(fun (i : Nat) => n - i), fun _ => rfl⟩
    refine St_loop En2 Iv3 ms4 (0) ?_ ?_ ?_
    · skip
      rw [hIv3]
      exact ⟨hs, by omega, rfl⟩
    · rw [hEn2]; exact (subE_cons rfl (subE_cons rfl (subE_cons rfl subE_nil)))
    rintro i wr hI5
    rw [hIv3] at hI5
    obtain ⟨hs, hi, heqt⟩ := hI5
    refine St_eqE (hEn2 _) ?_
    refine St_seq ?_
    refine St_seq ?_
    refine St_region ?_
    refine Ls_run (run_move rfl) rfl ?_
    refine Ls_run (run_move rfl) rfl ?_
    refine Ls_run (run_len Try.underlying41 rfl) rfl ?_
    refine Ls_run (run_lss rfl rfl) rfl ?_
    refine Ls_nil ?_
    refine Jm_seq ?_
    refine St_ifP rfl (fun h6 => ?_) (fun h6 => ?_)
    · skip
      refine St_skip ?_
      refine Jm_seq ?_
      refine St_seq ?_
      refine St_block ?_
      refine St_seq ?_
      refine St_draw (fun x => Below wr.heap.size wr x) mixed ?_
      intro w7 q8
      have hH := q8.below
      replace hs := hs.quiet q8
      refine An_grow hH ?_
      replace hH := Below.refl w7.heap.size w7
      refine An_take 0 rfl (by kernel_rfl) (by kernel_rfl) (by kernel_rfl) (fun _ _ _ h => h) hH (fun x hx => run_move rfl) rfl ?_
      refine An_take 1 rfl (by kernel_rfl) (by kernel_rfl) (by kernel_rfl) (fun _ _ _ h => h) hH (fun x hx => run_move rfl) rfl ?_
      obtain ⟨⟨ka, ha, ba⟩, ho⟩ : ∃ o, l.getD i (0, false, 0) = o := ⟨_, rfl⟩
      refine An_index 2  (KP) rfl (by kernel_rfl) (by kernel_rfl) (by kernel_rfl) (fun _ _ _ _ h => h) hH (fun x hx => ((hr.inB hs).grow hx)) Try.underlying41 inf50 rfl rfl (by omega) (by omega) ho rfl ?_
      intro b9 o10 hc11
      refine An_take 3 rfl (by kernel_rfl) (by kernel_rfl) (by kernel_rfl) (fun _ _ _ h => h) hH (fun x hx => run_as (run_load_agg agg50 inf50 rfl rfl (hc11 x hx)) (show _ = Value.agg #[.int .u64 ka, .bool ha, .int .u64 ba] from rfl)) rfl ?_
      refine An_take 4 rfl (by kernel_rfl) (by kernel_rfl) (by kernel_rfl) (fun _ _ _ h => h) hH (fun x hx => run_move rfl) rfl ?_
      refine An_take 5 rfl (by kernel_rfl) (by kernel_rfl) (by kernel_rfl) (fun _ _ _ h => h) hH (fun x hx => run_move rfl) rfl ?_
      obtain ⟨⟨kb, hb, bb⟩, ho2⟩ : ∃ o, l2.getD i (0, false, 0) = o := ⟨_, rfl⟩
      refine An_index 6  (KP) rfl (by kernel_rfl) (by kernel_rfl) (by kernel_rfl) (fun _ _ _ _ h => h) hH (fun x hx => ((hr2.inB hs).grow hx)) Try.underlying41 inf50 rfl rfl (by omega) (by omega) ho2 rfl ?_
      intro b12 o13 hc14
      refine An_take 7 rfl (by kernel_rfl) (by kernel_rfl) (by kernel_rfl) (fun _ _ _ h => h) hH (fun x hx => run_as (run_load_agg agg50 inf50 rfl rfl (hc14 x hx)) (show _ = Value.agg #[.int .u64 kb, .bool hb, .int .u64 bb] from rfl)) rfl ?_
      refine An_take 8 rfl (by kernel_rfl) (by kernel_rfl) (by kernel_rfl) (fun _ _ _ h => h) hH (fun x hx => run_neq_agg rfl rfl (by kernel_rfl) (eqs50 9997 _ _ _ _ _ _)) rfl ?_
      refine An_done (by kernel_rfl) ?_
      refine Jm_seq ?_
      refine St_if rfl (fun h15 => ?_) (fun h15 => ?_)
      · skip
        have hne : l ≠ l2 := by
          intro q; subst q; rw [ho] at ho2; cases ho2
          simp at h15
        refine St_seq ?_
        refine St_region ?_
        refine Ls_run (run_assign rfl) rfl ?_
        refine Ls_nil ?_
        refine Jm_seq ?_
        refine St_ret ?_
        refine Jm_block_ret (Jm_then_ret (Jm_then_ret (Jm_block_ret (Jm_then_ret  ?_))))
        refine Jm_ret1 rfl rfl ?_
        exact ⟨_, rfl, by rw [decide_eq_false hne], hs⟩
      · skip
        have heq : (ka, ha, ba) = (kb, hb, bb) := by
          simp at h15
          simp [h15]
        refine St_skip ?_
        refine Jm_block_normal (Jm_seq ?_)
        refine St_region ?_
        refine Ls_run (run_move rfl) rfl ?_
        refine Ls_run (run_add rfl rfl (w64 (by omega))) rfl ?_
        refine Ls_run (run_assign rfl) rfl ?_
        refine Ls_nil ?_
        refine Jm_round (i + 1) ?_ ?_ ?_
        · rw [hEn2]; exact (subE_cons rfl (subE_cons rfl (subE_cons rfl subE_nil)))
        · skip
          rw [hIv3]
          refine ⟨hs, by omega, ?_⟩
          rw [take_snoc3 (d := (0, false, 0)) (by omega), take_snoc3 (d := (0, false, 0)) (by omega), heqt, ho, ho2, heq]
        · skip
          rw [hms4, hms4]
          omega
    · skip
      refine St_exit ?_
      refine Jm_then_exit (Jm_then_exit (Jm_block_same (Jm_seq ?_)))
      refine St_seq ?_
      refine St_region ?_
      refine Ls_run (run_assign rfl) rfl ?_
      refine Ls_nil ?_
      refine Jm_seq ?_
      refine St_ret ?_
      refine Jm_ret1 rfl rfl ?_
      have hi9 : i = n := by omega
      exact ⟨_, rfl, by rw [decide_eq_true (take_all heqt (by omega) (by omega))], hs⟩
set_option maxRecDepth 100000 in
set_option maxHeartbeats 4000000 in
theorem lists_c (w : World) (A : Option Addr) (n c : Nat) (va : List Value) (xa : List (List Pr)) (A2 : Option Addr) (n2 c2 : Nat) (vb : List Value) (xb : List (List Pr)) (hr : Rd w A n c 1 (El.val.flat va)) (hr2 : Rd w A2 n2 c2 1 (El.val.flat vb)) (hpa : PartsK KP w va xa) (hpb : PartsK KP w vb xb) (hxa : ∀ x ∈ xa, x.length ≤ 9223372036854775807) (hn : n ≤ 9223372036854775807) :
    Calls Try.prog 29 [.slice A n c, .slice A2 n2 c2].toArray w (Ret (fun v' w' => v' = .bool (decide (xa = xb)) ∧ Sat w w' [])) := by
  have hs := Sat.start w
  have hva : va.length = n := by have := hr.len; rw [El.flat_length] at this; exact Nat.eq_of_mul_eq_mul_right (by decide) this
  have hvb : vb.length = n2 := by have := hr2.len; rw [El.flat_length] at this; exact Nat.eq_of_mul_eq_mul_right (by decide) this
  have hla : xa.length = n := by have := hpa.1; omega
  have hlb : xb.length = n2 := by have := hpb.1; omega
  refine Calls_body Try.func29 rfl rfl rfl (envE_cons (i := 0) (v := .slice A n c) rfl (envE_cons (i := 1) (v := .slice A2 n2 c2) rfl envE_nil)) ?_
  refine St_seq ?_
  refine St_region ?_
  refine Ls_run (run_assign rfl) rfl ?_
  refine Ls_nil ?_
  refine Jm_seq ?_
  refine St_seq ?_
  refine St_seq ?_
  refine St_region ?_
  refine Ls_run (run_move rfl) rfl ?_
  refine Ls_run (run_len Try.underlying43 rfl) rfl ?_
  refine Ls_run (run_move rfl) rfl ?_
  refine Ls_run (run_len Try.underlying43 rfl) rfl ?_
  refine Ls_run (run_neq rfl rfl) rfl ?_
  refine Ls_nil ?_
  refine Jm_seq ?_
  refine St_ifP rfl (fun h1 => ?_) (fun h1 => ?_)
  · skip
    refine St_seq ?_
    refine St_region ?_
    refine Ls_run (run_assign rfl) rfl ?_
    refine Ls_nil ?_
    refine Jm_seq ?_
    refine St_ret ?_
    refine Jm_then_ret  ?_
    refine Jm_ret1 rfl rfl ?_
    exact ⟨_, rfl, by rw [decide_eq_false (fun q => by subst q; omega)], hs⟩
  · skip
    refine St_skip ?_
    refine Jm_seq ?_
    refine St_seq ?_
    refine St_seq ?_
    refine St_region ?_
    refine Ls_run (run_assign rfl) rfl ?_
    refine Ls_nil ?_
    refine Jm_seq ?_
    refine St_block ?_
    obtain ⟨En2, hEn2⟩ : ∃ F : Nat → Env, ∀ (i : Nat), F i = [(0, .slice A n c), (1, .slice A2 n2 c2), (5, .int .i64 (i : Int))] := ⟨(fun (i : Nat) => [(0, .slice A n c), (1, .slice A2 n2 c2), (5, .int .i64 (i : Int))]), fun _ => rfl⟩
    obtain ⟨Iv3, hIv3⟩ : ∃ F : Nat → World → Prop, ∀ (i : Nat) (wr : World), F i wr = (Sat w wr [] ∧ i ≤ n ∧ xa.take i = xb.take i) := ⟨(fun (i : Nat) => fun (wr : World) => Sat w wr [] ∧ i ≤ n ∧ xa.take i = xb.take i), fun _ _ => rfl⟩
    obtain ⟨ms4, hms4⟩ : ∃ F : Nat → Nat, ∀ (i : Nat), F i = (n - i) := ⟨(fun (i : Nat) => n - i), fun _ => rfl⟩
    refine St_loop En2 Iv3 ms4 (0) ?_ ?_ ?_
    · skip
      rw [hIv3]
      exact ⟨hs, by omega, rfl⟩
    · rw [hEn2]; exact (subE_cons rfl (subE_cons rfl (subE_cons rfl subE_nil)))
    rintro i wr hI5
    rw [hIv3] at hI5
    obtain ⟨hs, hi, heqt⟩ := hI5
    refine St_eqE (hEn2 _) ?_
    refine St_seq ?_
    refine St_seq ?_
    refine St_region ?_
    refine Ls_run (run_move rfl) rfl ?_
    refine Ls_run (run_move rfl) rfl ?_
    refine Ls_run (run_len Try.underlying43 rfl) rfl ?_
    refine Ls_run (run_lss rfl rfl) rfl ?_
    refine Ls_nil ?_
    refine Jm_seq ?_
    refine St_ifP rfl (fun h6 => ?_) (fun h6 => ?_)
    · skip
      refine St_skip ?_
      refine Jm_seq ?_
      refine St_seq ?_
      refine St_block ?_
      refine St_seq ?_
      refine St_draw (fun x => Below wr.heap.size wr x) mixed ?_
      intro w7 q8
      have hH := q8.below
      replace hs := hs.quiet q8
      refine An_grow hH ?_
      replace hH := Below.refl w7.heap.size w7
      refine An_take 0 rfl (by kernel_rfl) (by kernel_rfl) (by kernel_rfl) (fun _ _ _ h => h) hH (fun x hx => run_move rfl) rfl ?_
      refine An_take 1 rfl (by kernel_rfl) (by kernel_rfl) (by kernel_rfl) (fun _ _ _ h => h) hH (fun x hx => run_move rfl) rfl ?_
      obtain ⟨Ai, ni, ci, hvi, hra⟩ := hpa.2 i (by omega)
      obtain ⟨Bi, mi, di, hwi, hrb⟩ := hpb.2 i (by omega)
      have hmi := hxa (xa.getD i []) (getD_mem3 (by omega))
      have hmni : (xa.getD i []).length = ni := by have := hra.len; rw [El.flat_length] at this; exact Nat.eq_of_mul_eq_mul_right (by decide) this
      refine An_index 2  (El.val) rfl (by kernel_rfl) (by kernel_rfl) (by kernel_rfl) (fun _ _ _ _ h => h) hH (fun x hx => ((hr.inB hs).grow hx)) Try.underlying43 inf41 rfl rfl (by omega) (by omega) hvi rfl ?_
      intro b9 o10 hc11
      refine An_take 3 rfl (by kernel_rfl) (by kernel_rfl) (by kernel_rfl) (fun _ _ _ h => h) hH (fun x hx => run_load sc41 rfl ((hc11 x hx) 0 _ rfl)) rfl ?_
      refine An_take 4 rfl (by kernel_rfl) (by kernel_rfl) (by kernel_rfl) (fun _ _ _ h => h) hH (fun x hx => run_move rfl) rfl ?_
      refine An_take 5 rfl (by kernel_rfl) (by kernel_rfl) (by kernel_rfl) (fun _ _ _ h => h) hH (fun x hx => run_move rfl) rfl ?_
      refine An_index 6  (El.val) rfl (by kernel_rfl) (by kernel_rfl) (by kernel_rfl) (fun _ _ _ _ h => h) hH (fun x hx => ((hr2.inB hs).grow hx)) Try.underlying43 inf41 rfl rfl (by omega) (by omega) hwi rfl ?_
      intro b12 o13 hc14
      refine An_take 7 rfl (by kernel_rfl) (by kernel_rfl) (by kernel_rfl) (fun _ _ _ h => h) hH (fun x hx => run_load sc41 rfl ((hc14 x hx) 0 _ rfl)) rfl ?_
      refine An_only 8 (by kernel_rfl) rfl ?_
      refine Ls_call Try.func32 nm32 rfl rfl (same_c w7 Ai ni ci (xa.getD i []) Bi mi di (xb.getD i []) (hra.inB hs) (hrb.inB hs) (by omega)) rfl ?_
      rintro v15 w16 ⟨rfl, hsQ17⟩
      replace hs := hs.trans hsQ17
      replace hH := (hsQ17.below : Below w7.heap.size w7 w16)
      refine Ls_nil (Jm_An hH ?_)
      refine An_grow hH ?_
      replace hH := Below.refl w16.heap.size w16
      refine An_take 9 rfl (by kernel_rfl) (by kernel_rfl) (by kernel_rfl) (fun _ _ _ h => h) hH (fun x hx => run_not rfl) rfl ?_
      refine An_done (by kernel_rfl) ?_
      refine Jm_seq ?_
      refine St_ifN rfl (fun h18 => ?_) (fun h18 => ?_)
      · skip
        refine St_seq ?_
        refine St_region ?_
        refine Ls_run (run_assign rfl) rfl ?_
        refine Ls_nil ?_
        refine Jm_seq ?_
        refine St_ret ?_
        refine Jm_block_ret (Jm_then_ret (Jm_then_ret (Jm_block_ret (Jm_then_ret  ?_))))
        refine Jm_ret1 rfl rfl ?_
        exact ⟨_, rfl, by rw [decide_eq_false (fun q => by subst q; simp_all)], hs⟩
      · skip
        refine St_skip ?_
        refine Jm_block_normal (Jm_seq ?_)
        refine St_region ?_
        refine Ls_run (run_move rfl) rfl ?_
        refine Ls_run (run_add rfl rfl (w64 (by omega))) rfl ?_
        refine Ls_run (run_assign rfl) rfl ?_
        refine Ls_nil ?_
        refine Jm_round (i + 1) ?_ ?_ ?_
        · rw [hEn2]; exact (subE_cons rfl (subE_cons rfl (subE_cons rfl subE_nil)))
        · skip
          rw [hIv3]
          refine ⟨hs, by omega, ?_⟩
          have heq : xa.getD i [] = xb.getD i [] := by first | assumption | exact Decidable.not_not.1 (by assumption)
          rw [take_snoc3 (d := []) (by omega), take_snoc3 (d := []) (by omega), heqt, heq]
        · skip
          rw [hms4, hms4]
          omega
    · skip
      refine St_exit ?_
      refine Jm_then_exit (Jm_then_exit (Jm_block_same (Jm_seq ?_)))
      refine St_seq ?_
      refine St_region ?_
      refine Ls_run (run_assign rfl) rfl ?_
      refine Ls_nil ?_
      refine Jm_seq ?_
      refine St_ret ?_
      refine Jm_ret1 rfl rfl ?_
      have hi9 : i = n := by omega
      exact ⟨_, rfl, by rw [decide_eq_true (take_all heqt (by omega) (by omega))], hs⟩
set_option maxRecDepth 100000 in
set_option maxHeartbeats 4000000 in
theorem Deal_c (w : World) (p : PlanA) (ops : List (Int × Int × Nat)) (hr : Rd w p.oA p.on p.oc 3 (KOp.flat ops)) (hn : p.on ≤ 9223372036854775807) (A : Option Addr) (n c : Nat) (l : List Pr) (hrl : Rd w A n c 3 (KP.flat l)) (hb : ∀ x ∈ l, 0 ≤ x.1 ∧ x.1 < 18446744073709551616) (hnl : n * 24 ≤ 140737488355300) :
    Calls Try.prog 30 [.agg #[.int .i64 p.pa, .int .i64 p.st, .int .i64 p.wo, .slice p.oA p.on p.oc, .int .i64 p.ag, .int .i64 p.ba, .int .i64 p.wi, .int .i64 p.gu], .slice A n c].toArray w (Ret (fun v' w' => ∃ A c vs, v' = .slice A (deal p ops l).length c ∧ vs.length = (deal p ops l).length ∧ Sat w w' (Own 41 1 (.slice A (deal p ops l).length c) (deal p ops l).length (El.val.flat vs) :: rowsA 50 KP vs (deal p ops l)))) := by
  have hs := Sat.start w
  have hl : l.length = n := by have := hrl.len; rw [El.flat_length] at this; exact Nat.eq_of_mul_eq_mul_right (by decide) this
  refine Calls_body Try.func30 rfl rfl rfl (envE_cons (i := 0) (v := .agg #[.int .i64 p.pa, .int .i64 p.st, .int .i64 p.wo, .slice p.oA p.on p.oc, .int .i64 p.ag, .int .i64 p.ba, .int .i64 p.wi, .int .i64 p.gu]) rfl (envE_cons (i := 1) (v := .slice A n c) rfl envE_nil)) ?_
  refine St_seq ?_
  refine St_region ?_
  refine Ls_box hs rfl rfl ?_
  intro b2 w1 hs
  refine Ls_run (run_assign rfl) rfl ?_
  refine Ls_nil ?_
  refine Jm_seq ?_
  refine St_seq ?_
  refine St_seq ?_
  refine St_region ?_
  refine Ls_run (run_load_agg agg34 inf34 rfl rfl (hs.blk_cells 0 rfl 0 8)) rfl ?_
  refine Ls_call Try.func19 nm19 rfl rfl (Check_c w1 p ops (hr.inB hs) hn) rfl ?_
  rintro v3 w4 ⟨rfl, hsQ5⟩
  replace hs := hs.trans hsQ5
  refine Ls_run (run_neq rfl rfl) rfl ?_
  refine Ls_nil ?_
  refine Jm_seq ?_
  refine St_ifP rfl (fun h6 => ?_) (fun h6 => ?_)
  · skip
    refine St_seq ?_
    refine St_region ?_
    refine Ls_run (run_assign rfl) rfl ?_
    refine Ls_nil ?_
    refine Jm_seq ?_
    refine St_ret ?_
    refine Jm_then_ret  ?_
    refine Jm_ret1 rfl rfl ?_
    have hd : deal p ops l = [] := by unfold deal; rw [if_neg (by assumption)]
    rw [hd]
    exact ⟨_, rfl, none, 0, [], rfl, rfl, hs.forget.own_nil _ _⟩
  · skip
    have hc : chk p ops = 0 := by omega
    have hk := chk_ok hc
    have hk2 := hk
    unfold numsOk at hk2
    obtain ⟨st, hst⟩ : ∃ q : Nat, p.st = (q : Int) := ⟨p.st.toNat, by omega⟩
    have hst2 : p.st.toNat = st := by omega
    refine St_skip ?_
    refine Jm_seq ?_
    refine St_seq ?_
    refine St_region ?_
    refine Ls_run (run_field Try.underlying34 rfl inf3 (by decide) rfl) rfl ?_
    refine Ls_run (run_as (run_load sc3 rfl (hs.blk_at 0 rfl 1 rfl)) (show _ = Value.int .i64 (st : Int) by rw [hst])) rfl ?_
    refine Ls_make (m := st) hs Try.underlying43 infq41 rfl rfl rfl (by omega) (by omega) rfl ?_
    intro b7 w8 hs
    refine Ls_run (run_assign rfl) rfl ?_
    refine Ls_nil ?_
    refine Jm_seq ?_
    refine St_seq ?_
    refine St_seq ?_
    refine St_region ?_
    refine Ls_run (run_move rfl) rfl ?_
    refine Ls_run (run_len Try.underlying41 rfl) rfl ?_
    refine Ls_run (run_move rfl) rfl ?_
    refine Ls_nil ?_
    refine Jm_seq ?_
    refine St_block ?_
    replace hs := Sat.rows_nil 50 KP st hs
    rw [← dealt_nil] at hs
    obtain ⟨En9, hEn9⟩ : ∃ F : Nat × List Value → Env, ∀ (i : Nat) (vs : List Value), F (i, vs) = [(15, .slice A n c), (2, .pointer (some ⟨b2, 0, none⟩)), (5, .slice (some ⟨b7, 0, none⟩) st st), (16, .int .i64 (n : Int)), (17, .int .i64 (i : Int))] := ⟨(fun (s : Nat × List Value) => match s with | (i, vs) => [(15, .slice A n c), (2, .pointer (some ⟨b2, 0, none⟩)), (5, .slice (some ⟨b7, 0, none⟩) st st), (16, .int .i64 (n : Int)), (17, .int .i64 (i : Int))]), fun _ _ => rfl⟩
    obtain ⟨Iv10, hIv10⟩ : ∃ F : Nat × List Value → World → Prop, ∀ (i : Nat) (vs : List Value) (wr : World), F (i, vs) wr = (Sat w wr (Own 41 1 (.slice (some ⟨b7, 0, none⟩) st st) st (El.val.flat vs) :: Blk b2 [.int .i64 p.pa, .int .i64 p.st, .int .i64 p.wo, .slice p.oA p.on p.oc, .int .i64 p.ag, .int .i64 p.ba, .int .i64 p.wi, .int .i64 p.gu] 34 :: rowsA 50 KP vs (dealt st (l.take i))) ∧ i ≤ n ∧ vs.length = st) := ⟨(fun (s : Nat × List Value) => match s with | (i, vs) => fun (wr : World) => Sat w wr (Own 41 1 (.slice (some ⟨b7, 0, none⟩) st st) st (El.val.flat vs) :: Blk b2 [.int .i64 p.pa, .int .i64 p.st, .int .i64 p.wo, .slice p.oA p.on p.oc, .int .i64 p.ag, .int .i64 p.ba, .int .i64 p.wi, .int .i64 p.gu] 34 :: rowsA 50 KP vs (dealt st (l.take i))) ∧ i ≤ n ∧ vs.length = st), fun _ _ _ => rfl⟩
    obtain ⟨ms11, hms11⟩ : ∃ F : Nat × List Value → Nat, ∀ (i : Nat) (vs : List Value), F (i, vs) = (n - i) := ⟨(fun (s : Nat × List Value) => match s with | (i, vs) => n - i), fun _ _ => rfl⟩
    refine St_loop En9 Iv10 ms11 (0, List.replicate st (Value.slice none 0 0)) ?_ ?_ ?_
    · skip
      rw [hIv10]
      exact ⟨by rw [El.val_flat]; exact hs, by omega, by simp⟩
    · rw [hEn9]; exact (subE_cons rfl (subE_cons rfl (subE_cons rfl (subE_cons rfl (subE_cons rfl subE_nil)))))
    rintro ⟨i, vs⟩ wr hI12
    rw [hIv10] at hI12
    obtain ⟨hs, hi, hvs⟩ := hI12
    refine St_eqE (hEn9 _ _) ?_
    refine St_seq ?_
    refine St_region ?_
    refine Ls_run (run_lss rfl rfl) rfl ?_
    refine Ls_nil ?_
    refine Jm_seq ?_
    refine St_seq ?_
    refine St_ifP rfl (fun h13 => ?_) (fun h13 => ?_)
    · skip
      refine St_skip ?_
      refine Jm_seq ?_
      refine St_seq ?_
      refine St_block ?_
      refine St_seq ?_
      refine St_region ?_
      obtain ⟨⟨kx, fx, bx⟩, ho⟩ : ∃ o, l.getD i (0, false, 0) = o := ⟨_, rfl⟩
      have hmem : (kx, fx, bx) ∈ l := by rw [← ho]; exact getD_mem3 (by omega)
      have hbx := hb _ hmem
      simp only at hbx
      obtain ⟨kn, hkn⟩ : ∃ q : Nat, kx = (q : Int) := ⟨kx.toNat, by omega⟩
      obtain ⟨k, hkk0⟩ : ∃ q, q = kn % st := ⟨_, rfl⟩
      have hkk : kx.toNat % st = k := by rw [hkk0, hkn]; rfl
      have hklt : k < st := by rw [hkk0]; exact Nat.mod_lt _ (by omega)
      refine Ls_index (KP) (hrl.inB hs) Try.underlying41 inf50 rfl rfl (by omega) (by omega) ho rfl ?_
      intro b14 o15 hc16
      refine Ls_run (run_as (run_load_agg agg50 inf50 rfl rfl hc16) (show _ = Value.agg #[.int .u64 kx, .bool fx, .int .u64 bx] from rfl)) rfl ?_
      refine Ls_alloc hs inf50 rfl ?_
      intro b18 w17 hs
      refine Ls_storeAgg hs inf50 rfl rfl rfl rfl (by simp [Value.oneCell']) ?_
      intro w19 hs
      refine Ls_nil ?_
      refine Jm_seq ?_
      refine St_seq ?_
      refine St_draw (fun x => Below w19.heap.size w19 x) mixed ?_
      intro w20 q21
      have hH := q21.below
      replace hs := hs.quiet q21
      refine An_grow hH ?_
      replace hH := Below.refl w20.heap.size w20
      refine An_take 0 rfl (by kernel_rfl) (by kernel_rfl) (by kernel_rfl) (fun _ _ _ h => h) hH (fun x hx => run_load_agg agg34 inf34 rfl rfl ((hs.grow hx).blk_cells 2 rfl 0 8)) rfl ?_
      refine An_take 1 rfl (by kernel_rfl) (by kernel_rfl) (by kernel_rfl) (fun _ _ _ h => h) hH (fun x hx => run_field Try.underlying50 rfl inf23 (by decide) rfl) rfl ?_
      refine An_take 2 rfl (by kernel_rfl) (by kernel_rfl) (by kernel_rfl) (fun _ _ _ h => h) hH (fun x hx => run_as (run_load sc23 rfl ((hs.grow hx).blk_at 0 rfl 0 rfl)) (show _ = Value.int .u64 (kn : Int) from by rw [← hkn])) rfl ?_
      refine An_take 4 rfl (by kernel_rfl) (by kernel_rfl) (by kernel_rfl) (fun _ _ _ h => h) hH (fun x hx => run_load_agg agg34 inf34 rfl rfl ((hs.grow hx).blk_cells 2 rfl 0 8)) rfl ?_
      refine An_only 3 (by kernel_rfl) rfl ?_
      refine Ls_call Try.func57 nm57 rfl rfl (storeOf_c w20 p hk kn (by omega)) rfl ?_
      rintro v22 w23 ⟨rfl, hsQ24⟩
      replace hs := hs.trans hsQ24
      replace hH := (hsQ24.below : Below w20.heap.size w20 w23)
      refine Ls_nil (Jm_An hH ?_)
      refine An_grow hH ?_
      replace hH := Below.refl w23.heap.size w23
      refine An_only 5 (by kernel_rfl) rfl ?_
      refine Ls_call Try.func56 nm56 rfl rfl (firstStore_c w23 p hk) rfl ?_
      rintro v25 w26 ⟨rfl, hsQ27⟩
      replace hs := hs.trans hsQ27
      replace hH := (hsQ27.below : Below w23.heap.size w23 w26)
      refine Ls_nil (Jm_An hH ?_)
      refine An_grow hH ?_
      replace hH := Below.refl w26.heap.size w26
      refine An_take 6 rfl (by kernel_rfl) (by kernel_rfl) (by kernel_rfl) (fun _ _ _ h => h) hH (fun x hx => run_sub rfl rfl (show _ = (k : Int) by rw [hst2, ← hkk0, w64 (by omega)]; omega)) rfl ?_
      refine An_take 7 rfl (by kernel_rfl) (by kernel_rfl) (by kernel_rfl) (fun _ _ _ h => h) hH (fun x hx => run_assign rfl) rfl ?_
      refine An_done (by kernel_rfl) ?_
      refine Jm_seq ?_
      refine St_drawC 8 (fun x => Below w26.heap.size w26 x) mixed ?_
      intro w28 q29
      have hH := q29.below
      replace hs := hs.quiet q29
      refine AnC_grow hH ?_
      replace hH := Below.refl w28.heap.size w28
      refine AnC_takeP 0 (by kernel_rfl) rfl (by kernel_rfl) (by kernel_rfl) (by kernel_rfl) (fun _ _ _ h => h) (fun _ => hH) (fun x => run_move rfl) rfl ?_
      refine AnC_takeP 1 (by kernel_rfl) rfl (by kernel_rfl) (by kernel_rfl) (by kernel_rfl) (fun _ _ _ h => h) (fun _ => hH) (fun x => run_move rfl) rfl ?_
      refine AnC_takeP 2 (by kernel_rfl) rfl (by kernel_rfl) (by kernel_rfl) (by kernel_rfl) (fun _ _ _ h => h) (fun _ => hH) (fun x => run_move rfl) rfl ?_
      refine AnC_takeP 3 (by kernel_rfl) rfl (by kernel_rfl) (by kernel_rfl) (by kernel_rfl) (fun _ _ _ h => h) (fun _ => hH) (fun x => run_move rfl) rfl ?_
      replace hs := Sat.row_out (pre := [_, _, _]) k hs (by rw [dealt_len]; omega) (by omega)
      obtain ⟨Ak, ck, hvk, _, _, _⟩ := hs.own_form
      rw [hvk] at hs
      simp only [List.cons_append, List.nil_append] at hs
      rw [dealt_getD _ _ k (by omega)] at hs hvk
      have hrl2 := row_len st (l.take i) k
      rw [List.length_take] at hrl2
      refine AnC_index 4 [8, 5, 4] (El.val) rfl (by kernel_rfl) (by kernel_rfl) (by kernel_rfl) (by kernel_rfl) (fun _ _ _ _ h => h) hH (fun x hx => ((hs.rd_at 2 rfl).grow hx)) Try.underlying43 inf41 rfl rfl (by omega) (by omega) hvk rfl ?_
      intro b30 o31 hc32
      refine AnC_take 5 [8, 5] rfl (by kernel_rfl) (by kernel_rfl) (by kernel_rfl) (by kernel_rfl) (fun _ _ _ h => h) hH (fun x hx => run_load sc41 rfl ((hc32 x hx) 0 _ rfl)) rfl ?_
      refine AnC_take 6 [8, 7, 6] rfl (by kernel_rfl) (by kernel_rfl) (by kernel_rfl) (by kernel_rfl) (fun _ _ _ h => h) hH (fun x hx => run_as (run_load_agg agg50 inf50 rfl rfl ((hs.grow hx).blk_cells 1 rfl 0 3)) (show _ = Value.agg #[.int .u64 kx, .bool fx, .int .u64 bx] from rfl)) rfl ?_
      refine AnC_only 7 (by kernel_rfl) rfl ?_
      refine Ls_literal [_] (Sat.start w28) Try.underlying41 inf50 rfl rfl rfl rfl rfl rfl ?_
      intro b33 w34 hsN35
      replace hs := hs.trans hsN35
      simp only [List.cons_append, List.nil_append] at hs
      simp only [List.flatMap_cons, List.flatMap_nil, Value.cells, List.cons_append, List.nil_append] at hs
      replace hH := (hsN35.below : Below w28.heap.size w28 w34)
      refine Ls_nil (Jm_AnC (fun _ => hH) ?_)
      refine AnC_grow hH ?_
      replace hH := Below.refl w34.heap.size w34
      refine AnC_only 8 (by kernel_rfl) rfl ?_
      replace hs := hs.front 1 rfl
      simp only [List.cons_append, List.nil_append, List.eraseIdx_cons_zero, List.eraseIdx_cons_succ] at hs
      refine Ls_append hs Try.underlying41 inf50 rfl (by decide) (by decide) rfl rfl (rd_block (hs.is_at 1 rfl).2 3 1 rfl) (by simp [Value.oneCell']) (by omega) rfl ?_
      intro A36 c37 w38 hs
      replace hs := hs.erase 1
      simp only [List.cons_append, List.nil_append, List.eraseIdx_cons_zero, List.eraseIdx_cons_succ] at hs
      refine Ls_nil (Jm_AnC_closed (by kernel_rfl) ?_)
      refine AnC_switch (H' := fun x => Below w38.heap.size w38 x) 10 (by kernel_rfl) ?_
      replace hH := Below.refl w38.heap.size w38
      refine AnC_takeP 9 (by kernel_rfl) rfl (by kernel_rfl) (by kernel_rfl) (by kernel_rfl) (fun _ _ _ h => h) (fun _ => hH) (fun x => run_index Try.underlying43 inf41 rfl rfl rfl (by omega) (by omega)) rfl ?_
      refine AnC_only 10 (by kernel_rfl) rfl ?_
      replace hs := hs.front 2 rfl
      simp only [List.cons_append, List.nil_append, List.eraseIdx_cons_zero, List.eraseIdx_cons_succ] at hs
      refine Ls_storeOwn hs inf41 rfl rfl rfl (by omega) ?_
      intro w39 hs
      refine Ls_nil (Jm_AnC_closed (by kernel_rfl) ?_)
      refine AnC_switch (H' := fun x => Below w39.heap.size w39 x) 11 (by kernel_rfl) ?_
      replace hH := Below.refl w39.heap.size w39
      refine AnC_done (by kernel_rfl) ?_
      refine Jm_block_normal (Jm_seq ?_)
      refine St_region ?_
      replace hs := hs.front 3 rfl
      simp only [List.cons_append, List.nil_append, List.eraseIdx_cons_zero, List.eraseIdx_cons_succ] at hs
      replace hs := hs.front 1 rfl
      simp only [List.cons_append, List.nil_append, List.eraseIdx_cons_zero, List.eraseIdx_cons_succ] at hs
      replace hs := hs.front 2 rfl
      simp only [List.cons_append, List.nil_append, List.eraseIdx_cons_zero, List.eraseIdx_cons_succ] at hs
      replace hs := hs.erase 3
      simp only [List.cons_append, List.nil_append, List.eraseIdx_cons_zero, List.eraseIdx_cons_succ] at hs
      simp only [Nat.zero_add, Nat.mul_one, Int.toNat_natCast, El.val_flat] at hs
      have hs5 := Sat.row_in (pre := [_, _]) k (row st (l.take i) k ++ [(kx, fx, bx)]) hs (by simp) (flatP_snoc _ _ _ _) (by rw [dealt_len]; omega) (by omega)
      rw [← dealt_getD st (l.take i) k (by omega), ← dealt_snoc st (l.take i) (kx, fx, bx) k hkk (by omega)] at hs5
      replace hs := hs5
      simp only [List.cons_append, List.nil_append] at hs
      refine Ls_run (run_add rfl rfl (w64 (by omega))) rfl ?_
      refine Ls_run (run_move rfl) rfl ?_
      refine Ls_nil ?_
      have hti := take_snoc3 (d := ((0, false, 0) : Pr)) (l := l) (i := i) (by omega)
      rw [ho] at hti
      rw [← hti, dealt_getD st (l.take i) k (by omega)] at hs
      refine Jm_round (i + 1, vs.set k (Value.slice A36 ((row st (l.take i) k).length + 1) c37)) ?_ ?_ ?_
      · rw [hEn9]; exact (subE_cons rfl (subE_cons rfl (subE_cons rfl (subE_cons rfl (subE_cons rfl subE_nil)))))
      · skip
        rw [hIv10]
        exact ⟨by rw [El.val_flat]; exact hs, by omega, by rw [List.length_set]; exact hvs⟩
      · skip
        rw [hms11, hms11]
        omega
    · skip
      refine St_exit ?_
      refine Jm_then_exit (Jm_then_exit (Jm_block_same (Jm_seq ?_)))
      refine St_seq ?_
      refine St_region ?_
      refine Ls_run (run_move rfl) rfl ?_
      refine Ls_run (run_assign rfl) rfl ?_
      refine Ls_nil ?_
      refine Jm_seq ?_
      refine St_ret ?_
      refine Jm_ret1 rfl rfl ?_
      have hi9 : i = n := by omega
      rw [hi9, List.take_of_length_le (by omega)] at hs
      have hd : deal p ops l = dealt st l := by unfold deal; rw [if_pos hc, hst2]
      have hdl := dealt_len st l
      rw [hd]
      simp only [hdl]
      refine ⟨_, rfl, _, _, vs, rfl, hvs, ?_⟩
      exact hs.erase 1
set_option maxRecDepth 100000 in
set_option maxHeartbeats 4000000 in
theorem rDeal_c (w : World) (p : PlanA) (ops : List (Int × Int × Nat)) (hr : Rd w p.oA p.on p.oc 3 (KOp.flat ops)) (hn : p.on ≤ 9223372036854775807) (A : Option Addr) (n c : Nat) (l : List Pr) (hrl : Rd w A n c 3 (KP.flat l)) (hb : ∀ x ∈ l, 0 ≤ x.1 ∧ x.1 < 18446744073709551616) (hnl : n * 24 ≤ 140737488355300) :
    Calls Try.prog 31 [.agg #[.int .i64 p.pa, .int .i64 p.st, .int .i64 p.wo, .slice p.oA p.on p.oc, .int .i64 p.ag, .int .i64 p.ba, .int .i64 p.wi, .int .i64 p.gu], .slice A n c].toArray w (Ret (fun v' w' => ∃ A c vs, v' = .slice A (deal p ops l).length c ∧ vs.length = (deal p ops l).length ∧ Sat w w' (Own 41 1 (.slice A (deal p ops l).length c) (deal p ops l).length (El.val.flat vs) :: rowsA 50 KP vs (deal p ops l)))) := by
  have hs := Sat.start w
  have hl : l.length = n := by have := hrl.len; rw [El.flat_length] at this; exact Nat.eq_of_mul_eq_mul_right (by decide) this
  obtain ⟨D, hD⟩ : ∃ D, D = deal p ops l := ⟨_, rfl⟩
  obtain ⟨st, hst2⟩ : ∃ q, q = p.st.toNat := ⟨_, rfl⟩
  have hDl : (chk p ops = 0 → D = dealt st l) ∧ (chk p ops ≠ 0 → D = []) := by
    rw [hD, hst2]; unfold deal
    exact ⟨fun h => by rw [if_pos h], fun h => by rw [if_neg h]⟩
  have hdl := dealt_len st l
  rw [← hD]
  refine Calls_body Try.func31 rfl rfl rfl (envE_cons (i := 0) (v := .agg #[.int .i64 p.pa, .int .i64 p.st, .int .i64 p.wo, .slice p.oA p.on p.oc, .int .i64 p.ag, .int .i64 p.ba, .int .i64 p.wi, .int .i64 p.gu]) rfl (envE_cons (i := 1) (v := .slice A n c) rfl envE_nil)) ?_
  refine St_seq ?_
  refine St_region ?_
  refine Ls_box hs rfl rfl ?_
  intro b2 w1 hs
  refine Ls_run (run_assign rfl) rfl ?_
  refine Ls_nil ?_
  refine Jm_seq ?_
  refine St_seq ?_
  refine St_region ?_
  refine Ls_literal [] hs Try.underlying43 inf41 rfl rfl rfl rfl rfl rfl ?_
  intro b3 w4 hs
  simp only [List.flatMap_cons, List.flatMap_nil, Value.cells, List.cons_append, List.nil_append] at hs
  replace hs := Sat.own_block hs 1 0 rfl (by decide)
  refine Ls_run (run_assign rfl) rfl ?_
  refine Ls_nil ?_
  refine Jm_seq ?_
  refine St_seq ?_
  refine St_seq ?_
  refine St_region ?_
  refine Ls_run (run_assign rfl) rfl ?_
  refine Ls_nil ?_
  refine Jm_seq ?_
  refine St_block ?_
  obtain ⟨En5, hEn5⟩ : ∃ F : Nat × List Value × Value → Env, ∀ (nn : Nat) (vs : List Value) (ov : Value), F (nn, vs, ov) = [(1, .slice A n c), (2, .pointer (some ⟨b2, 0, none⟩)), (6, .int .i64 (nn : Int)), (5, ov)] := ⟨(fun (s : Nat × List Value × Value) => match s with | (nn, vs, ov) => [(1, .slice A n c), (2, .pointer (some ⟨b2, 0, none⟩)), (6, .int .i64 (nn : Int)), (5, ov)]), fun _ _ _ => rfl⟩
  obtain ⟨Iv6, hIv6⟩ : ∃ F : Nat × List Value × Value → World → Prop, ∀ (nn : Nat) (vs : List Value) (ov : Value) (wr : World), F (nn, vs, ov) wr = (Sat w wr (Own 41 1 ov nn (El.val.flat vs) :: Blk b2 [.int .i64 p.pa, .int .i64 p.st, .int .i64 p.wo, .slice p.oA p.on p.oc, .int .i64 p.ag, .int .i64 p.ba, .int .i64 p.wi, .int .i64 p.gu] 34 :: rowsA 50 KP vs (D.take nn)) ∧ nn ≤ D.length ∧ vs.length = nn) := ⟨(fun (s : Nat × List Value × Value) => match s with | (nn, vs, ov) => fun (wr : World) => Sat w wr (Own 41 1 ov nn (El.val.flat vs) :: Blk b2 [.int .i64 p.pa, .int .i64 p.st, .int .i64 p.wo, .slice p.oA p.on p.oc, .int .i64 p.ag, .int .i64 p.ba, .int .i64 p.wi, .int .i64 p.gu] 34 :: rowsA 50 KP vs (D.take nn)) ∧ nn ≤ D.length ∧ vs.length = nn), fun _ _ _ _ => rfl⟩
  obtain ⟨ms7, hms7⟩ : ∃ F : Nat × List Value × Value → Nat, ∀ (nn : Nat) (vs : List Value) (ov : Value), F (nn, vs, ov) = (D.length - nn) := ⟨(fun (s : Nat × List Value × Value) => match s with | (nn, vs, ov) => D.length - nn), fun _ _ _ => rfl⟩
  refine St_loop En5 Iv6 ms7 (0, [], (Value.slice (some ⟨b3, 0, none⟩) 0 0)) ?_ ?_ ?_
  · skip
    rw [hIv6]
    exact ⟨hs, by omega, rfl⟩
  · rw [hEn5]; exact (subE_cons rfl (subE_cons rfl (subE_cons rfl (subE_cons rfl subE_nil))))
  rintro ⟨nn, vs, ov⟩ wr hI8
  rw [hIv6] at hI8
  obtain ⟨hs, hnn, hvs⟩ := hI8
  refine St_eqE (hEn5 _ _ _) ?_
  refine St_seq ?_
  refine St_seq ?_
  refine St_region ?_
  refine Ls_run (run_load_agg agg34 inf34 rfl rfl (hs.blk_cells 1 rfl 0 8)) rfl ?_
  refine Ls_call Try.func20 nm20 rfl rfl (rCheck_c wr p ops (hr.inB hs) hn) rfl ?_
  rintro v9 w10 ⟨rfl, hsQ11⟩
  replace hs := hs.trans hsQ11
  refine Ls_run (run_eql rfl rfl) rfl ?_
  refine Ls_run (run_move rfl) rfl ?_
  refine Ls_partP (t := 13) rfl (fun h12 => ?_) (fun h12 => ?_)
  · skip
    refine Ls_on rfl rfl ?_
    refine Ls_run (run_move rfl) rfl ?_
    refine Ls_on rfl rfl ?_
    refine Ls_run (run_field Try.underlying34 rfl inf3 (by decide) rfl) rfl ?_
    refine Ls_on rfl rfl ?_
    refine Ls_run (run_load sc3 rfl (hs.blk_at 1 rfl 1 rfl)) rfl ?_
    refine Ls_on rfl rfl ?_
    refine Ls_run (run_lss rfl rfl) rfl ?_
    refine Ls_run (run_pick_t rfl rfl) rfl ?_
    refine Ls_nil ?_
    refine Jm_seq ?_
    refine St_ifP rfl (fun h13 => ?_) (fun h13 => ?_)
    · skip
      refine St_skip ?_
      refine Jm_seq ?_
      refine St_seq ?_
      refine St_block ?_
      refine St_seq ?_
      refine St_region ?_
      have hc : chk p ops = 0 := by assumption
      have hk := chk_ok hc
      have hk2 := hk
      unfold numsOk at hk2
      have hst : p.st = (st : Int) := by omega
      have hDD := hDl.1 hc
      have hDn : D.length = st := by rw [hDD]; exact hdl
      refine Ls_literal [] hs Try.underlying41 inf50 rfl rfl rfl rfl rfl rfl ?_
      intro b14 w15 hs
      simp only [List.flatMap_cons, List.flatMap_nil, Value.cells, List.cons_append, List.nil_append] at hs
      replace hs := Sat.own_block hs 3 0 rfl (by decide)
      refine Ls_run (run_assign rfl) rfl ?_
      refine Ls_nil ?_
      refine Jm_seq ?_
      refine St_seq ?_
      refine St_seq ?_
      refine St_region ?_
      refine Ls_run (run_assign rfl) rfl ?_
      refine Ls_nil ?_
      refine Jm_seq ?_
      refine St_block ?_
      obtain ⟨En16, hEn16⟩ : ∃ F : Nat × Value × Nat → Env, ∀ (i : Nat) (v : Value) (m : Nat), F (i, v, m) = [(1, .slice A n c), (2, .pointer (some ⟨b2, 0, none⟩)), (6, .int .i64 (nn : Int)), (5, ov), (8, .int .i64 (i : Int)), (7, v)] := ⟨(fun (s : Nat × Value × Nat) => match s with | (i, v, m) => [(1, .slice A n c), (2, .pointer (some ⟨b2, 0, none⟩)), (6, .int .i64 (nn : Int)), (5, ov), (8, .int .i64 (i : Int)), (7, v)]), fun _ _ _ => rfl⟩
      obtain ⟨Iv17, hIv17⟩ : ∃ F : Nat × Value × Nat → World → Prop, ∀ (i : Nat) (v : Value) (m : Nat) (wr2 : World), F (i, v, m) wr2 = (Sat w wr2 (Own 50 3 v m (KP.flat (row st (l.take i) nn)) :: Own 41 1 ov nn (El.val.flat vs) :: Blk b2 [.int .i64 p.pa, .int .i64 p.st, .int .i64 p.wo, .slice p.oA p.on p.oc, .int .i64 p.ag, .int .i64 p.ba, .int .i64 p.wi, .int .i64 p.gu] 34 :: rowsA 50 KP vs (D.take nn)) ∧ i ≤ n ∧ m = (row st (l.take i) nn).length) := ⟨(fun (s : Nat × Value × Nat) => match s with | (i, v, m) => fun (wr2 : World) => Sat w wr2 (Own 50 3 v m (KP.flat (row st (l.take i) nn)) :: Own 41 1 ov nn (El.val.flat vs) :: Blk b2 [.int .i64 p.pa, .int .i64 p.st, .int .i64 p.wo, .slice p.oA p.on p.oc, .int .i64 p.ag, .int .i64 p.ba, .int .i64 p.wi, .int .i64 p.gu] 34 :: rowsA 50 KP vs (D.take nn)) ∧ i ≤ n ∧ m = (row st (l.take i) nn).length), fun _ _ _ _ => rfl⟩
      obtain ⟨ms18, hms18⟩ : ∃ F : Nat × Value × Nat → Nat, ∀ (i : Nat) (v : Value) (m : Nat), F (i, v, m) = (n - i) := ⟨(fun (s : Nat × Value × Nat) => match s with | (i, v, m) => n - i), fun _ _ _ => rfl⟩
      refine St_loop En16 Iv17 ms18 (0, (Value.slice (some ⟨b14, 0, none⟩) 0 0), 0) ?_ ?_ ?_
      · skip
        rw [hIv17]
        exact ⟨hs, by omega, rfl⟩
      · rw [hEn16]; exact (subE_cons rfl (subE_cons rfl (subE_cons rfl (subE_cons rfl (subE_cons rfl (subE_cons rfl subE_nil))))))
      rintro ⟨i, v, m⟩ wr2 hI19
      rw [hIv17] at hI19
      obtain ⟨hs, hi, hm⟩ := hI19
      refine St_eqE (hEn16 _ _ _) ?_
      refine St_seq ?_
      refine St_seq ?_
      refine St_region ?_
      refine Ls_run (run_move rfl) rfl ?_
      refine Ls_run (run_move rfl) rfl ?_
      refine Ls_run (run_len Try.underlying41 rfl) rfl ?_
      refine Ls_run (run_lss rfl rfl) rfl ?_
      refine Ls_nil ?_
      refine Jm_seq ?_
      refine St_ifP rfl (fun h20 => ?_) (fun h20 => ?_)
      · skip
        refine St_skip ?_
        refine Jm_seq ?_
        refine St_seq ?_
        refine St_block ?_
        refine St_seq ?_
        refine St_draw (fun x => Below wr2.heap.size wr2 x) mixed ?_
        intro w21 q22
        have hH := q22.below
        replace hs := hs.quiet q22
        refine An_grow hH ?_
        replace hH := Below.refl w21.heap.size w21
        refine An_take 0 rfl (by kernel_rfl) (by kernel_rfl) (by kernel_rfl) (fun _ _ _ h => h) hH (fun x hx => run_move rfl) rfl ?_
        refine An_take 1 rfl (by kernel_rfl) (by kernel_rfl) (by kernel_rfl) (fun _ _ _ h => h) hH (fun x hx => run_move rfl) rfl ?_
        obtain ⟨⟨kx, fx, bx⟩, ho⟩ : ∃ o, l.getD i (0, false, 0) = o := ⟨_, rfl⟩
        have hmem : (kx, fx, bx) ∈ l := by rw [← ho]; exact getD_mem3 (by omega)
        have hbx := hb _ hmem
        simp only at hbx
        obtain ⟨kn, hkn⟩ : ∃ q : Nat, kx = (q : Int) := ⟨kx.toNat, by omega⟩
        have hti := take_snoc3 (d := ((0, false, 0) : Pr)) (l := l) (i := i) (by omega)
        rw [ho] at hti
        have hrs := row_snoc st (l.take i) (kx, fx, bx) nn
        rw [← hti] at hrs
        have hrl2 := row_len st (l.take i) nn
        rw [List.length_take] at hrl2
        simp only [hkn, Int.toNat_natCast] at hrs
        refine An_index 2  (KP) rfl (by kernel_rfl) (by kernel_rfl) (by kernel_rfl) (fun _ _ _ _ h => h) hH (fun x hx => ((hrl.inB hs).grow hx)) Try.underlying41 inf50 rfl rfl (by omega) (by omega) ho rfl ?_
        intro b23 o24 hc25
        refine An_take 3 rfl (by kernel_rfl) (by kernel_rfl) (by kernel_rfl) (fun _ _ _ h => h) hH (fun x hx => run_field Try.underlying50 rfl inf23 (by decide) rfl) rfl ?_
        refine An_take 4 rfl (by kernel_rfl) (by kernel_rfl) (by kernel_rfl) (fun _ _ _ h => h) hH (fun x hx => run_as (run_load sc23 rfl ((hc25 x hx) 0 _ rfl)) (show _ = Value.int .u64 (kn : Int) from by rw [← hkn])) rfl ?_
        refine An_take 5 rfl (by kernel_rfl) (by kernel_rfl) (by kernel_rfl) (fun _ _ _ h => h) hH (fun x hx => run_field Try.underlying34 rfl inf3 (by decide) rfl) rfl ?_
        refine An_take 6 rfl (by kernel_rfl) (by kernel_rfl) (by kernel_rfl) (fun _ _ _ h => h) hH (fun x hx => run_as (run_load sc3 rfl ((hs.grow hx).blk_at 2 rfl 1 rfl)) (show _ = Value.int .i64 (st : Int) by rw [← hst])) rfl ?_
        refine An_take 7 rfl (by kernel_rfl) (by kernel_rfl) (by kernel_rfl) (fun _ _ _ h => h) hH (fun x hx => run_conv_int Try.underlying23 us3 rfl (wu64 (by omega))) rfl ?_
        refine An_take 8 rfl (by kernel_rfl) (by kernel_rfl) (by kernel_rfl) (fun _ _ _ h => h) hH (fun x hx => run_rem rfl rfl (by omega) (rem_n kn st)) rfl ?_
        refine An_take 9 rfl (by kernel_rfl) (by kernel_rfl) (by kernel_rfl) (fun _ _ _ h => h) hH (fun x hx => run_move rfl) rfl ?_
        refine An_take 10 rfl (by kernel_rfl) (by kernel_rfl) (by kernel_rfl) (fun _ _ _ h => h) hH (fun x hx => run_conv_int Try.underlying23 us3 rfl (wu64 (by omega))) rfl ?_
        refine An_take 11 rfl (by kernel_rfl) (by kernel_rfl) (by kernel_rfl) (fun _ _ _ h => h) hH (fun x hx => run_eql rfl rfl) rfl ?_
        refine An_done (by kernel_rfl) ?_
        refine Jm_seq ?_
        refine St_ifP rfl (fun h26 => ?_) (fun h26 => ?_)
        · skip
          refine St_region ?_
          refine Ls_run (run_move rfl) rfl ?_
          refine Ls_run (run_move rfl) rfl ?_
          refine Ls_run (run_move rfl) rfl ?_
          refine Ls_index (KP) (hrl.inB hs) Try.underlying41 inf50 rfl rfl (by omega) (by omega) ho rfl ?_
          intro b27 o28 hc29
          refine Ls_run (run_as (run_load_agg agg50 inf50 rfl rfl hc29) (show _ = Value.agg #[.int .u64 kx, .bool fx, .int .u64 bx] from rfl)) rfl ?_
          refine Ls_literal [_] hs Try.underlying41 inf50 rfl rfl rfl rfl rfl rfl ?_
          intro b30 w31 hs
          simp only [List.flatMap_cons, List.flatMap_nil, Value.cells, List.cons_append, List.nil_append] at hs
          replace hs := hs.front 1 rfl
          simp only [List.cons_append, List.nil_append, List.eraseIdx_cons_zero, List.eraseIdx_cons_succ] at hs
          refine Ls_append hs Try.underlying41 inf50 rfl (by decide) (by decide) rfl rfl (rd_block (hs.is_at 1 rfl).2 3 1 rfl) (by simp [Value.oneCell']) (by omega) rfl ?_
          intro A32 c33 w34 hs
          replace hs := hs.erase 1
          simp only [List.cons_append, List.nil_append, List.eraseIdx_cons_zero, List.eraseIdx_cons_succ] at hs
          refine Ls_run (run_assign rfl) rfl ?_
          refine Ls_nil ?_
          refine Jm_block_normal (Jm_seq ?_)
          refine St_region ?_
          refine Ls_run (run_move rfl) rfl ?_
          refine Ls_run (run_add rfl rfl (w64 (by omega))) rfl ?_
          refine Ls_run (run_assign rfl) rfl ?_
          refine Ls_nil ?_
          rw [if_pos (by omega)] at hrs
          refine Jm_round (i + 1, Value.slice A32 (m + 1) c33, m + 1) ?_ ?_ ?_
          · rw [hEn16]; exact (subE_cons rfl (subE_cons rfl (subE_cons rfl (subE_cons rfl (subE_cons rfl (subE_cons rfl subE_nil))))))
          · skip
            rw [hIv17]
            refine ⟨?_, by omega, by rw [hrs]; simp [hm]⟩
            rw [hrs, ← flatP_snoc, ← hkn]; exact hs
          · skip
            rw [hms18, hms18]
            omega
        · skip
          refine St_skip ?_
          refine Jm_block_normal (Jm_seq ?_)
          refine St_region ?_
          refine Ls_run (run_move rfl) rfl ?_
          refine Ls_run (run_add rfl rfl (w64 (by omega))) rfl ?_
          refine Ls_run (run_assign rfl) rfl ?_
          refine Ls_nil ?_
          rw [if_neg (by omega)] at hrs
          refine Jm_round (i + 1, v, m) ?_ ?_ ?_
          · rw [hEn16]; exact (subE_cons rfl (subE_cons rfl (subE_cons rfl (subE_cons rfl (subE_cons rfl (subE_cons rfl subE_nil))))))
          · skip
            rw [hIv17]
            refine ⟨?_, by omega, by rw [hrs]; exact hm⟩
            rw [hrs]; exact hs
          · skip
            rw [hms18, hms18]
            omega
      · skip
        refine St_exit ?_
        refine Jm_then_exit (Jm_then_exit (Jm_block_same (Jm_seq ?_)))
        refine St_region ?_
        have hi9 : i = n := by omega
        obtain ⟨Al, cl, rfl, _, _, _⟩ := hs.own_form
        refine Ls_run (run_move rfl) rfl ?_
        refine Ls_run (run_move rfl) rfl ?_
        refine Ls_literal [_] hs Try.underlying43 inf41 rfl rfl rfl rfl rfl rfl ?_
        intro b35 w36 hs
        simp only [List.flatMap_cons, List.flatMap_nil, Value.cells, List.cons_append, List.nil_append] at hs
        replace hs := hs.front 2 rfl
        simp only [List.cons_append, List.nil_append, List.eraseIdx_cons_zero, List.eraseIdx_cons_succ] at hs
        refine Ls_append hs Try.underlying43 inf41 rfl (by decide) (by decide) rfl rfl (rd_block (hs.is_at 1 rfl).2 1 1 rfl) (by simp [Value.oneCell']) (by omega) rfl ?_
        intro A37 c38 w39 hs
        replace hs := hs.erase 1
        simp only [List.cons_append, List.nil_append, List.eraseIdx_cons_zero, List.eraseIdx_cons_succ] at hs
        refine Ls_run (run_assign rfl) rfl ?_
        refine Ls_nil ?_
        refine Jm_block_normal (Jm_seq ?_)
        refine St_region ?_
        replace hs := hs.front 2 rfl
        simp only [List.cons_append, List.nil_append, List.eraseIdx_cons_zero, List.eraseIdx_cons_succ] at hs
        replace hs := hs.front 1 rfl
        simp only [List.cons_append, List.nil_append, List.eraseIdx_cons_zero, List.eraseIdx_cons_succ] at hs
        replace hs := hs.front 2 rfl
        simp only [List.cons_append, List.nil_append, List.eraseIdx_cons_zero, List.eraseIdx_cons_succ] at hs
        rw [El.val_flat] at hs
        have hm9 : m = (row st l nn).length := by rw [hm, hi9, List.take_of_length_le (by omega)]
        have hf9 : KP.flat (row st (l.take i) nn) = KP.flat (row st l nn) := by rw [hi9, List.take_of_length_le (by omega)]
        have hs5 := Sat.row_add (pre := [_, _]) (row st l nn) hs hm9 hf9 (by rw [List.length_take]; omega)
        replace hs := hs5
        simp only [List.cons_append, List.nil_append] at hs
        refine Ls_run (run_move rfl) rfl ?_
        refine Ls_run (run_add rfl rfl (w64 (by omega))) rfl ?_
        refine Ls_run (run_assign rfl) rfl ?_
        refine Ls_nil ?_
        have htk := take_snoc3 (d := ([] : List Pr)) (l := D) (i := nn) (by omega)
        rw [hDD, dealt_getD st l nn (by omega), ← hDD] at htk
        rw [← htk] at hs
        refine Jm_round (nn + 1, vs ++ [Value.slice Al m cl], Value.slice A37 (nn + 1) c38) ?_ ?_ ?_
        · rw [hEn5]; exact (subE_cons rfl (subE_cons rfl (subE_cons rfl (subE_cons rfl subE_nil))))
        · skip
          rw [hIv6]
          exact ⟨by rw [El.val_flat]; exact hs, by omega, by simp [hvs]⟩
        · skip
          rw [hms7, hms7]
          omega
    · skip
      refine St_exit ?_
      refine Jm_then_exit (Jm_then_exit (Jm_block_same (Jm_seq ?_)))
      refine St_seq ?_
      refine St_region ?_
      refine Ls_run (run_move rfl) rfl ?_
      refine Ls_run (run_assign rfl) rfl ?_
      refine Ls_nil ?_
      refine Jm_seq ?_
      refine St_ret ?_
      refine Jm_ret1 rfl rfl ?_
      have hn9 : nn = D.length := by
        rcases Decidable.em (chk p ops = 0) with q | q
        · have hk2 := chk_ok q
          unfold numsOk at hk2
          have := hDl.1 q
          have e : D.length = st := by rw [this]; exact hdl
          omega
        · have := hDl.2 q
          rw [this] at hnn; simp at hnn; rw [this]; simpa using hnn
      rw [hn9, List.take_length] at hs
      obtain ⟨Ao, co, rfl, _, _, _⟩ := hs.own_form
      exact ⟨_, rfl, _, _, vs, rfl, by omega, hs.erase 1⟩
  · skip
    refine Ls_off rfl rfl rfl rfl ?_
    refine Ls_off rfl rfl rfl rfl ?_
    refine Ls_off rfl rfl rfl rfl ?_
    refine Ls_off rfl rfl rfl rfl ?_
    refine Ls_run (run_pick_f rfl rfl) rfl ?_
    refine Ls_nil ?_
    refine Jm_seq ?_
    refine St_iff rfl ?_
    refine St_exit ?_
    refine Jm_then_exit (Jm_then_exit (Jm_block_same (Jm_seq ?_)))
    refine St_seq ?_
    refine St_region ?_
    refine Ls_run (run_move rfl) rfl ?_
    refine Ls_run (run_assign rfl) rfl ?_
    refine Ls_nil ?_
    refine Jm_seq ?_
    refine St_ret ?_
    refine Jm_ret1 rfl rfl ?_
    have hn9 : nn = D.length := by
      rcases Decidable.em (chk p ops = 0) with q | q
      · have hk2 := chk_ok q
        unfold numsOk at hk2
        have := hDl.1 q
        have e : D.length = st := by rw [this]; exact hdl
        omega
      · have := hDl.2 q
        rw [this] at hnn; simp at hnn; rw [this]; simpa using hnn
    rw [hn9, List.take_length] at hs
    obtain ⟨Ao, co, rfl, _, _, _⟩ := hs.own_form
    exact ⟨_, rfl, _, _, vs, rfl, by omega, hs.erase 1⟩
end Go.Proofs.Ytnmeaokfcalbbaa.Lg
