/-
  The disk's laws: images, laid, awake. By program (gen/disk4.py).
-/
import Derived.Test.YtpmkedgennnekaaDisk3
set_option linter.unusedVariables false
set_option linter.unusedSimpArgs false
namespace Go.Proofs.Ytpmkedgennnekaa.Lg
open Go Go.RowKit
theorem Sat.ofBelow {w w' : World} (h : Below w.heap.size w w') : Sat w w' [] := ⟨h, fun _ => none, fun _ => rfl, fun b o h => by cases h⟩
/-- A disk's block, read. -/
theorem Sat.dhd {B w : World} {TD TS TB b : Nat} {s : DSt} {L : List Assn} (hs : Sat B w (DiskA TD TS TB b s :: L)) : ∃ (A : Option Addr) (c : Nat), w.heap[b]? = some (.cells (dcells s A c).toArray TD (0, 0)) := by
  obtain ⟨vs, A, c, _, h⟩ := hs.dopen
  exact ⟨A, c, (h.is_at 0 rfl).2⟩
set_option maxRecDepth 100000 in
set_option maxHeartbeats 4000000 in
theorem images_c (w : World) (A : Option Addr) (n c : Nat) (va : List Value) (xa : List (List Int)) (A2 : Option Addr) (n2 c2 : Nat) (vb : List Value) (xb : List (List Int)) (hr : Rd w A n c 1 (El.val.flat va)) (hr2 : Rd w A2 n2 c2 1 (El.val.flat vb)) (hpa : PartsK (El.int .u8) w va xa) (hpb : PartsK (El.int .u8) w vb xb) (hba : ∀ r ∈ xa, IsBytes r) (hbb : ∀ r ∈ xb, IsBytes r) (hn : n ≤ 9223372036854775807) :
    Calls Try.prog 20 [.slice A n c, .slice A2 n2 c2].toArray w (Ret (fun v' w' => v' = .bool (decide (xa = xb)) ∧ Sat w w' [])) := by
  have hs := Sat.start w
  have hlva : va.length = n := by have := hr.len; rw [El.flat_length] at this; simpa [El.val] using this
  have hlvb : vb.length = n2 := by have := hr2.len; rw [El.flat_length] at this; simpa [El.val] using this
  have hla : xa.length = n := by have := hpa.1; omega
  have hlb : xb.length = n2 := by have := hpb.1; omega
  refine Calls_body Try.func20 rfl rfl rfl (envE_cons (i := 0) (v := .slice A n c) rfl (envE_cons (i := 1) (v := .slice A2 n2 c2) rfl envE_nil)) ?_
  refine St_seq ?_
  refine St_region ?_
  refine Ls_run (run_assign rfl) rfl ?_
  refine Ls_nil ?_
  refine Jm_seq ?_
  refine St_seq ?_
  refine St_seq ?_
  refine St_region ?_
  refine Ls_run (run_move rfl) rfl ?_
  refine Ls_run (run_len Try.underlying28 rfl) rfl ?_
  refine Ls_run (run_move rfl) rfl ?_
  refine Ls_run (run_len Try.underlying28 rfl) rfl ?_
  refine Ls_run (run_neq rfl rfl) rfl ?_
  refine Ls_nil ?_
  refine Jm_seq ?_
  refine St_ifP rfl (fun h1 => ?_) (fun h1 => ?_)
  · skip
    refine St_seq ?_
    refine St_region ?_
    refine Ls_run (run_assign rfl) rfl ?_
    refine Ls_nil ?_
    refine Jm_seq ?_
    refine St_ret ?_
    refine Jm_then_ret  ?_
    refine Jm_ret1 rfl rfl ?_
    exact ⟨_, rfl, by rw [decide_eq_false (fun q => by subst q; omega)], hs⟩
  · skip
    refine St_skip ?_
    refine Jm_seq ?_
    refine St_seq ?_
    refine St_seq ?_
    refine St_region ?_
    refine Ls_run (run_assign rfl) rfl ?_
    refine Ls_nil ?_
    refine Jm_seq ?_
    refine St_block ?_
    obtain ⟨En2, hEn2⟩ : ∃ F : Nat → Env, ∀ (i : Nat), F i = [(0, .slice A n c), (1, .slice A2 n2 c2), (5, .int .i64 (i : Int))] := ⟨(fun (i : Nat) => [(0, .slice A n c), (1, .slice A2 n2 c2), (5, .int .i64 (i : Int))]), fun _ => rfl⟩
    obtain ⟨Iv3, hIv3⟩ : ∃ F : Nat → World → Prop, ∀ (i : Nat) (wr : World), F i wr = (Sat w wr [] ∧ i ≤ n ∧ xa.take i = xb.take i) := ⟨(fun (i : Nat) => fun (wr : World) => Sat w wr [] ∧ i ≤ n ∧ xa.take i = xb.take i), fun _ _ => rfl⟩
    obtain ⟨ms4, hms4⟩ : ∃ F : Nat → Nat, ∀ (i : Nat), F i = (n - i) := ⟨(fun (i : Nat) => n - i), fun _ => rfl⟩
    refine St_loop En2 Iv3 ms4 (0) ?_ ?_ ?_
    · skip
      rw [hIv3]
      exact ⟨hs, by omega, rfl⟩
    · rw [hEn2]; exact (subE_cons rfl (subE_cons rfl (subE_cons rfl subE_nil)))
    rintro i wr hI5
    rw [hIv3] at hI5
    obtain ⟨hs, hi, heqt⟩ := hI5
    refine St_eqE (hEn2 _) ?_
    refine St_seq ?_
    refine St_seq ?_
    refine St_region ?_
    refine Ls_run (run_move rfl) rfl ?_
    refine Ls_run (run_move rfl) rfl ?_
    refine Ls_run (run_len Try.underlying28 rfl) rfl ?_
    refine Ls_run (run_lss rfl rfl) rfl ?_
    refine Ls_nil ?_
    refine Jm_seq ?_
    refine St_ifP rfl (fun h6 => ?_) (fun h6 => ?_)
    · skip
      refine St_skip ?_
      refine Jm_seq ?_
      refine St_seq ?_
      refine St_block ?_
      refine St_seq ?_
      refine St_draw (fun x => Below wr.heap.size wr x) mixed ?_
      intro w7 q8
      have hH := q8.below
      replace hs := hs.quiet q8
      refine An_grow hH ?_
      replace hH := Below.refl w7.heap.size w7
      refine An_take 0 rfl (by kernel_rfl) (by kernel_rfl) (by kernel_rfl) (fun _ _ _ h => h) hH (fun x hx => run_move rfl) rfl ?_
      refine An_take 1 rfl (by kernel_rfl) (by kernel_rfl) (by kernel_rfl) (fun _ _ _ h => h) hH (fun x hx => run_move rfl) rfl ?_
      obtain ⟨Ai, ni, ci, hvi, hra⟩ := hpa.2 i (by omega)
      obtain ⟨Bi, mi, di, hwi, hrb⟩ := hpb.2 i (by omega)
      rw [← bytesV_flat] at hra hrb
      refine An_index 2  (El.val) rfl (by kernel_rfl) (by kernel_rfl) (by kernel_rfl) (fun _ _ _ _ h => h) hH (fun x hx => ((hr.inB hs).grow hx)) Try.underlying28 inf31 rfl rfl (by omega) (by omega) hvi rfl ?_
      intro b9 o10 hc11
      refine An_take 3 rfl (by kernel_rfl) (by kernel_rfl) (by kernel_rfl) (fun _ _ _ h => h) hH (fun x hx => run_load sc31 rfl ((hc11 x hx) 0 _ rfl)) rfl ?_
      refine An_take 4 rfl (by kernel_rfl) (by kernel_rfl) (by kernel_rfl) (fun _ _ _ h => h) hH (fun x hx => run_string Try.underlying31 Try.underlying5 Try.underlying9 rfl ((hra.inB hs).grow hx)) rfl ?_
      refine An_take 5 rfl (by kernel_rfl) (by kernel_rfl) (by kernel_rfl) (fun _ _ _ h => h) hH (fun x hx => run_move rfl) rfl ?_
      refine An_take 6 rfl (by kernel_rfl) (by kernel_rfl) (by kernel_rfl) (fun _ _ _ h => h) hH (fun x hx => run_move rfl) rfl ?_
      refine An_index 7  (El.val) rfl (by kernel_rfl) (by kernel_rfl) (by kernel_rfl) (fun _ _ _ _ h => h) hH (fun x hx => ((hr2.inB hs).grow hx)) Try.underlying28 inf31 rfl rfl (by omega) (by omega) hwi rfl ?_
      intro b12 o13 hc14
      refine An_take 8 rfl (by kernel_rfl) (by kernel_rfl) (by kernel_rfl) (fun _ _ _ h => h) hH (fun x hx => run_load sc31 rfl ((hc14 x hx) 0 _ rfl)) rfl ?_
      refine An_take 9 rfl (by kernel_rfl) (by kernel_rfl) (by kernel_rfl) (fun _ _ _ h => h) hH (fun x hx => run_string Try.underlying31 Try.underlying5 Try.underlying9 rfl ((hrb.inB hs).grow hx)) rfl ?_
      refine An_take 10 rfl (by kernel_rfl) (by kernel_rfl) (by kernel_rfl) (fun _ _ _ h => h) hH (fun x hx => run_as (run_neq_str rfl rfl) (show _ = Value.bool (!decide (xa.getD i [] = xb.getD i [])) by rw [strOfNums_inj (hba _ (getD_mem_bl (by omega))) (hbb _ (getD_mem_bl (by omega)))])) rfl ?_
      refine An_done (by kernel_rfl) ?_
      refine Jm_seq ?_
      refine St_ifN rfl (fun h15 => ?_) (fun h15 => ?_)
      · skip
        refine St_seq ?_
        refine St_region ?_
        refine Ls_run (run_assign rfl) rfl ?_
        refine Ls_nil ?_
        refine Jm_seq ?_
        refine St_ret ?_
        refine Jm_block_ret (Jm_then_ret (Jm_then_ret (Jm_block_ret (Jm_then_ret  ?_))))
        refine Jm_ret1 rfl rfl ?_
        exact ⟨_, rfl, by rw [decide_eq_false (fun q => by subst q; simp_all)], hs⟩
      · skip
        refine St_skip ?_
        refine Jm_block_normal (Jm_seq ?_)
        refine St_region ?_
        refine Ls_run (run_move rfl) rfl ?_
        refine Ls_run (run_add rfl rfl (w64 (by omega))) rfl ?_
        refine Ls_run (run_assign rfl) rfl ?_
        refine Ls_nil ?_
        refine Jm_round (i + 1) ?_ ?_ ?_
        · rw [hEn2]; exact (subE_cons rfl (subE_cons rfl (subE_cons rfl subE_nil)))
        · skip
          rw [hIv3]
          refine ⟨hs, by omega, ?_⟩
          have heq : xa.getD i [] = xb.getD i [] := by first | assumption | exact Decidable.not_not.1 (by assumption)
          rw [take_snoc4 (d := []) (by omega), take_snoc4 (d := []) (by omega), heqt, heq]
        · skip
          rw [hms4, hms4]
          omega
    · skip
      refine St_exit ?_
      refine Jm_then_exit (Jm_then_exit (Jm_block_same (Jm_seq ?_)))
      refine St_seq ?_
      refine St_region ?_
      refine Ls_run (run_assign rfl) rfl ?_
      refine Ls_nil ?_
      refine Jm_seq ?_
      refine St_ret ?_
      refine Jm_ret1 rfl rfl ?_
      have hi9 : i = n := by omega
      exact ⟨_, rfl, by rw [decide_eq_true (take_all3 heqt (by omega) (by omega))], hs⟩
set_option maxRecDepth 100000 in
set_option maxHeartbeats 4000000 in
theorem images18_c (w : World) (A : Option Addr) (n c : Nat) (va : List Value) (xa : List (List Int)) (A2 : Option Addr) (n2 c2 : Nat) (vb : List Value) (xb : List (List Int)) (hr : Rd w A n c 1 (El.val.flat va)) (hr2 : Rd w A2 n2 c2 1 (El.val.flat vb)) (hpa : PartsK (El.int .u8) w va xa) (hpb : PartsK (El.int .u8) w vb xb) (hba : ∀ r ∈ xa, IsBytes r) (hbb : ∀ r ∈ xb, IsBytes r) (hn : n ≤ 9223372036854775807) :
    Calls Try.prog 48 [.slice A n c, .slice A2 n2 c2].toArray w (Ret (fun v' w' => v' = .bool (decide (xa = xb)) ∧ Sat w w' [])) := by
  have hs := Sat.start w
  have hlva : va.length = n := by have := hr.len; rw [El.flat_length] at this; simpa [El.val] using this
  have hlvb : vb.length = n2 := by have := hr2.len; rw [El.flat_length] at this; simpa [El.val] using this
  have hla : xa.length = n := by have := hpa.1; omega
  have hlb : xb.length = n2 := by have := hpb.1; omega
  refine Calls_body Try.func48 rfl rfl rfl (envE_cons (i := 0) (v := .slice A n c) rfl (envE_cons (i := 1) (v := .slice A2 n2 c2) rfl envE_nil)) ?_
  refine St_seq ?_
  refine St_region ?_
  refine Ls_run (run_assign rfl) rfl ?_
  refine Ls_nil ?_
  refine Jm_seq ?_
  refine St_seq ?_
  refine St_seq ?_
  refine St_region ?_
  refine Ls_run (run_move rfl) rfl ?_
  refine Ls_run (run_len Try.underlying28 rfl) rfl ?_
  refine Ls_run (run_move rfl) rfl ?_
  refine Ls_run (run_len Try.underlying28 rfl) rfl ?_
  refine Ls_run (run_neq rfl rfl) rfl ?_
  refine Ls_nil ?_
  refine Jm_seq ?_
  refine St_ifP rfl (fun h1 => ?_) (fun h1 => ?_)
  · skip
    refine St_seq ?_
    refine St_region ?_
    refine Ls_run (run_assign rfl) rfl ?_
    refine Ls_nil ?_
    refine Jm_seq ?_
    refine St_ret ?_
    refine Jm_then_ret  ?_
    refine Jm_ret1 rfl rfl ?_
    exact ⟨_, rfl, by rw [decide_eq_false (fun q => by subst q; omega)], hs⟩
  · skip
    refine St_skip ?_
    refine Jm_seq ?_
    refine St_seq ?_
    refine St_seq ?_
    refine St_region ?_
    refine Ls_run (run_assign rfl) rfl ?_
    refine Ls_nil ?_
    refine Jm_seq ?_
    refine St_block ?_
    obtain ⟨En2, hEn2⟩ : ∃ F : Nat → Env, ∀ (i : Nat), F i = [(0, .slice A n c), (1, .slice A2 n2 c2), (5, .int .i64 (i : Int))] := ⟨(fun (i : Nat) => [(0, .slice A n c), (1, .slice A2 n2 c2), (5, .int .i64 (i : Int))]), fun _ => rfl⟩
    obtain ⟨Iv3, hIv3⟩ : ∃ F : Nat → World → Prop, ∀ (i : Nat) (wr : World), F i wr = (Sat w wr [] ∧ i ≤ n ∧ xa.take i = xb.take i) := ⟨(fun (i : Nat) => fun (wr : World) => Sat w wr [] ∧ i ≤ n ∧ xa.take i = xb.take i), fun _ _ => rfl⟩
    obtain ⟨ms4, hms4⟩ : ∃ F : Nat → Nat, ∀ (i : Nat), F i = (n - i) := ⟨(fun (i : Nat) => n - i), fun _ => rfl⟩
    refine St_loop En2 Iv3 ms4 (0) ?_ ?_ ?_
    · skip
      rw [hIv3]
      exact ⟨hs, by omega, rfl⟩
    · rw [hEn2]; exact (subE_cons rfl (subE_cons rfl (subE_cons rfl subE_nil)))
    rintro i wr hI5
    rw [hIv3] at hI5
    obtain ⟨hs, hi, heqt⟩ := hI5
    refine St_eqE (hEn2 _) ?_
    refine St_seq ?_
    refine St_seq ?_
    refine St_region ?_
    refine Ls_run (run_move rfl) rfl ?_
    refine Ls_run (run_move rfl) rfl ?_
    refine Ls_run (run_len Try.underlying28 rfl) rfl ?_
    refine Ls_run (run_lss rfl rfl) rfl ?_
    refine Ls_nil ?_
    refine Jm_seq ?_
    refine St_ifP rfl (fun h6 => ?_) (fun h6 => ?_)
    · skip
      refine St_skip ?_
      refine Jm_seq ?_
      refine St_seq ?_
      refine St_block ?_
      refine St_seq ?_
      refine St_draw (fun x => Below wr.heap.size wr x) mixed ?_
      intro w7 q8
      have hH := q8.below
      replace hs := hs.quiet q8
      refine An_grow hH ?_
      replace hH := Below.refl w7.heap.size w7
      refine An_take 0 rfl (by kernel_rfl) (by kernel_rfl) (by kernel_rfl) (fun _ _ _ h => h) hH (fun x hx => run_move rfl) rfl ?_
      refine An_take 1 rfl (by kernel_rfl) (by kernel_rfl) (by kernel_rfl) (fun _ _ _ h => h) hH (fun x hx => run_move rfl) rfl ?_
      obtain ⟨Ai, ni, ci, hvi, hra⟩ := hpa.2 i (by omega)
      obtain ⟨Bi, mi, di, hwi, hrb⟩ := hpb.2 i (by omega)
      rw [← bytesV_flat] at hra hrb
      refine An_index 2  (El.val) rfl (by kernel_rfl) (by kernel_rfl) (by kernel_rfl) (fun _ _ _ _ h => h) hH (fun x hx => ((hr.inB hs).grow hx)) Try.underlying28 inf31 rfl rfl (by omega) (by omega) hvi rfl ?_
      intro b9 o10 hc11
      refine An_take 3 rfl (by kernel_rfl) (by kernel_rfl) (by kernel_rfl) (fun _ _ _ h => h) hH (fun x hx => run_load sc31 rfl ((hc11 x hx) 0 _ rfl)) rfl ?_
      refine An_take 4 rfl (by kernel_rfl) (by kernel_rfl) (by kernel_rfl) (fun _ _ _ h => h) hH (fun x hx => run_string Try.underlying31 Try.underlying5 Try.underlying9 rfl ((hra.inB hs).grow hx)) rfl ?_
      refine An_take 5 rfl (by kernel_rfl) (by kernel_rfl) (by kernel_rfl) (fun _ _ _ h => h) hH (fun x hx => run_move rfl) rfl ?_
      refine An_take 6 rfl (by kernel_rfl) (by kernel_rfl) (by kernel_rfl) (fun _ _ _ h => h) hH (fun x hx => run_move rfl) rfl ?_
      refine An_index 7  (El.val) rfl (by kernel_rfl) (by kernel_rfl) (by kernel_rfl) (fun _ _ _ _ h => h) hH (fun x hx => ((hr2.inB hs).grow hx)) Try.underlying28 inf31 rfl rfl (by omega) (by omega) hwi rfl ?_
      intro b12 o13 hc14
      refine An_take 8 rfl (by kernel_rfl) (by kernel_rfl) (by kernel_rfl) (fun _ _ _ h => h) hH (fun x hx => run_load sc31 rfl ((hc14 x hx) 0 _ rfl)) rfl ?_
      refine An_take 9 rfl (by kernel_rfl) (by kernel_rfl) (by kernel_rfl) (fun _ _ _ h => h) hH (fun x hx => run_string Try.underlying31 Try.underlying5 Try.underlying9 rfl ((hrb.inB hs).grow hx)) rfl ?_
      refine An_take 10 rfl (by kernel_rfl) (by kernel_rfl) (by kernel_rfl) (fun _ _ _ h => h) hH (fun x hx => run_as (run_neq_str rfl rfl) (show _ = Value.bool (!decide (xa.getD i [] = xb.getD i [])) by rw [strOfNums_inj (hba _ (getD_mem_bl (by omega))) (hbb _ (getD_mem_bl (by omega)))])) rfl ?_
      refine An_done (by kernel_rfl) ?_
      refine Jm_seq ?_
      refine St_ifN rfl (fun h15 => ?_) (fun h15 => ?_)
      · skip
        refine St_seq ?_
        refine St_region ?_
        refine Ls_run (run_assign rfl) rfl ?_
        refine Ls_nil ?_
        refine Jm_seq ?_
        refine St_ret ?_
        refine Jm_block_ret (Jm_then_ret (Jm_then_ret (Jm_block_ret (Jm_then_ret  ?_))))
        refine Jm_ret1 rfl rfl ?_
        exact ⟨_, rfl, by rw [decide_eq_false (fun q => by subst q; simp_all)], hs⟩
      · skip
        refine St_skip ?_
        refine Jm_block_normal (Jm_seq ?_)
        refine St_region ?_
        refine Ls_run (run_move rfl) rfl ?_
        refine Ls_run (run_add rfl rfl (w64 (by omega))) rfl ?_
        refine Ls_run (run_assign rfl) rfl ?_
        refine Ls_nil ?_
        refine Jm_round (i + 1) ?_ ?_ ?_
        · rw [hEn2]; exact (subE_cons rfl (subE_cons rfl (subE_cons rfl subE_nil)))
        · skip
          rw [hIv3]
          refine ⟨hs, by omega, ?_⟩
          have heq : xa.getD i [] = xb.getD i [] := by first | assumption | exact Decidable.not_not.1 (by assumption)
          rw [take_snoc4 (d := []) (by omega), take_snoc4 (d := []) (by omega), heqt, heq]
        · skip
          rw [hms4, hms4]
          omega
    · skip
      refine St_exit ?_
      refine Jm_then_exit (Jm_then_exit (Jm_block_same (Jm_seq ?_)))
      refine St_seq ?_
      refine St_region ?_
      refine Ls_run (run_assign rfl) rfl ?_
      refine Ls_nil ?_
      refine Jm_seq ?_
      refine St_ret ?_
      refine Jm_ret1 rfl rfl ?_
      have hi9 : i = n := by omega
      exact ⟨_, rfl, by rw [decide_eq_true (take_all3 heqt (by omega) (by omega))], hs⟩
set_option maxRecDepth 100000 in
set_option maxHeartbeats 4000000 in
theorem laid_c (w : World) (A : Option Addr) (n c : Nat) (hnc : n ≤ c) :
    Calls Try.prog 15 [.slice A n c].toArray w (Ret (fun v' w' => w = w' ∧ v' = .slice A (min n 1024) c)) := by
  refine Calls_body Try.func15 rfl rfl rfl (envE_cons (i := 0) (v := .slice A n c) rfl envE_nil) ?_
  refine St_seq ?_
  refine St_region ?_
  refine Ls_run (run_assign rfl) rfl ?_
  refine Ls_nil ?_
  refine Jm_seq ?_
  refine St_seq ?_
  refine St_seq ?_
  refine St_region ?_
  refine Ls_run (run_move rfl) rfl ?_
  refine Ls_run (run_len Try.underlying31 rfl) rfl ?_
  refine Ls_run (run_gtr rfl rfl) rfl ?_
  refine Ls_nil ?_
  refine Jm_seq ?_
  refine St_ifP rfl (fun h1 => ?_) (fun h1 => ?_)
  · skip
    refine St_seq ?_
    refine St_region ?_
    refine Ls_run (run_move rfl) rfl ?_
    refine Ls_run (run_slice_h Try.underlying31 inf5 rfl rfl (by omega) (by omega)) rfl ?_
    refine Ls_run (run_assign rfl) rfl ?_
    refine Ls_nil ?_
    refine Jm_seq ?_
    refine St_ret ?_
    refine Jm_then_ret  ?_
    refine Jm_ret1 rfl rfl ?_
    have e : min n 1024 = 1024 := by omega
    rw [e]
    exact ⟨_, rfl, rfl, rfl⟩
  · skip
    refine St_skip ?_
    refine Jm_seq ?_
    refine St_seq ?_
    refine St_region ?_
    refine Ls_run (run_move rfl) rfl ?_
    refine Ls_run (run_assign rfl) rfl ?_
    refine Ls_nil ?_
    refine Jm_seq ?_
    refine St_ret ?_
    refine Jm_ret1 rfl rfl ?_
    have e : min n 1024 = n := by omega
    rw [e]
    exact ⟨_, rfl, rfl, rfl⟩

def a1 : DSt := (dwrite (dnew 3) 1 [97, 98]).2
def a2 : DSt := (dread a1 1).2.2
def a3 : DSt := dcut a2 1
def a4 : DSt := (dwrite a3 0 [99]).2
def a5 : DSt := (dwrite a4 0 [100]).2
theorem a5_bytes : ∀ r ∈ a5.bl, IsBytes r := by
  have e : a5.bl = [[99], [97, 98], []] := by decide
  rw [e]; simp [IsBytes]
set_option maxRecDepth 100000 in
set_option maxHeartbeats 4000000 in
theorem dawake_c (w : World) :
    Calls Try.prog 12 [].toArray w (Ret (fun v' w' => v' = .bool true ∧ Sat w w' [])) := by
  have hs := Sat.start w
  refine Calls_body Try.func12 rfl rfl rfl envE_nil ?_
  refine St_seq ?_
  refine St_region ?_
  refine Ls_run (run_assign rfl) rfl ?_
  refine Ls_nil ?_
  refine Jm_seq ?_
  refine St_seq ?_
  refine St_region ?_
  refine Ls_call Try.func13 nm13 rfl rfl (New_c w 3 (by decide) (by decide)) rfl ?_
  rintro v1 w2 ⟨b0, rfl, hsD⟩
  replace hs := hs.trans hsD
  simp only [List.cons_append, List.nil_append] at hs
  refine Ls_run (run_move rfl) rfl ?_
  refine Ls_run (run_extract rfl rfl) rfl ?_
  refine Ls_run (run_extract rfl rfl) rfl ?_
  refine Ls_run (run_assign rfl) rfl ?_
  refine Ls_run (run_assign rfl) rfl ?_
  refine Ls_nil ?_
  refine Jm_seq ?_
  refine St_seq ?_
  refine St_seq ?_
  refine St_region ?_
  refine Ls_run (run_move rfl) rfl ?_
  refine Ls_run (run_asB (c := false) (run_eql_ptr_nil Try.underlying24 rfl rfl) rfl) rfl ?_
  refine Ls_run (run_move rfl) rfl ?_
  refine Ls_on rfl rfl ?_
  refine Ls_run (run_move rfl) rfl ?_
  refine Ls_on rfl rfl ?_
  refine Ls_run (run_asB (c := false) (run_neq rfl rfl) (by decide)) rfl ?_
  refine Ls_run (run_pick_f rfl rfl) rfl ?_
  refine Ls_nil ?_
  refine Jm_seq ?_
  refine St_iff rfl ?_
  refine St_skip ?_
  refine Jm_seq ?_
  refine St_seq ?_
  refine St_region ?_
  refine Ls_run (run_move rfl) rfl ?_
  refine Ls_literal [_, _] hs Try.underlying31 inf5 rfl rfl rfl rfl rfl rfl ?_
  intro b4 w5 hs
  simp only [List.flatMap_cons, List.flatMap_nil, Value.cells, List.cons_append, List.nil_append] at hs
  refine Ls_stringish hs Try.underlying31 Try.underlying5 rfl rfl ?_
  intro w6 hs
  replace hs := hs.front 1 rfl
  simp only [List.cons_append, List.nil_append, List.eraseIdx_cons_zero, List.eraseIdx_cons_succ] at hs
  refine Ls_call Try.func17 nm17 rfl rfl (Write_c w w6 _ b0 (dnew 3) hs (by decide) 1 _ 2 2 [97, 98] (fun w' X q => rd_block (q.is_at 1 rfl).2 1 2 rfl) (by decide)) rfl ?_
  rintro v7 w9 ⟨rfl, hs⟩
  replace hs : Sat w w9 (DiskA 85 31 5 b0 a1 :: _) := hs
  rw [show (dwrite (dnew 3) 1 [97, 98]).1 = 0 from by decide]
  refine Ls_run (run_assign rfl) rfl ?_
  refine Ls_nil ?_
  refine Jm_seq ?_
  refine St_seq ?_
  refine St_region ?_
  refine Ls_run (run_move rfl) rfl ?_
  refine Ls_call Try.func18 nm18 rfl rfl (Read_c w w9 _ b0 a1 hs (by decide) 1) rfl ?_
  rintro v10 w11 ⟨Ar, cr, rfl, hs⟩
  rw [show (dread a1 1).1 = [97, 98] from by decide] at hs ⊢
  rw [show (dread a1 1).2.1 = 0 from by decide]
  replace hs : Sat w w11 (DiskA 85 31 5 b0 a2 :: _) := hs
  refine Ls_run (run_move rfl) rfl ?_
  refine Ls_run (run_extract rfl rfl) rfl ?_
  refine Ls_run (run_extract rfl rfl) rfl ?_
  refine Ls_run (run_assign rfl) rfl ?_
  refine Ls_run (run_assign rfl) rfl ?_
  refine Ls_nil ?_
  refine Jm_seq ?_
  refine St_seq ?_
  refine St_region ?_
  refine Ls_run (run_move rfl) rfl ?_
  obtain ⟨vs0, A0, c0, hv0, hs⟩ := hs.dopen
  refine Ls_call Try.func14 nm14 rfl rfl (Cut_c w w11 _ b0 a2 A0 c0 hs 1) rfl ?_
  rintro v12 w13 ⟨rfl, hs⟩
  replace hs := Sat.dshut (s := a3) hv0 hs
  refine Ls_nil ?_
  refine Jm_seq ?_
  refine St_seq ?_
  refine St_region ?_
  refine Ls_run (run_move rfl) rfl ?_
  refine Ls_literal [_] hs Try.underlying31 inf5 rfl rfl rfl rfl rfl rfl ?_
  intro b14 w15 hs
  simp only [List.flatMap_cons, List.flatMap_nil, Value.cells, List.cons_append, List.nil_append] at hs
  refine Ls_stringish hs Try.underlying31 Try.underlying5 rfl rfl ?_
  intro w16 hs
  replace hs := hs.front 1 rfl
  simp only [List.cons_append, List.nil_append, List.eraseIdx_cons_zero, List.eraseIdx_cons_succ] at hs
  refine Ls_call Try.func17 nm17 rfl rfl (Write_c w w16 _ b0 a3 hs (by decide) 0 _ 1 1 [99] (fun w' X q => rd_block (q.is_at 1 rfl).2 1 1 rfl) (by decide)) rfl ?_
  rintro v17 w18 ⟨rfl, hs⟩
  replace hs : Sat w w18 (DiskA 85 31 5 b0 a4 :: _) := hs
  rw [show (dwrite a3 0 [99]).1 = 0 from by decide]
  refine Ls_run (run_assign rfl) rfl ?_
  refine Ls_nil ?_
  refine Jm_seq ?_
  refine St_seq ?_
  refine St_region ?_
  refine Ls_run (run_move rfl) rfl ?_
  refine Ls_literal [_] hs Try.underlying31 inf5 rfl rfl rfl rfl rfl rfl ?_
  intro b19 w20 hs
  simp only [List.flatMap_cons, List.flatMap_nil, Value.cells, List.cons_append, List.nil_append] at hs
  refine Ls_stringish hs Try.underlying31 Try.underlying5 rfl rfl ?_
  intro w21 hs
  replace hs := hs.front 1 rfl
  simp only [List.cons_append, List.nil_append, List.eraseIdx_cons_zero, List.eraseIdx_cons_succ] at hs
  refine Ls_call Try.func17 nm17 rfl rfl (Write_c w w21 _ b0 a4 hs (by decide) 0 _ 1 1 [100] (fun w' X q => rd_block (q.is_at 1 rfl).2 1 1 rfl) (by decide)) rfl ?_
  rintro v22 w23 ⟨rfl, hs⟩
  replace hs : Sat w w23 (DiskA 85 31 5 b0 a5 :: _) := hs
  rw [show (dwrite a4 0 [100]).1 = 80 from by decide]
  refine Ls_run (run_assign rfl) rfl ?_
  refine Ls_nil ?_
  refine Jm_seq ?_
  refine St_seq ?_
  refine St_region ?_
  refine Ls_run (run_move rfl) rfl ?_
  refine Ls_run (run_asB (c := true) (run_eql rfl rfl) (by decide)) rfl ?_
  refine Ls_run (run_move rfl) rfl ?_
  refine Ls_on rfl rfl ?_
  refine Ls_run (run_move rfl) rfl ?_
  refine Ls_on rfl rfl ?_
  refine Ls_run (run_string Try.underlying31 Try.underlying5 Try.underlying9 rfl (hs.rd_at 3 rfl)) rfl ?_
  refine Ls_on rfl rfl ?_
  refine Ls_run (run_asB (c := true) (run_eql_str rfl rfl) (beq_self_eq_true (strOfNums [97, 98]).toList)) rfl ?_
  refine Ls_run (run_pick_t rfl rfl) rfl ?_
  refine Ls_run (run_move rfl) rfl ?_
  refine Ls_on rfl rfl ?_
  refine Ls_run (run_move rfl) rfl ?_
  refine Ls_on rfl rfl ?_
  refine Ls_run (run_asB (c := true) (run_eql rfl rfl) (by decide)) rfl ?_
  refine Ls_run (run_pick_t rfl rfl) rfl ?_
  refine Ls_run (run_move rfl) rfl ?_
  refine Ls_on rfl rfl ?_
  refine Ls_run (run_move rfl) rfl ?_
  refine Ls_on rfl rfl ?_
  refine Ls_run (run_asB (c := true) (run_eql rfl rfl) (by decide)) rfl ?_
  refine Ls_run (run_pick_t rfl rfl) rfl ?_
  refine Ls_run (run_move rfl) rfl ?_
  refine Ls_on rfl rfl ?_
  refine Ls_run (run_move rfl) rfl ?_
  refine Ls_on rfl rfl ?_
  refine Ls_run (run_asB (c := true) (run_eql rfl rfl) (by decide)) rfl ?_
  refine Ls_run (run_pick_t rfl rfl) rfl ?_
  refine Ls_run (run_move rfl) rfl ?_
  refine Ls_on rfl rfl ?_
  refine Ls_run (run_move rfl) rfl ?_
  refine Ls_on rfl rfl ?_
  obtain ⟨A0, c0, hd0⟩ := hs.dhd
  refine Ls_call Try.func16 nm16 rfl rfl (Down_c w23 b0 a5 A0 c0 hd0) rfl ?_
  rintro v24 w25 ⟨rfl, rfl⟩
  rw [show a5.down = true from by decide]
  refine Ls_run (run_pick_t rfl rfl) rfl ?_
  refine Ls_run (run_move rfl) rfl ?_
  refine Ls_on rfl rfl ?_
  refine Ls_run (run_move rfl) rfl ?_
  refine Ls_on rfl rfl ?_
  refine Ls_call Try.func21 nm21 rfl rfl (Image_c w w23 _ b0 a5 hs (by decide) (by decide)) rfl ?_
  rintro v26 w27 ⟨Ai, ci, vi, rfl, hvi, hs⟩
  replace hs := Sat.toKeep (F := fun w => Rd w Ai a5.bl.length ci 1 (El.val.flat vi) ∧ PartsK (El.int .u8) w vi a5.bl) (fun B w q => ⟨q.rd_at 0 rfl, Sat.parts (pre := [_]) q hvi⟩) hs
  refine Ls_on rfl rfl ?_
  refine Ls_literal [_] hs Try.underlying31 inf5 rfl rfl rfl rfl rfl rfl ?_
  intro b28 w29 hs
  simp only [List.flatMap_cons, List.flatMap_nil, Value.cells, List.cons_append, List.nil_append] at hs
  refine Ls_on rfl rfl ?_
  refine Ls_stringish hs Try.underlying31 Try.underlying5 rfl rfl ?_
  intro w30 hs
  refine Ls_on rfl rfl ?_
  refine Ls_literal [_, _] hs Try.underlying31 inf5 rfl rfl rfl rfl rfl rfl ?_
  intro b31 w32 hs
  simp only [List.flatMap_cons, List.flatMap_nil, Value.cells, List.cons_append, List.nil_append] at hs
  refine Ls_on rfl rfl ?_
  refine Ls_stringish hs Try.underlying31 Try.underlying5 rfl rfl ?_
  intro w33 hs
  refine Ls_on rfl rfl ?_
  refine Ls_literal [_, _, _] hs Try.underlying28 inf31 rfl rfl rfl rfl rfl rfl ?_
  intro b34 w35 hs
  simp only [List.flatMap_cons, List.flatMap_nil, Value.cells, List.cons_append, List.nil_append] at hs
  refine Ls_on rfl rfl ?_
  refine Ls_call Try.func20 nm20 rfl rfl (images_c w35 _ _ _ _ a5.bl _ _ _ [_, _, _] a5.bl ((hs.kept 3 rfl).1) (rd_block (hs.is_at 0 rfl).2 1 3 rfl) (hs.kept 3 rfl).2 (PartsK.cons (l := [99]) (rd_block (hs.is_at 2 rfl).2 1 1 rfl) (PartsK.cons (l := [97, 98]) (rd_block (hs.is_at 1 rfl).2 1 2 rfl) (PartsK.cons (l := []) (Rd.none _ 1) (PartsK.nil _ _)))) a5_bytes a5_bytes (by decide)) rfl ?_
  rintro v36 w37 ⟨rfl, hsI⟩
  replace hs := hs.trans hsI
  simp only [List.nil_append] at hs
  rw [decide_eq_true (rfl : a5.bl = a5.bl)]
  refine Ls_run (run_pick_t rfl rfl) rfl ?_
  refine Ls_run (run_move rfl) rfl ?_
  refine Ls_on rfl rfl ?_
  refine Ls_run (run_move rfl) rfl ?_
  refine Ls_on rfl rfl ?_
  replace hs := hs.front 4 rfl
  simp only [List.cons_append, List.nil_append, List.eraseIdx_cons_zero, List.eraseIdx_cons_succ] at hs
  obtain ⟨A0, c0, hd0⟩ := hs.dhd
  refine Ls_call Try.func29 nm29 rfl rfl (Blocks_c w37 b0 a5 A0 c0 hd0) rfl ?_
  rintro v38 w39 ⟨rfl, rfl⟩
  refine Ls_on rfl rfl ?_
  refine Ls_run (run_asB (c := true) (run_eql rfl rfl) (by decide)) rfl ?_
  refine Ls_run (run_pick_t rfl rfl) rfl ?_
  refine Ls_run (run_move rfl) rfl ?_
  refine Ls_on rfl rfl ?_
  refine Ls_run (run_move rfl) rfl ?_
  refine Ls_on rfl rfl ?_
  obtain ⟨A0, c0, hd0⟩ := hs.dhd
  refine Ls_call Try.func19 nm19 rfl rfl (Writes_c w37 b0 a5 A0 c0 hd0) rfl ?_
  rintro v40 w41 ⟨rfl, rfl⟩
  refine Ls_on rfl rfl ?_
  refine Ls_run (run_asB (c := true) (run_eql rfl rfl) (by decide)) rfl ?_
  refine Ls_run (run_pick_t rfl rfl) rfl ?_
  refine Ls_run (run_move rfl) rfl ?_
  refine Ls_on rfl rfl ?_
  refine Ls_run (run_move rfl) rfl ?_
  refine Ls_on rfl rfl ?_
  obtain ⟨A0, c0, hd0⟩ := hs.dhd
  refine Ls_call Try.func30 nm30 rfl rfl (Reads_c w37 b0 a5 A0 c0 hd0) rfl ?_
  rintro v42 w43 ⟨rfl, rfl⟩
  refine Ls_on rfl rfl ?_
  refine Ls_run (run_asB (c := true) (run_eql rfl rfl) (by decide)) rfl ?_
  refine Ls_run (run_pick_t rfl rfl) rfl ?_
  refine Ls_run (run_assign rfl) rfl ?_
  refine Ls_nil ?_
  refine Jm_seq ?_
  refine St_ret ?_
  refine Jm_ret1 rfl rfl ?_
  exact ⟨_, rfl, rfl, hs.forget⟩
end Go.Proofs.Ytpmkedgennnekaa.Lg
