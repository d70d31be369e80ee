/-
  The journal's small functions, walked. By program (gen/jour1.py).
-/
import Derived.Test.YtpmkedgennnekaaDisk10
import Derived.Test.YtpmkedgennnekaaWire4
import Derived.Test.YtpmkedgennnekaaJPure
set_option linter.unusedVariables false
set_option linter.unusedSimpArgs false
namespace Go.Proofs.Ytpmkedgennnekaa.Lg
open Go Go.RowKit Go.Proofs.Ytpmkedgennnekaa.WirePure
theorem takeK {l l2 : List Int} {i : Nat} (h : i < l.length) : l.take (i + 1) = l.take i ++ [l.getD i 0] := by
  rw [List.take_succ_eq_append_getElem h, List.getD_eq_getElem?_getD, List.getElem?_eq_getElem h]; rfl
theorem flatKI_one (l : List Int) : ∀ u ∈ KI.flat l, u.oneCell' = true := by
  intro u hu; rw [El.int_flat] at hu; obtain ⟨x, _, rfl⟩ := List.mem_map.1 hu; rfl
theorem lenKI {w : World} {A : Option Addr} {n c : Nat} {l : List Int} (h : Rd w A n c 1 (KI.flat l)) : l.length = n := by have := h.len; rw [El.flat_length] at this; simpa [El.int] using this
theorem Nums_ok (w : World) (A : Option Addr) (n c : Nat) (l : List Int) (hr : Rd w A n c 1 (KI.flat l)) (hn : n * 10 + 20 ≤ 140737488355328) (hw : ∀ x ∈ l, 0 ≤ x ∧ x ≤ 256) :
    Calls Try.prog 78 [.slice A n c].toArray w (Ret (fun v' w' => ∃ A' c', v' = .tuple #[.slice A' (nm l).length c', .int .i64 0] ∧ Sat w w' [Own 5 1 (.slice A' (nm l).length c') (nm l).length (bytesV (nm l))])) :=
  (Nums_c w A n c l hr hn (fun x hx => by have := hw x hx; omega)).mono fun e w' ⟨v, he, h2⟩ => ⟨v, he, by
    rcases h2 with ⟨⟨x, hx, h0⟩, _⟩ | ⟨_, A', c', rfl, hs⟩
    · exfalso; have := hw x hx; omega
    · exact ⟨A', c', rfl, hs⟩⟩
set_option maxRecDepth 100000 in
set_option maxHeartbeats 1000000 in
theorem within_c (w : World) (x : Int) :
    Calls Try.prog 82 [.int .i64 x].toArray w (Ret (fun v' w' => w = w' ∧ v' = .bool (decide (within x)))) := by
  refine Calls_body Try.func82 rfl rfl rfl (envE_cons (i := 0) (v := .int .i64 x) rfl envE_nil) ?_
  refine St_seq ?_
  refine St_region ?_
  refine Ls_run (run_assign rfl) rfl ?_
  refine Ls_nil ?_
  refine Jm_seq ?_
  refine St_seq ?_
  refine St_region ?_
  refine Ls_run (run_move rfl) rfl ?_
  refine Ls_run (run_geq rfl rfl) rfl ?_
  refine Ls_run (run_move rfl) rfl ?_
  refine Ls_partP (t := 5) rfl (fun h1 => ?_) (fun h1 => ?_)
  · skip
    refine Ls_on rfl rfl ?_
    refine Ls_run (run_move rfl) rfl ?_
    refine Ls_on rfl rfl ?_
    refine Ls_run (run_leq rfl rfl) rfl ?_
    refine Ls_run (run_pick_t rfl rfl) rfl ?_
    refine Ls_run (run_assign rfl) rfl ?_
    refine Ls_nil ?_
    refine Jm_seq ?_
    refine St_ret ?_
    refine Jm_ret1 rfl rfl ?_
    refine ⟨_, rfl, rfl, ?_⟩
    unfold within
    first | exact congrArg Value.bool (decide_eq_decide.2 (by omega)) | exact congrArg Value.bool (decide_eq_false (by omega)).symm
  · skip
    refine Ls_off rfl rfl rfl rfl ?_
    refine Ls_off rfl rfl rfl rfl ?_
    refine Ls_run (run_pick_f rfl rfl) rfl ?_
    refine Ls_run (run_assign rfl) rfl ?_
    refine Ls_nil ?_
    refine Jm_seq ?_
    refine St_ret ?_
    refine Jm_ret1 rfl rfl ?_
    refine ⟨_, rfl, rfl, ?_⟩
    unfold within
    first | exact congrArg Value.bool (decide_eq_decide.2 (by omega)) | exact congrArg Value.bool (decide_eq_false (by omega)).symm
set_option maxRecDepth 100000 in
set_option maxHeartbeats 1000000 in
theorem Forward_c (w : World) (A : Option Addr) (n c : Nat) (l : List Int) (A2 : Option Addr) (n2 c2 : Nat) (l2 : List Int) (hr : Rd w A n c 1 (KI.flat l)) (hr2 : Rd w A2 n2 c2 1 (KI.flat l2)) (hn : n ≤ 9223372036854775807) :
    Calls Try.prog 51 [.slice A n c, .slice A2 n2 c2].toArray w (Ret (fun v' w' => v' = .bool (decide (fwd l l2)) ∧ Sat w w' [])) := by
  have hs := Sat.start w
  have hl := lenKI hr
  have hl2 := lenKI hr2
  refine Calls_body Try.func51 rfl rfl rfl (envE_cons (i := 0) (v := .slice A n c) rfl (envE_cons (i := 1) (v := .slice A2 n2 c2) rfl envE_nil)) ?_
  refine St_seq ?_
  refine St_region ?_
  refine Ls_run (run_assign rfl) rfl ?_
  refine Ls_nil ?_
  refine Jm_seq ?_
  refine St_seq ?_
  refine St_seq ?_
  refine St_region ?_
  refine Ls_run (run_move rfl) rfl ?_
  refine Ls_run (run_len Try.underlying62 rfl) rfl ?_
  refine Ls_run (run_move rfl) rfl ?_
  refine Ls_run (run_len Try.underlying62 rfl) rfl ?_
  refine Ls_run (run_neq rfl rfl) rfl ?_
  refine Ls_nil ?_
  refine Jm_seq ?_
  refine St_ifP rfl (fun h1 => ?_) (fun h1 => ?_)
  · skip
    refine St_seq ?_
    refine St_region ?_
    refine Ls_run (run_assign rfl) rfl ?_
    refine Ls_nil ?_
    refine Jm_seq ?_
    refine St_ret ?_
    refine Jm_then_ret  ?_
    refine Jm_ret1 rfl rfl ?_
    exact ⟨_, rfl, by rw [decide_eq_false (fun q => by have := q.1; omega)], hs⟩
  · skip
    refine St_skip ?_
    refine Jm_seq ?_
    refine St_seq ?_
    refine St_seq ?_
    refine St_region ?_
    refine Ls_run (run_move rfl) rfl ?_
    refine Ls_run (run_len Try.underlying62 rfl) rfl ?_
    refine Ls_run (run_move rfl) rfl ?_
    refine Ls_nil ?_
    refine Jm_seq ?_
    refine St_block ?_
    obtain ⟨En2, hEn2⟩ : ∃ F : Nat → Env, ∀ (i : Nat), F i = [(1, .slice A2 n2 c2), (12, .slice A n c), (13, .int .i64 (n : Int)), (14, .int .i64 (i : Int))] := ⟨(fun (i : Nat) => [(1, .slice A2 n2 c2), (12, .slice A n c), (13, .int .i64 (n : Int)), (14, .int .i64 (i : Int))]), fun _ => rfl⟩
    obtain ⟨Iv3, hIv3⟩ : ∃ F : Nat → World → Prop, ∀ (i : Nat) (wr : World), F i wr = (Sat w wr [] ∧ i ≤ n ∧ n = n2 ∧ ∀ q, q < i → l.getD q 0 ≤ l2.getD q 0) := ⟨(fun (i : Nat) => fun (wr : World) => Sat w wr [] ∧ i ≤ n ∧ n = n2 ∧ ∀ q, q < i → l.getD q 0 ≤ l2.getD q 0), fun _ _ => rfl⟩
    obtain ⟨ms4, hms4⟩ : ∃ F : Nat → Nat, ∀ (i : Nat), F i = (n - i) := ⟨(fun (i : Nat) => n - i), fun _ => rfl⟩
    refine St_loop En2 Iv3 ms4 (0) ?_ ?_ ?_
    · skip
      rw [hIv3]
      exact ⟨hs, by omega, by omega, fun q hq => by omega⟩
    · rw [hEn2]; exact (subE_cons rfl (subE_cons rfl (subE_cons rfl (subE_cons rfl subE_nil))))
    rintro i wr hI5
    rw [hIv3] at hI5
    obtain ⟨hs, hi, hnn, hle⟩ := hI5
    refine St_eqE (hEn2 _) ?_
    refine St_seq ?_
    refine St_region ?_
    refine Ls_run (run_lss rfl rfl) rfl ?_
    refine Ls_nil ?_
    refine Jm_seq ?_
    refine St_seq ?_
    refine St_ifP rfl (fun h6 => ?_) (fun h6 => ?_)
    · skip
      refine St_skip ?_
      refine Jm_seq ?_
      refine St_seq ?_
      refine St_block ?_
      refine St_seq ?_
      refine St_region ?_
      refine Ls_run (run_move rfl) rfl ?_
      refine Ls_index (KI) (hr.inB hs) Try.underlying62 inf3 rfl rfl (by omega) (by omega) (show _ = l.getD i 0 from rfl) rfl ?_
      intro b7 o8 hc9
      refine Ls_run (run_load sc3 rfl (hc9 0 _ rfl)) rfl ?_
      refine Ls_run (run_assign rfl) rfl ?_
      refine Ls_run (run_assign rfl) rfl ?_
      refine Ls_nil ?_
      refine Jm_seq ?_
      refine St_seq ?_
      refine St_region ?_
      refine Ls_run (run_move rfl) rfl ?_
      refine Ls_run (run_move rfl) rfl ?_
      refine Ls_index (KI) (hr2.inB hs) Try.underlying62 inf3 rfl rfl (by omega) (by omega) (show _ = l2.getD i 0 from rfl) rfl ?_
      intro b10 o11 hc12
      refine Ls_run (run_load sc3 rfl (hc12 0 _ rfl)) rfl ?_
      refine Ls_run (run_move rfl) rfl ?_
      refine Ls_run (run_lss rfl rfl) rfl ?_
      refine Ls_nil ?_
      refine Jm_seq ?_
      refine St_ifP rfl (fun h13 => ?_) (fun h13 => ?_)
      · skip
        refine St_seq ?_
        refine St_region ?_
        refine Ls_run (run_assign rfl) rfl ?_
        refine Ls_nil ?_
        refine Jm_seq ?_
        refine St_ret ?_
        refine Jm_block_ret (Jm_then_ret (Jm_then_ret (Jm_block_ret (Jm_then_ret  ?_))))
        refine Jm_ret1 rfl rfl ?_
        exact ⟨_, rfl, by rw [decide_eq_false (fun q => by have := q.2 i (by omega); omega)], hs⟩
      · skip
        refine St_skip ?_
        refine Jm_block_normal (Jm_seq ?_)
        refine St_region ?_
        refine Ls_run (run_add rfl rfl (w64 (by omega))) rfl ?_
        refine Ls_run (run_move rfl) rfl ?_
        refine Ls_nil ?_
        refine Jm_round (i + 1) ?_ ?_ ?_
        · rw [hEn2]; exact (subE_cons rfl (subE_cons rfl (subE_cons rfl (subE_cons rfl subE_nil))))
        · skip
          rw [hIv3]
          refine ⟨hs, by omega, hnn, fun q hq => ?_⟩
          by_cases e : q = i
          · subst e; omega
          · exact hle q (by omega)
        · skip
          rw [hms4, hms4]
          omega
    · skip
      refine St_exit ?_
      refine Jm_then_exit (Jm_then_exit (Jm_block_same (Jm_seq ?_)))
      refine St_seq ?_
      refine St_region ?_
      refine Ls_run (run_assign rfl) rfl ?_
      refine Ls_nil ?_
      refine Jm_seq ?_
      refine St_ret ?_
      refine Jm_ret1 rfl rfl ?_
      exact ⟨_, rfl, by rw [decide_eq_true ⟨by omega, fun q hq => hle q (by omega)⟩], hs⟩
set_option maxRecDepth 100000 in
set_option maxHeartbeats 1000000 in
theorem EqualI_c (w : World) (A : Option Addr) (n c : Nat) (l : List Int) (A2 : Option Addr) (n2 c2 : Nat) (l2 : List Int) (hr : Rd w A n c 1 (KI.flat l)) (hr2 : Rd w A2 n2 c2 1 (KI.flat l2)) (hn : n ≤ 9223372036854775807) :
    Calls Try.prog 83 [.slice A n c, .slice A2 n2 c2].toArray w (Ret (fun v' w' => v' = .bool (decide (l = l2)) ∧ Sat w w' [])) := by
  have hs := Sat.start w
  have hl := lenKI hr
  have hl2 := lenKI hr2
  refine Calls_body Try.func83 rfl rfl rfl (envE_cons (i := 0) (v := .slice A n c) rfl (envE_cons (i := 1) (v := .slice A2 n2 c2) rfl envE_nil)) ?_
  refine St_seq ?_
  refine St_region ?_
  refine Ls_run (run_assign rfl) rfl ?_
  refine Ls_nil ?_
  refine Jm_seq ?_
  refine St_seq ?_
  refine St_seq ?_
  refine St_region ?_
  refine Ls_run (run_move rfl) rfl ?_
  refine Ls_run (run_len Try.underlying62 rfl) rfl ?_
  refine Ls_run (run_move rfl) rfl ?_
  refine Ls_run (run_len Try.underlying62 rfl) rfl ?_
  refine Ls_run (run_neq rfl rfl) rfl ?_
  refine Ls_nil ?_
  refine Jm_seq ?_
  refine St_ifP rfl (fun h1 => ?_) (fun h1 => ?_)
  · skip
    refine St_seq ?_
    refine St_region ?_
    refine Ls_run (run_assign rfl) rfl ?_
    refine Ls_nil ?_
    refine Jm_seq ?_
    refine St_ret ?_
    refine Jm_then_ret  ?_
    refine Jm_ret1 rfl rfl ?_
    exact ⟨_, rfl, by rw [decide_eq_false (fun q => by subst q; omega)], hs⟩
  · skip
    refine St_skip ?_
    refine Jm_seq ?_
    refine St_seq ?_
    refine St_seq ?_
    refine St_region ?_
    refine Ls_run (run_move rfl) rfl ?_
    refine Ls_run (run_len Try.underlying62 rfl) rfl ?_
    refine Ls_run (run_move rfl) rfl ?_
    refine Ls_nil ?_
    refine Jm_seq ?_
    refine St_block ?_
    obtain ⟨En2, hEn2⟩ : ∃ F : Nat → Env, ∀ (i : Nat), F i = [(0, .slice A n c), (1, .slice A2 n2 c2), (12, .int .i64 (n : Int)), (13, .int .i64 (i : Int))] := ⟨(fun (i : Nat) => [(0, .slice A n c), (1, .slice A2 n2 c2), (12, .int .i64 (n : Int)), (13, .int .i64 (i : Int))]), fun _ => rfl⟩
    obtain ⟨Iv3, hIv3⟩ : ∃ F : Nat → World → Prop, ∀ (i : Nat) (wr : World), F i wr = (Sat w wr [] ∧ i ≤ n ∧ n = n2 ∧ l.take i = l2.take i) := ⟨(fun (i : Nat) => fun (wr : World) => Sat w wr [] ∧ i ≤ n ∧ n = n2 ∧ l.take i = l2.take i), fun _ _ => rfl⟩
    obtain ⟨ms4, hms4⟩ : ∃ F : Nat → Nat, ∀ (i : Nat), F i = (n - i) := ⟨(fun (i : Nat) => n - i), fun _ => rfl⟩
    refine St_loop En2 Iv3 ms4 (0) ?_ ?_ ?_
    · skip
      rw [hIv3]
      exact ⟨hs, by omega, by omega, rfl⟩
    · rw [hEn2]; exact (subE_cons rfl (subE_cons rfl (subE_cons rfl (subE_cons rfl subE_nil))))
    rintro i wr hI5
    rw [hIv3] at hI5
    obtain ⟨hs, hi, hnn, heqt⟩ := hI5
    refine St_eqE (hEn2 _) ?_
    refine St_seq ?_
    refine St_region ?_
    refine Ls_run (run_lss rfl rfl) rfl ?_
    refine Ls_nil ?_
    refine Jm_seq ?_
    refine St_seq ?_
    refine St_ifP rfl (fun h6 => ?_) (fun h6 => ?_)
    · skip
      refine St_skip ?_
      refine Jm_seq ?_
      refine St_seq ?_
      refine St_block ?_
      refine St_seq ?_
      refine St_region ?_
      refine Ls_run (run_move rfl) rfl ?_
      refine Ls_run (run_assign rfl) rfl ?_
      refine Ls_nil ?_
      refine Jm_seq ?_
      refine St_seq ?_
      refine St_draw (fun x => Below wr.heap.size wr x) mixed ?_
      intro w7 q8
      have hH := q8.below
      replace hs := hs.quiet q8
      refine An_grow hH ?_
      replace hH := Below.refl w7.heap.size w7
      refine An_take 0 rfl (by kernel_rfl) (by kernel_rfl) (by kernel_rfl) (fun _ _ _ h => h) hH (fun x hx => run_move rfl) rfl ?_
      refine An_take 1 rfl (by kernel_rfl) (by kernel_rfl) (by kernel_rfl) (fun _ _ _ h => h) hH (fun x hx => run_move rfl) rfl ?_
      refine An_index 2  (KI) rfl (by kernel_rfl) (by kernel_rfl) (by kernel_rfl) (fun _ _ _ _ h => h) hH (fun x hx => ((hr.inB hs).grow hx)) Try.underlying62 inf3 rfl rfl (by omega) (by omega) (show _ = l.getD i 0 from rfl) rfl ?_
      intro b9 o10 hc11
      refine An_take 3 rfl (by kernel_rfl) (by kernel_rfl) (by kernel_rfl) (fun _ _ _ h => h) hH (fun x hx => run_load sc3 rfl ((hc11 x hx) 0 _ rfl)) rfl ?_
      refine An_take 4 rfl (by kernel_rfl) (by kernel_rfl) (by kernel_rfl) (fun _ _ _ h => h) hH (fun x hx => run_move rfl) rfl ?_
      refine An_take 5 rfl (by kernel_rfl) (by kernel_rfl) (by kernel_rfl) (fun _ _ _ h => h) hH (fun x hx => run_move rfl) rfl ?_
      refine An_index 6  (KI) rfl (by kernel_rfl) (by kernel_rfl) (by kernel_rfl) (fun _ _ _ _ h => h) hH (fun x hx => ((hr2.inB hs).grow hx)) Try.underlying62 inf3 rfl rfl (by omega) (by omega) (show _ = l2.getD i 0 from rfl) rfl ?_
      intro b12 o13 hc14
      refine An_take 7 rfl (by kernel_rfl) (by kernel_rfl) (by kernel_rfl) (fun _ _ _ h => h) hH (fun x hx => run_load sc3 rfl ((hc14 x hx) 0 _ rfl)) rfl ?_
      refine An_take 8 rfl (by kernel_rfl) (by kernel_rfl) (by kernel_rfl) (fun _ _ _ h => h) hH (fun x hx => run_neq rfl rfl) rfl ?_
      refine An_done (by kernel_rfl) ?_
      refine Jm_seq ?_
      refine St_ifP rfl (fun h15 => ?_) (fun h15 => ?_)
      · skip
        refine St_seq ?_
        refine St_region ?_
        refine Ls_run (run_assign rfl) rfl ?_
        refine Ls_nil ?_
        refine Jm_seq ?_
        refine St_ret ?_
        refine Jm_block_ret (Jm_then_ret (Jm_then_ret (Jm_block_ret (Jm_then_ret  ?_))))
        refine Jm_ret1 rfl rfl ?_
        exact ⟨_, rfl, by rw [decide_eq_false (fun q => by subst q; omega)], hs⟩
      · skip
        refine St_skip ?_
        refine Jm_block_normal (Jm_seq ?_)
        refine St_region ?_
        refine Ls_run (run_add rfl rfl (w64 (by omega))) rfl ?_
        refine Ls_run (run_move rfl) rfl ?_
        refine Ls_nil ?_
        refine Jm_round (i + 1) ?_ ?_ ?_
        · rw [hEn2]; exact (subE_cons rfl (subE_cons rfl (subE_cons rfl (subE_cons rfl subE_nil))))
        · skip
          rw [hIv3]
          refine ⟨hs, by omega, hnn, ?_⟩
          rw [takeK (l2 := l) (by omega), takeK (l2 := l) (by omega), heqt]
          congr 2; omega
        · skip
          rw [hms4, hms4]
          omega
    · skip
      refine St_exit ?_
      refine Jm_then_exit (Jm_then_exit (Jm_block_same (Jm_seq ?_)))
      refine St_seq ?_
      refine St_region ?_
      refine Ls_run (run_assign rfl) rfl ?_
      refine Ls_nil ?_
      refine Jm_seq ?_
      refine St_ret ?_
      refine Jm_ret1 rfl rfl ?_
      have hi9 : i = n := by omega
      rw [List.take_of_length_le (by omega), List.take_of_length_le (by omega)] at heqt
      exact ⟨_, rfl, by rw [decide_eq_true heqt], hs⟩
set_option maxRecDepth 100000 in
set_option maxHeartbeats 1000000 in
theorem ints18_c (w : World) (A : Option Addr) (n c : Nat) (l : List Int) (A2 : Option Addr) (n2 c2 : Nat) (l2 : List Int) (hr : Rd w A n c 1 (KI.flat l)) (hr2 : Rd w A2 n2 c2 1 (KI.flat l2)) (hn : n ≤ 9223372036854775807) :
    Calls Try.prog 49 [.slice A n c, .slice A2 n2 c2].toArray w (Ret (fun v' w' => v' = .bool (decide (l = l2)) ∧ Sat w w' [])) := by
  have hs := Sat.start w
  have hl := lenKI hr
  have hl2 := lenKI hr2
  refine Calls_body Try.func49 rfl rfl rfl (envE_cons (i := 0) (v := .slice A n c) rfl (envE_cons (i := 1) (v := .slice A2 n2 c2) rfl envE_nil)) ?_
  refine St_seq ?_
  refine St_region ?_
  refine Ls_run (run_assign rfl) rfl ?_
  refine Ls_nil ?_
  refine Jm_seq ?_
  refine St_seq ?_
  refine St_seq ?_
  refine St_region ?_
  refine Ls_run (run_move rfl) rfl ?_
  refine Ls_run (run_len Try.underlying62 rfl) rfl ?_
  refine Ls_run (run_move rfl) rfl ?_
  refine Ls_run (run_len Try.underlying62 rfl) rfl ?_
  refine Ls_run (run_neq rfl rfl) rfl ?_
  refine Ls_nil ?_
  refine Jm_seq ?_
  refine St_ifP rfl (fun h1 => ?_) (fun h1 => ?_)
  · skip
    refine St_seq ?_
    refine St_region ?_
    refine Ls_run (run_assign rfl) rfl ?_
    refine Ls_nil ?_
    refine Jm_seq ?_
    refine St_ret ?_
    refine Jm_then_ret  ?_
    refine Jm_ret1 rfl rfl ?_
    exact ⟨_, rfl, by rw [decide_eq_false (fun q => by subst q; omega)], hs⟩
  · skip
    refine St_skip ?_
    refine Jm_seq ?_
    refine St_seq ?_
    refine St_seq ?_
    refine St_region ?_
    refine Ls_run (run_assign rfl) rfl ?_
    refine Ls_nil ?_
    refine Jm_seq ?_
    refine St_block ?_
    obtain ⟨En2, hEn2⟩ : ∃ F : Nat → Env, ∀ (i : Nat), F i = [(0, .slice A n c), (1, .slice A2 n2 c2), (5, .int .i64 (i : Int))] := ⟨(fun (i : Nat) => [(0, .slice A n c), (1, .slice A2 n2 c2), (5, .int .i64 (i : Int))]), fun _ => rfl⟩
    obtain ⟨Iv3, hIv3⟩ : ∃ F : Nat → World → Prop, ∀ (i : Nat) (wr : World), F i wr = (Sat w wr [] ∧ i ≤ n ∧ n = n2 ∧ l.take i = l2.take i) := ⟨(fun (i : Nat) => fun (wr : World) => Sat w wr [] ∧ i ≤ n ∧ n = n2 ∧ l.take i = l2.take i), fun _ _ => rfl⟩
    obtain ⟨ms4, hms4⟩ : ∃ F : Nat → Nat, ∀ (i : Nat), F i = (n - i) := ⟨(fun (i : Nat) => n - i), fun _ => rfl⟩
    refine St_loop En2 Iv3 ms4 (0) ?_ ?_ ?_
    · skip
      rw [hIv3]
      exact ⟨hs, by omega, by omega, rfl⟩
    · rw [hEn2]; exact (subE_cons rfl (subE_cons rfl (subE_cons rfl subE_nil)))
    rintro i wr hI5
    rw [hIv3] at hI5
    obtain ⟨hs, hi, hnn, heqt⟩ := hI5
    refine St_eqE (hEn2 _) ?_
    refine St_seq ?_
    refine St_seq ?_
    refine St_region ?_
    refine Ls_run (run_move rfl) rfl ?_
    refine Ls_run (run_move rfl) rfl ?_
    refine Ls_run (run_len Try.underlying62 rfl) rfl ?_
    refine Ls_run (run_lss rfl rfl) rfl ?_
    refine Ls_nil ?_
    refine Jm_seq ?_
    refine St_ifP rfl (fun h6 => ?_) (fun h6 => ?_)
    · skip
      refine St_skip ?_
      refine Jm_seq ?_
      refine St_seq ?_
      refine St_block ?_
      refine St_seq ?_
      refine St_draw (fun x => Below wr.heap.size wr x) mixed ?_
      intro w7 q8
      have hH := q8.below
      replace hs := hs.quiet q8
      refine An_grow hH ?_
      replace hH := Below.refl w7.heap.size w7
      refine An_take 0 rfl (by kernel_rfl) (by kernel_rfl) (by kernel_rfl) (fun _ _ _ h => h) hH (fun x hx => run_move rfl) rfl ?_
      refine An_take 1 rfl (by kernel_rfl) (by kernel_rfl) (by kernel_rfl) (fun _ _ _ h => h) hH (fun x hx => run_move rfl) rfl ?_
      refine An_index 2  (KI) rfl (by kernel_rfl) (by kernel_rfl) (by kernel_rfl) (fun _ _ _ _ h => h) hH (fun x hx => ((hr.inB hs).grow hx)) Try.underlying62 inf3 rfl rfl (by omega) (by omega) (show _ = l.getD i 0 from rfl) rfl ?_
      intro b9 o10 hc11
      refine An_take 3 rfl (by kernel_rfl) (by kernel_rfl) (by kernel_rfl) (fun _ _ _ h => h) hH (fun x hx => run_load sc3 rfl ((hc11 x hx) 0 _ rfl)) rfl ?_
      refine An_take 4 rfl (by kernel_rfl) (by kernel_rfl) (by kernel_rfl) (fun _ _ _ h => h) hH (fun x hx => run_move rfl) rfl ?_
      refine An_take 5 rfl (by kernel_rfl) (by kernel_rfl) (by kernel_rfl) (fun _ _ _ h => h) hH (fun x hx => run_move rfl) rfl ?_
      refine An_index 6  (KI) rfl (by kernel_rfl) (by kernel_rfl) (by kernel_rfl) (fun _ _ _ _ h => h) hH (fun x hx => ((hr2.inB hs).grow hx)) Try.underlying62 inf3 rfl rfl (by omega) (by omega) (show _ = l2.getD i 0 from rfl) rfl ?_
      intro b12 o13 hc14
      refine An_take 7 rfl (by kernel_rfl) (by kernel_rfl) (by kernel_rfl) (fun _ _ _ h => h) hH (fun x hx => run_load sc3 rfl ((hc14 x hx) 0 _ rfl)) rfl ?_
      refine An_take 8 rfl (by kernel_rfl) (by kernel_rfl) (by kernel_rfl) (fun _ _ _ h => h) hH (fun x hx => run_neq rfl rfl) rfl ?_
      refine An_done (by kernel_rfl) ?_
      refine Jm_seq ?_
      refine St_ifP rfl (fun h15 => ?_) (fun h15 => ?_)
      · skip
        refine St_seq ?_
        refine St_region ?_
        refine Ls_run (run_assign rfl) rfl ?_
        refine Ls_nil ?_
        refine Jm_seq ?_
        refine St_ret ?_
        refine Jm_block_ret (Jm_then_ret (Jm_then_ret (Jm_block_ret (Jm_then_ret  ?_))))
        refine Jm_ret1 rfl rfl ?_
        exact ⟨_, rfl, by rw [decide_eq_false (fun q => by subst q; omega)], hs⟩
      · skip
        refine St_skip ?_
        refine Jm_block_normal (Jm_seq ?_)
        refine St_region ?_
        refine Ls_run (run_move rfl) rfl ?_
        refine Ls_run (run_add rfl rfl (w64 (by omega))) rfl ?_
        refine Ls_run (run_assign rfl) rfl ?_
        refine Ls_nil ?_
        refine Jm_round (i + 1) ?_ ?_ ?_
        · rw [hEn2]; exact (subE_cons rfl (subE_cons rfl (subE_cons rfl subE_nil)))
        · skip
          rw [hIv3]
          refine ⟨hs, by omega, hnn, ?_⟩
          rw [takeK (l2 := l) (by omega), takeK (l2 := l) (by omega), heqt]
          congr 2; omega
        · skip
          rw [hms4, hms4]
          omega
    · skip
      refine St_exit ?_
      refine Jm_then_exit (Jm_then_exit (Jm_block_same (Jm_seq ?_)))
      refine St_seq ?_
      refine St_region ?_
      refine Ls_run (run_assign rfl) rfl ?_
      refine Ls_nil ?_
      refine Jm_seq ?_
      refine St_ret ?_
      refine Jm_ret1 rfl rfl ?_
      have hi9 : i = n := by omega
      rw [List.take_of_length_le (by omega), List.take_of_length_le (by omega)] at heqt
      exact ⟨_, rfl, by rw [decide_eq_true heqt], hs⟩
set_option maxRecDepth 100000 in
set_option maxHeartbeats 1000000 in
theorem CloneI_c (w : World) (A : Option Addr) (n c : Nat) (l : List Int) (hr : Rd w A n c 1 (KI.flat l)) (hn : n ≤ 1073741824) :
    Calls Try.prog 81 [.slice A n c].toArray w (Ret (fun v' w' => ∃ A' c', v' = .slice A' n c' ∧ Sat w w' [Own 3 1 v' n (KI.flat l)])) := by
  have hs := Sat.start w
  have hl := lenKI hr
  have hnc := hr.cap
  refine Calls_body Try.func81 rfl rfl rfl (envE_cons (i := 0) (v := .slice A n c) rfl envE_nil) ?_
  refine St_seq ?_
  refine St_region ?_
  refine Ls_run (run_assign rfl) rfl ?_
  refine Ls_nil ?_
  refine Jm_seq ?_
  refine St_seq ?_
  refine St_seq ?_
  refine St_region ?_
  refine Ls_run (run_move rfl) rfl ?_
  refine Ls_run (run_eql_slice_nil Try.underlying62 rfl rfl) rfl ?_
  refine Ls_nil ?_
  refine Jm_seq ?_
  refine St_if rfl (fun h1 => ?_) (fun h1 => ?_)
  · skip
    refine St_seq ?_
    refine St_region ?_
    refine Ls_run (run_assign rfl) rfl ?_
    refine Ls_nil ?_
    refine Jm_seq ?_
    refine St_ret ?_
    refine Jm_then_ret  ?_
    refine Jm_ret1 rfl rfl ?_
    have hA : A = none := by simpa using h1
    have hc := hr.nil hA
    have hn0 : n = 0 := by omega
    have hl0 : l = [] := List.eq_nil_of_length_eq_zero (by omega)
    subst hA hn0 hl0
    exact ⟨_, rfl, _, _, rfl, hs.own_nil _ _⟩
  · skip
    refine St_skip ?_
    refine Jm_seq ?_
    refine St_seq ?_
    refine St_region ?_
    refine Ls_literal [] hs Try.underlying62 inf3 rfl rfl rfl rfl rfl rfl ?_
    intro b2 w3 hs
    simp only [List.flatMap_cons, List.flatMap_nil, Value.cells, List.cons_append, List.nil_append] at hs
    replace hs := Sat.own_block hs 1 0 rfl (by decide)
    refine Ls_run (run_move rfl) rfl ?_
    refine Ls_append hs Try.underlying62 inf3 rfl (by decide) (by decide) rfl rfl (hr.inB hs) (flatKI_one _) (by omega) rfl ?_
    intro A4 c5 w6 hs
    refine Ls_run (run_assign rfl) rfl ?_
    refine Ls_nil ?_
    refine Jm_seq ?_
    refine St_ret ?_
    refine Jm_ret1 rfl rfl ?_
    simp only [Nat.zero_add, List.nil_append] at hs ⊢
    exact ⟨_, rfl, _, _, rfl, hs⟩
set_option maxRecDepth 100000 in
set_option maxHeartbeats 1000000 in
theorem isNote_c (w : World) (n : NSt) (Ap : Option Addr) (cp : Nat) (Ac : Option Addr) (cc : Nat) (hrp : Rd w Ap n.prev.length cp 1 (KI.flat n.prev)) (hrc : Rd w Ac n.cur.length cc 1 (KI.flat n.cur)) (hz : n.prev.length ≤ 9223372036854775807 ∧ n.cur.length ≤ 9223372036854775807) (parts : Int) :
    Calls Try.prog 68 [.agg #[.int .i64 n.batch, .slice Ap n.prev.length cp, .slice Ac n.cur.length cc, .int .i64 n.att], .int .i64 parts].toArray w (Ret (fun v' w' => v' = .bool (decide (noteOk n parts)) ∧ Sat w w' [])) := by
  have hs := Sat.start w
  refine Calls_body Try.func68 rfl rfl rfl (envE_cons (i := 0) (v := .agg #[.int .i64 n.batch, .slice Ap n.prev.length cp, .slice Ac n.cur.length cc, .int .i64 n.att]) rfl (envE_cons (i := 1) (v := .int .i64 parts) rfl envE_nil)) ?_
  refine St_seq ?_
  refine St_region ?_
  refine Ls_box hs rfl rfl ?_
  intro b2 w1 hs
  refine Ls_run (run_assign rfl) rfl ?_
  refine Ls_nil ?_
  refine Jm_seq ?_
  refine St_seq ?_
  refine St_region ?_
  refine Ls_run (run_as (run_field Try.underlying66 rfl inf64 (by decide) rfl) (show _ = Value.pointer (some ⟨b2, 0, none⟩) from rfl)) rfl ?_
  refine Ls_run (run_load_agg agg64 inf64 rfl rfl (hs.blk_cells 0 rfl 0 3)) rfl ?_
  refine Ls_alloc hs inf64 rfl ?_
  intro b4 w3 hs
  refine Ls_storeAgg hs inf64 rfl rfl rfl rfl (by simp [Value.oneCell', Value.cells]) ?_
  intro w5 hs
  refine Ls_nil ?_
  refine Jm_seq ?_
  refine St_seq ?_
  refine St_seq ?_
  refine St_region ?_
  refine Ls_run (run_as (run_field Try.underlying64 rfl inf3 (by decide) rfl) (show _ = Value.pointer (some ⟨b4, 0, none⟩) from rfl)) rfl ?_
  refine Ls_run (run_load sc3 rfl (hs.blk_at 0 rfl 0 rfl)) rfl ?_
  refine Ls_call Try.func82 nm82 rfl rfl (within_c w5 n.batch) rfl ?_
  rintro v6 w7 ⟨rfl, rfl⟩
  refine Ls_run (run_not rfl) rfl ?_
  refine Ls_run (run_move rfl) rfl ?_
  refine Ls_partN (t := 14) rfl (fun h8 => ?_) (fun h8 => ?_)
  · skip
    refine Ls_off rfl rfl rfl rfl ?_
    refine Ls_off rfl rfl rfl rfl ?_
    refine Ls_off rfl rfl rfl rfl ?_
    refine Ls_off rfl rfl rfl rfl ?_
    refine Ls_run (run_pick_t rfl rfl) rfl ?_
    refine Ls_run (run_move rfl) rfl ?_
    refine Ls_off rfl rfl rfl rfl ?_
    refine Ls_off rfl rfl rfl rfl ?_
    refine Ls_off rfl rfl rfl rfl ?_
    refine Ls_off rfl rfl rfl rfl ?_
    refine Ls_off rfl rfl rfl rfl ?_
    refine Ls_run (run_pick_t rfl rfl) rfl ?_
    refine Ls_run (run_move rfl) rfl ?_
    refine Ls_off rfl rfl rfl rfl ?_
    refine Ls_off rfl rfl rfl rfl ?_
    refine Ls_off rfl rfl rfl rfl ?_
    refine Ls_off rfl rfl rfl rfl ?_
    refine Ls_off rfl rfl rfl rfl ?_
    refine Ls_off rfl rfl rfl rfl ?_
    refine Ls_run (run_pick_t rfl rfl) rfl ?_
    refine Ls_nil ?_
    refine Jm_seq ?_
    refine St_ift rfl ?_
    refine St_seq ?_
    refine St_region ?_
    refine Ls_run (run_assign rfl) rfl ?_
    refine Ls_nil ?_
    refine Jm_seq ?_
    refine St_ret ?_
    refine Jm_then_ret  ?_
    refine Jm_ret1 rfl rfl ?_
    first
    | exact ⟨_, rfl, congrArg Value.bool (decide_eq_false (fun q => by first | exact absurd q.1 (by assumption) | exact absurd q.2.1 (by assumption) | exact absurd q.2.2.1 (by assumption) | exact absurd q.2.2.2.1 (by assumption))).symm, hs.forget⟩
    | exact ⟨_, rfl, congrArg Value.bool (decide_eq_false (fun q => by have q1 := q.2.2.2.2 i (by omega); unfold endOk at q1; omega)).symm, hs.forget⟩
    | exact ⟨_, rfl, congrArg Value.bool (decide_eq_true ⟨hpre.1, hpre.2.1, hpre.2.2.1, hpre.2.2.2, fun q hq => hen q (by omega)⟩).symm, hs.forget⟩
  · skip
    refine Ls_on rfl rfl ?_
    refine Ls_run (run_as (run_field Try.underlying66 rfl inf3 (by decide) rfl) (show _ = Value.pointer (some ⟨b2, 3, none⟩) from rfl)) rfl ?_
    refine Ls_on rfl rfl ?_
    refine Ls_run (run_load sc3 rfl (hs.blk_at 1 rfl 3 rfl)) rfl ?_
    refine Ls_on rfl rfl ?_
    refine Ls_call Try.func82 nm82 rfl rfl (within_c w5 n.att) rfl ?_
    rintro v10 w11 ⟨rfl, rfl⟩
    refine Ls_on rfl rfl ?_
    refine Ls_run (run_not rfl) rfl ?_
    refine Ls_run (run_pick_f rfl rfl) rfl ?_
    refine Ls_run (run_move rfl) rfl ?_
    refine Ls_partN (t := 20) rfl (fun h12 => ?_) (fun h12 => ?_)
    · skip
      refine Ls_off rfl rfl rfl rfl ?_
      refine Ls_off rfl rfl rfl rfl ?_
      refine Ls_off rfl rfl rfl rfl ?_
      refine Ls_off rfl rfl rfl rfl ?_
      refine Ls_off rfl rfl rfl rfl ?_
      refine Ls_run (run_pick_t rfl rfl) rfl ?_
      refine Ls_run (run_move rfl) rfl ?_
      refine Ls_off rfl rfl rfl rfl ?_
      refine Ls_off rfl rfl rfl rfl ?_
      refine Ls_off rfl rfl rfl rfl ?_
      refine Ls_off rfl rfl rfl rfl ?_
      refine Ls_off rfl rfl rfl rfl ?_
      refine Ls_off rfl rfl rfl rfl ?_
      refine Ls_run (run_pick_t rfl rfl) rfl ?_
      refine Ls_nil ?_
      refine Jm_seq ?_
      refine St_ift rfl ?_
      refine St_seq ?_
      refine St_region ?_
      refine Ls_run (run_assign rfl) rfl ?_
      refine Ls_nil ?_
      refine Jm_seq ?_
      refine St_ret ?_
      refine Jm_then_ret  ?_
      refine Jm_ret1 rfl rfl ?_
      first
      | exact ⟨_, rfl, congrArg Value.bool (decide_eq_false (fun q => by first | exact absurd q.1 (by assumption) | exact absurd q.2.1 (by assumption) | exact absurd q.2.2.1 (by assumption) | exact absurd q.2.2.2.1 (by assumption))).symm, hs.forget⟩
      | exact ⟨_, rfl, congrArg Value.bool (decide_eq_false (fun q => by have q1 := q.2.2.2.2 i (by omega); unfold endOk at q1; omega)).symm, hs.forget⟩
      | exact ⟨_, rfl, congrArg Value.bool (decide_eq_true ⟨hpre.1, hpre.2.1, hpre.2.2.1, hpre.2.2.2, fun q hq => hen q (by omega)⟩).symm, hs.forget⟩
    · skip
      refine Ls_on rfl rfl ?_
      refine Ls_run (run_as (run_field Try.underlying64 rfl inf62 (by decide) rfl) (show _ = Value.pointer (some ⟨b4, 1, none⟩) from rfl)) rfl ?_
      refine Ls_on rfl rfl ?_
      refine Ls_run (run_load sc62 rfl (hs.blk_at 0 rfl 1 rfl)) rfl ?_
      refine Ls_on rfl rfl ?_
      refine Ls_run (run_len Try.underlying62 rfl) rfl ?_
      refine Ls_on rfl rfl ?_
      refine Ls_run (run_move rfl) rfl ?_
      refine Ls_on rfl rfl ?_
      refine Ls_run (run_neq rfl rfl) rfl ?_
      refine Ls_run (run_pick_f rfl rfl) rfl ?_
      refine Ls_run (run_move rfl) rfl ?_
      refine Ls_partP (t := 27) rfl (fun h14 => ?_) (fun h14 => ?_)
      · skip
        refine Ls_off rfl rfl rfl rfl ?_
        refine Ls_off rfl rfl rfl rfl ?_
        refine Ls_off rfl rfl rfl rfl ?_
        refine Ls_off rfl rfl rfl rfl ?_
        refine Ls_off rfl rfl rfl rfl ?_
        refine Ls_off rfl rfl rfl rfl ?_
        refine Ls_run (run_pick_t rfl rfl) rfl ?_
        refine Ls_nil ?_
        refine Jm_seq ?_
        refine St_ift rfl ?_
        refine St_seq ?_
        refine St_region ?_
        refine Ls_run (run_assign rfl) rfl ?_
        refine Ls_nil ?_
        refine Jm_seq ?_
        refine St_ret ?_
        refine Jm_then_ret  ?_
        refine Jm_ret1 rfl rfl ?_
        first
        | exact ⟨_, rfl, congrArg Value.bool (decide_eq_false (fun q => by first | exact absurd q.1 (by assumption) | exact absurd q.2.1 (by assumption) | exact absurd q.2.2.1 (by assumption) | exact absurd q.2.2.2.1 (by assumption))).symm, hs.forget⟩
        | exact ⟨_, rfl, congrArg Value.bool (decide_eq_false (fun q => by have q1 := q.2.2.2.2 i (by omega); unfold endOk at q1; omega)).symm, hs.forget⟩
        | exact ⟨_, rfl, congrArg Value.bool (decide_eq_true ⟨hpre.1, hpre.2.1, hpre.2.2.1, hpre.2.2.2, fun q hq => hen q (by omega)⟩).symm, hs.forget⟩
      · skip
        refine Ls_on rfl rfl ?_
        refine Ls_run (run_as (run_field Try.underlying64 rfl inf62 (by decide) rfl) (show _ = Value.pointer (some ⟨b4, 1, none⟩) from rfl)) rfl ?_
        refine Ls_on rfl rfl ?_
        refine Ls_run (run_load sc62 rfl (hs.blk_at 0 rfl 1 rfl)) rfl ?_
        refine Ls_on rfl rfl ?_
        refine Ls_run (run_as (run_field Try.underlying64 rfl inf62 (by decide) rfl) (show _ = Value.pointer (some ⟨b4, 2, none⟩) from rfl)) rfl ?_
        refine Ls_on rfl rfl ?_
        refine Ls_run (run_load sc62 rfl (hs.blk_at 0 rfl 2 rfl)) rfl ?_
        refine Ls_on rfl rfl ?_
        refine Ls_call Try.func51 nm51 rfl rfl (Forward_c w5 _ _ _ n.prev _ _ _ n.cur (hrp.inB hs) (hrc.inB hs) (by omega)) rfl ?_
        rintro v16 w17 ⟨rfl, hsF⟩
        replace hs := hs.trans hsF
        simp only [List.nil_append, List.cons_append] at hs
        refine Ls_on rfl rfl ?_
        refine Ls_run (run_not rfl) rfl ?_
        refine Ls_run (run_pick_f rfl rfl) rfl ?_
        refine Ls_nil ?_
        refine Jm_seq ?_
        refine St_ifN rfl (fun h18 => ?_) (fun h18 => ?_)
        · skip
          refine St_seq ?_
          refine St_region ?_
          refine Ls_run (run_assign rfl) rfl ?_
          refine Ls_nil ?_
          refine Jm_seq ?_
          refine St_ret ?_
          refine Jm_then_ret  ?_
          refine Jm_ret1 rfl rfl ?_
          first
          | exact ⟨_, rfl, congrArg Value.bool (decide_eq_false (fun q => by first | exact absurd q.1 (by assumption) | exact absurd q.2.1 (by assumption) | exact absurd q.2.2.1 (by assumption) | exact absurd q.2.2.2.1 (by assumption))).symm, hs.forget⟩
          | exact ⟨_, rfl, congrArg Value.bool (decide_eq_false (fun q => by have q1 := q.2.2.2.2 i (by omega); unfold endOk at q1; omega)).symm, hs.forget⟩
          | exact ⟨_, rfl, congrArg Value.bool (decide_eq_true ⟨hpre.1, hpre.2.1, hpre.2.2.1, hpre.2.2.2, fun q hq => hen q (by omega)⟩).symm, hs.forget⟩
        · skip
          refine St_skip ?_
          refine Jm_seq ?_
          refine St_seq ?_
          refine St_seq ?_
          refine St_region ?_
          refine Ls_run (run_as (run_field Try.underlying64 rfl inf62 (by decide) rfl) (show _ = Value.pointer (some ⟨b4, 2, none⟩) from rfl)) rfl ?_
          refine Ls_run (run_load sc62 rfl (hs.blk_at 0 rfl 2 rfl)) rfl ?_
          refine Ls_run (run_len Try.underlying62 rfl) rfl ?_
          refine Ls_run (run_move rfl) rfl ?_
          refine Ls_nil ?_
          refine Jm_seq ?_
          refine St_block ?_
          replace hs := hs.erase 1
          simp only [List.cons_append, List.nil_append, List.eraseIdx_cons_zero, List.eraseIdx_cons_succ] at hs
          obtain ⟨En19, hEn19⟩ : ∃ F : Nat → Env, ∀ (i : Nat), F i = [(36, .slice Ac n.cur.length cc), (37, .int .i64 (n.cur.length : Int)), (38, .int .i64 (i : Int)), (5, .pointer (some ⟨b4, 0, none⟩))] := ⟨(fun (i : Nat) => [(36, .slice Ac n.cur.length cc), (37, .int .i64 (n.cur.length : Int)), (38, .int .i64 (i : Int)), (5, .pointer (some ⟨b4, 0, none⟩))]), fun _ => rfl⟩
          obtain ⟨Iv20, hIv20⟩ : ∃ F : Nat → World → Prop, ∀ (i : Nat) (wr : World), F i wr = (Sat w wr [Blk b4 [.int .i64 n.batch, .slice Ap n.prev.length cp, .slice Ac n.cur.length cc] 64] ∧ i ≤ n.cur.length ∧ (within n.batch ∧ within n.att ∧ (n.prev.length : Int) = parts ∧ fwd n.prev n.cur) ∧ ∀ q, q < i → endOk n q) := ⟨(fun (i : Nat) => fun (wr : World) => Sat w wr [Blk b4 [.int .i64 n.batch, .slice Ap n.prev.length cp, .slice Ac n.cur.length cc] 64] ∧ i ≤ n.cur.length ∧ (within n.batch ∧ within n.att ∧ (n.prev.length : Int) = parts ∧ fwd n.prev n.cur) ∧ ∀ q, q < i → endOk n q), fun _ _ => rfl⟩
          obtain ⟨ms21, hms21⟩ : ∃ F : Nat → Nat, ∀ (i : Nat), F i = (n.cur.length - i) := ⟨(fun (i : Nat) => n.cur.length - i), fun _ => rfl⟩
          refine St_loop En19 Iv20 ms21 (0) ?_ ?_ ?_
          · skip
            rw [hIv20]
            refine ⟨hs, by omega, ⟨?_, ?_, ?_, ?_⟩, fun q hq => by omega⟩ <;> first | assumption | omega | (apply Decidable.not_not.1; assumption)
          · rw [hEn19]; exact (subE_cons rfl (subE_cons rfl (subE_cons rfl (subE_cons rfl subE_nil))))
          rintro i wr hI22
          rw [hIv20] at hI22
          obtain ⟨hs, hi, hpre, hen⟩ := hI22
          refine St_eqE (hEn19 _) ?_
          have hfl := hpre.2.2.2.1
          refine St_seq ?_
          refine St_region ?_
          refine Ls_run (run_lss rfl rfl) rfl ?_
          refine Ls_nil ?_
          refine Jm_seq ?_
          refine St_seq ?_
          refine St_ifP rfl (fun h23 => ?_) (fun h23 => ?_)
          · skip
            refine St_skip ?_
            refine Jm_seq ?_
            refine St_seq ?_
            refine St_block ?_
            refine St_seq ?_
            refine St_region ?_
            refine Ls_run (run_move rfl) rfl ?_
            refine Ls_index (KI) (hrc.inB hs) Try.underlying62 inf3 rfl rfl (by omega) (by omega) (show _ = n.cur.getD i 0 from rfl) rfl ?_
            intro b24 o25 hc26
            refine Ls_run (run_load sc3 rfl (hc26 0 _ rfl)) rfl ?_
            refine Ls_run (run_assign rfl) rfl ?_
            refine Ls_run (run_assign rfl) rfl ?_
            refine Ls_nil ?_
            refine Jm_seq ?_
            refine St_seq ?_
            refine St_region ?_
            refine Ls_run (run_as (run_field Try.underlying64 rfl inf62 (by decide) rfl) (show _ = Value.pointer (some ⟨b4, 1, none⟩) from rfl)) rfl ?_
            refine Ls_run (run_load sc62 rfl (hs.blk_at 0 rfl 1 rfl)) rfl ?_
            refine Ls_run (run_move rfl) rfl ?_
            refine Ls_index (KI) (hrp.inB hs) Try.underlying62 inf3 rfl rfl (by omega) (by omega) (show _ = n.prev.getD i 0 from rfl) rfl ?_
            intro b27 o28 hc29
            refine Ls_run (run_load sc3 rfl (hc29 0 _ rfl)) rfl ?_
            refine Ls_run (run_lss rfl rfl) rfl ?_
            refine Ls_run (run_move rfl) rfl ?_
            refine Ls_partP (t := 49) rfl (fun h30 => ?_) (fun h30 => ?_)
            · skip
              refine Ls_off rfl rfl rfl rfl ?_
              refine Ls_off rfl rfl rfl rfl ?_
              refine Ls_run (run_pick_t rfl rfl) rfl ?_
              refine Ls_run (run_move rfl) rfl ?_
              refine Ls_off rfl rfl rfl rfl ?_
              refine Ls_off rfl rfl rfl rfl ?_
              refine Ls_off rfl rfl rfl rfl ?_
              refine Ls_off rfl rfl rfl rfl ?_
              refine Ls_off' rfl rfl rfl ?_
              refine Ls_off' rfl rfl rfl ?_
              refine Ls_off rfl rfl rfl rfl ?_
              refine Ls_run (run_pick_t rfl rfl) rfl ?_
              refine Ls_nil ?_
              refine Jm_seq ?_
              refine St_ift rfl ?_
              refine St_seq ?_
              refine St_region ?_
              refine Ls_run (run_assign rfl) rfl ?_
              refine Ls_nil ?_
              refine Jm_seq ?_
              refine St_ret ?_
              refine Jm_block_ret (Jm_then_ret (Jm_then_ret (Jm_block_ret (Jm_then_ret  ?_))))
              refine Jm_ret1 rfl rfl ?_
              first
              | exact ⟨_, rfl, congrArg Value.bool (decide_eq_false (fun q => by first | exact absurd q.1 (by assumption) | exact absurd q.2.1 (by assumption) | exact absurd q.2.2.1 (by assumption) | exact absurd q.2.2.2.1 (by assumption))).symm, hs.forget⟩
              | exact ⟨_, rfl, congrArg Value.bool (decide_eq_false (fun q => by have q1 := q.2.2.2.2 i (by omega); unfold endOk at q1; omega)).symm, hs.forget⟩
              | exact ⟨_, rfl, congrArg Value.bool (decide_eq_true ⟨hpre.1, hpre.2.1, hpre.2.2.1, hpre.2.2.2, fun q hq => hen q (by omega)⟩).symm, hs.forget⟩
            · skip
              refine Ls_on rfl rfl ?_
              refine Ls_run (run_move rfl) rfl ?_
              refine Ls_on rfl rfl ?_
              refine Ls_run (run_gtr rfl rfl) rfl ?_
              refine Ls_run (run_pick_f rfl rfl) rfl ?_
              refine Ls_run (run_move rfl) rfl ?_
              refine Ls_partP (t := 53) rfl (fun h32 => ?_) (fun h32 => ?_)
              · skip
                refine Ls_off rfl rfl rfl rfl ?_
                refine Ls_off rfl rfl rfl rfl ?_
                refine Ls_off rfl rfl rfl rfl ?_
                refine Ls_off rfl rfl rfl rfl ?_
                refine Ls_off' rfl rfl rfl ?_
                refine Ls_off' rfl rfl rfl ?_
                refine Ls_off rfl rfl rfl rfl ?_
                refine Ls_run (run_pick_t rfl rfl) rfl ?_
                refine Ls_nil ?_
                refine Jm_seq ?_
                refine St_ift rfl ?_
                refine St_seq ?_
                refine St_region ?_
                refine Ls_run (run_assign rfl) rfl ?_
                refine Ls_nil ?_
                refine Jm_seq ?_
                refine St_ret ?_
                refine Jm_block_ret (Jm_then_ret (Jm_then_ret (Jm_block_ret (Jm_then_ret  ?_))))
                refine Jm_ret1 rfl rfl ?_
                first
                | exact ⟨_, rfl, congrArg Value.bool (decide_eq_false (fun q => by first | exact absurd q.1 (by assumption) | exact absurd q.2.1 (by assumption) | exact absurd q.2.2.1 (by assumption) | exact absurd q.2.2.2.1 (by assumption))).symm, hs.forget⟩
                | exact ⟨_, rfl, congrArg Value.bool (decide_eq_false (fun q => by have q1 := q.2.2.2.2 i (by omega); unfold endOk at q1; omega)).symm, hs.forget⟩
                | exact ⟨_, rfl, congrArg Value.bool (decide_eq_true ⟨hpre.1, hpre.2.1, hpre.2.2.1, hpre.2.2.2, fun q hq => hen q (by omega)⟩).symm, hs.forget⟩
              · skip
                refine Ls_on rfl rfl ?_
                refine Ls_run (run_as (run_field Try.underlying64 rfl inf3 (by decide) rfl) (show _ = Value.pointer (some ⟨b4, 0, none⟩) from rfl)) rfl ?_
                refine Ls_on rfl rfl ?_
                refine Ls_run (run_load sc3 rfl (hs.blk_at 0 rfl 0 rfl)) rfl ?_
                refine Ls_on rfl rfl ?_
                refine Ls_run (run_eql rfl rfl) rfl ?_
                refine Ls_on rfl rfl ?_
                refine Ls_run (run_move rfl) rfl ?_
                refine Ls_partP (t := 57) rfl (fun h34 => ?_) (fun h34 => ?_)
                · skip
                  refine Ls_on rfl rfl ?_
                  refine Ls_run (run_move rfl) rfl ?_
                  refine Ls_on rfl rfl ?_
                  refine Ls_run (run_neq rfl rfl) rfl ?_
                  refine Ls_on rfl rfl ?_
                  refine Ls_run (run_pick_t rfl rfl) rfl ?_
                  refine Ls_run (run_pick_f rfl rfl) rfl ?_
                  refine Ls_nil ?_
                  refine Jm_seq ?_
                  refine St_ifP rfl (fun h35 => ?_) (fun h35 => ?_)
                  · skip
                    refine St_seq ?_
                    refine St_region ?_
                    refine Ls_run (run_assign rfl) rfl ?_
                    refine Ls_nil ?_
                    refine Jm_seq ?_
                    refine St_ret ?_
                    refine Jm_block_ret (Jm_then_ret (Jm_then_ret (Jm_block_ret (Jm_then_ret  ?_))))
                    refine Jm_ret1 rfl rfl ?_
                    first
                    | exact ⟨_, rfl, congrArg Value.bool (decide_eq_false (fun q => by first | exact absurd q.1 (by assumption) | exact absurd q.2.1 (by assumption) | exact absurd q.2.2.1 (by assumption) | exact absurd q.2.2.2.1 (by assumption))).symm, hs.forget⟩
                    | exact ⟨_, rfl, congrArg Value.bool (decide_eq_false (fun q => by have q1 := q.2.2.2.2 i (by omega); unfold endOk at q1; omega)).symm, hs.forget⟩
                    | exact ⟨_, rfl, congrArg Value.bool (decide_eq_true ⟨hpre.1, hpre.2.1, hpre.2.2.1, hpre.2.2.2, fun q hq => hen q (by omega)⟩).symm, hs.forget⟩
                  · skip
                    refine St_skip ?_
                    refine Jm_block_normal (Jm_seq ?_)
                    refine St_region ?_
                    refine Ls_run (run_add rfl rfl (w64 (by omega))) rfl ?_
                    refine Ls_run (run_move rfl) rfl ?_
                    refine Ls_nil ?_
                    refine Jm_round (i + 1) ?_ ?_ ?_
                    · rw [hEn19]; exact (subE_cons rfl (subE_cons rfl (subE_cons rfl (subE_cons rfl subE_nil))))
                    · skip
                      rw [hIv20]
                      refine ⟨hs, by omega, hpre, fun q hq => ?_⟩
                      by_cases e : q = i
                      · subst e; refine ⟨by omega, by omega, fun h0 => ?_⟩; omega
                      · exact hen q (by omega)
                    · skip
                      rw [hms21, hms21]
                      omega
                · skip
                  refine Ls_off rfl rfl rfl rfl ?_
                  refine Ls_off rfl rfl rfl rfl ?_
                  refine Ls_on rfl rfl ?_
                  refine Ls_run (run_pick_f rfl rfl) rfl ?_
                  refine Ls_run (run_pick_f rfl rfl) rfl ?_
                  refine Ls_nil ?_
                  refine Jm_seq ?_
                  refine St_iff rfl ?_
                  refine St_skip ?_
                  refine Jm_block_normal (Jm_seq ?_)
                  refine St_region ?_
                  refine Ls_run (run_add rfl rfl (w64 (by omega))) rfl ?_
                  refine Ls_run (run_move rfl) rfl ?_
                  refine Ls_nil ?_
                  refine Jm_round (i + 1) ?_ ?_ ?_
                  · rw [hEn19]; exact (subE_cons rfl (subE_cons rfl (subE_cons rfl (subE_cons rfl subE_nil))))
                  · skip
                    rw [hIv20]
                    refine ⟨hs, by omega, hpre, fun q hq => ?_⟩
                    by_cases e : q = i
                    · subst e; refine ⟨by omega, by omega, fun h0 => ?_⟩; omega
                    · exact hen q (by omega)
                  · skip
                    rw [hms21, hms21]
                    omega
          · skip
            refine St_exit ?_
            refine Jm_then_exit (Jm_then_exit (Jm_block_same (Jm_seq ?_)))
            refine St_seq ?_
            refine St_region ?_
            refine Ls_run (run_assign rfl) rfl ?_
            refine Ls_nil ?_
            refine Jm_seq ?_
            refine St_ret ?_
            refine Jm_ret1 rfl rfl ?_
            first
            | exact ⟨_, rfl, congrArg Value.bool (decide_eq_false (fun q => by first | exact absurd q.1 (by assumption) | exact absurd q.2.1 (by assumption) | exact absurd q.2.2.1 (by assumption) | exact absurd q.2.2.2.1 (by assumption))).symm, hs.forget⟩
            | exact ⟨_, rfl, congrArg Value.bool (decide_eq_false (fun q => by have q1 := q.2.2.2.2 i (by omega); unfold endOk at q1; omega)).symm, hs.forget⟩
            | exact ⟨_, rfl, congrArg Value.bool (decide_eq_true ⟨hpre.1, hpre.2.1, hpre.2.2.1, hpre.2.2.2, fun q hq => hen q (by omega)⟩).symm, hs.forget⟩
set_option maxRecDepth 100000 in
set_option maxHeartbeats 1000000 in
theorem jcopied_c (w : World) (n : NSt) (Ap : Option Addr) (cp : Nat) (Ac : Option Addr) (cc : Nat) (hrp : Rd w Ap n.prev.length cp 1 (KI.flat n.prev)) (hrc : Rd w Ac n.cur.length cc 1 (KI.flat n.cur)) (hz : n.prev.length ≤ 1073741824 ∧ n.cur.length ≤ 1073741824) :
    Calls Try.prog 67 [.agg #[.int .i64 n.batch, .slice Ap n.prev.length cp, .slice Ac n.cur.length cc, .int .i64 n.att]].toArray w (Ret (fun v' w' => ∃ Ap' cp' Ac' cc', v' = .agg #[.int .i64 n.batch, .slice Ap' n.prev.length cp', .slice Ac' n.cur.length cc', .int .i64 n.att] ∧ Sat w w' [Own 3 1 (.slice Ap' n.prev.length cp') n.prev.length (KI.flat n.prev), Own 3 1 (.slice Ac' n.cur.length cc') n.cur.length (KI.flat n.cur)])) := by
  have hs := Sat.start w
  refine Calls_body Try.func67 rfl rfl rfl (envE_cons (i := 0) (v := .agg #[.int .i64 n.batch, .slice Ap n.prev.length cp, .slice Ac n.cur.length cc, .int .i64 n.att]) rfl envE_nil) ?_
  refine St_seq ?_
  refine St_region ?_
  refine Ls_box hs rfl rfl ?_
  intro b2 w1 hs
  refine Ls_alloc hs inf66 rfl ?_
  intro b4 w3 hs
  refine Ls_nil ?_
  refine Jm_seq ?_
  refine St_seq ?_
  refine St_drawC 10 (fun x => Below w3.heap.size w3 x) mixed ?_
  intro w5 q6
  have hH := q6.below
  replace hs := hs.quiet q6
  refine AnC_grow hH ?_
  replace hH := Below.refl w5.heap.size w5
  refine AnC_takeP 0 (by kernel_rfl) rfl (by kernel_rfl) (by kernel_rfl) (by kernel_rfl) (fun _ _ _ h => h) (fun _ => hH) (fun x => run_as (run_field Try.underlying66 rfl inf64 (by decide) rfl) (show _ = Value.pointer (some ⟨b2, 0, none⟩) from rfl)) rfl ?_
  refine AnC_takeP 1 (by kernel_rfl) rfl (by kernel_rfl) (by kernel_rfl) (by kernel_rfl) (fun _ _ _ h => h) (fun _ => hH) (fun x => run_as (run_field Try.underlying64 rfl inf62 (by decide) rfl) (show _ = Value.pointer (some ⟨b2, 1, none⟩) from rfl)) rfl ?_
  refine AnC_take 2 [10, 2] rfl (by kernel_rfl) (by kernel_rfl) (by kernel_rfl) (by kernel_rfl) (fun _ _ _ h => h) hH (fun x hx => run_load sc62 rfl ((hs.grow hx).blk_at 1 rfl 1 rfl)) rfl ?_
  refine AnC_takeP 4 (by kernel_rfl) rfl (by kernel_rfl) (by kernel_rfl) (by kernel_rfl) (fun _ _ _ h => h) (fun _ => hH) (fun x => run_as (run_field Try.underlying66 rfl inf64 (by decide) rfl) (show _ = Value.pointer (some ⟨b2, 0, none⟩) from rfl)) rfl ?_
  refine AnC_takeP 5 (by kernel_rfl) rfl (by kernel_rfl) (by kernel_rfl) (by kernel_rfl) (fun _ _ _ h => h) (fun _ => hH) (fun x => run_as (run_field Try.underlying64 rfl inf62 (by decide) rfl) (show _ = Value.pointer (some ⟨b2, 2, none⟩) from rfl)) rfl ?_
  refine AnC_take 6 [10, 6] rfl (by kernel_rfl) (by kernel_rfl) (by kernel_rfl) (by kernel_rfl) (fun _ _ _ h => h) hH (fun x hx => run_load sc62 rfl ((hs.grow hx).blk_at 1 rfl 2 rfl)) rfl ?_
  refine AnC_only 3 (by kernel_rfl) rfl ?_
  refine Ls_call Try.func81 nm81 rfl rfl (CloneI_c w5 _ _ _ n.prev (hrp.inB hs) (by omega)) rfl ?_
  rintro v7 w9 ⟨Aop, cop, rfl, hsop⟩
  replace hs := hs.trans hsop
  simp only [List.nil_append, List.cons_append] at hs
  replace hH := (hsop.below : Below w5.heap.size w5 w9)
  refine Ls_nil (Jm_AnC (fun _ => hH) ?_)
  refine AnC_grow hH ?_
  replace hH := Below.refl w9.heap.size w9
  refine AnC_takeP 8 (by kernel_rfl) rfl (by kernel_rfl) (by kernel_rfl) (by kernel_rfl) (fun _ _ _ h => h) (fun _ => hH) (fun x => run_as (run_field Try.underlying66 rfl inf64 (by decide) rfl) (show _ = Value.pointer (some ⟨b2, 0, none⟩) from rfl)) rfl ?_
  refine AnC_takeP 9 (by kernel_rfl) rfl (by kernel_rfl) (by kernel_rfl) (by kernel_rfl) (fun _ _ _ h => h) (fun _ => hH) (fun x => run_as (run_field Try.underlying64 rfl inf62 (by decide) rfl) (show _ = Value.pointer (some ⟨b2, 1, none⟩) from rfl)) rfl ?_
  refine AnC_only 7 (by kernel_rfl) rfl ?_
  refine Ls_call Try.func81 nm81 rfl rfl (CloneI_c w9 _ _ _ n.cur (hrc.inB hs) (by omega)) rfl ?_
  rintro v10 w11 ⟨Aoc, coc, rfl, hsoc⟩
  replace hs := hs.trans hsoc
  simp only [List.nil_append, List.cons_append] at hs
  replace hH := (hsoc.below : Below w9.heap.size w9 w11)
  refine Ls_nil (Jm_AnC (fun _ => hH) ?_)
  refine AnC_grow hH ?_
  replace hH := Below.refl w11.heap.size w11
  refine AnC_only 10 (by kernel_rfl) rfl ?_
  replace hs := hs.front 3 rfl
  simp only [List.cons_append, List.nil_append, List.eraseIdx_cons_zero, List.eraseIdx_cons_succ] at hs
  refine Ls_store hs inf62 rfl rfl rfl rfl ?_
  intro w12 hs
  try simp only [List.set_cons_zero, List.set_cons_succ] at hs
  refine Ls_nil (Jm_AnC_closed (by kernel_rfl) ?_)
  refine AnC_switch (H' := fun x => Below w12.heap.size w12 x) 13 (by kernel_rfl) ?_
  replace hH := Below.refl w12.heap.size w12
  refine AnC_takeP 11 (by kernel_rfl) rfl (by kernel_rfl) (by kernel_rfl) (by kernel_rfl) (fun _ _ _ h => h) (fun _ => hH) (fun x => run_as (run_field Try.underlying66 rfl inf64 (by decide) rfl) (show _ = Value.pointer (some ⟨b2, 0, none⟩) from rfl)) rfl ?_
  refine AnC_takeP 12 (by kernel_rfl) rfl (by kernel_rfl) (by kernel_rfl) (by kernel_rfl) (fun _ _ _ h => h) (fun _ => hH) (fun x => run_as (run_field Try.underlying64 rfl inf62 (by decide) rfl) (show _ = Value.pointer (some ⟨b2, 2, none⟩) from rfl)) rfl ?_
  refine AnC_only 13 (by kernel_rfl) rfl ?_
  refine Ls_store hs inf62 rfl rfl rfl rfl ?_
  intro w13 hs
  try simp only [List.set_cons_zero, List.set_cons_succ] at hs
  refine Ls_nil (Jm_AnC_closed (by kernel_rfl) ?_)
  refine AnC_switch (H' := fun x => Below w13.heap.size w13 x) 14 (by kernel_rfl) ?_
  replace hH := Below.refl w13.heap.size w13
  refine AnC_done (by kernel_rfl) ?_
  refine Jm_seq ?_
  refine St_seq ?_
  refine St_region ?_
  refine Ls_run (run_load_agg agg66 inf66 rfl rfl (hs.blk_cells 0 rfl 0 4)) rfl ?_
  replace hs := hs.front 3 rfl
  simp only [List.cons_append, List.nil_append, List.eraseIdx_cons_zero, List.eraseIdx_cons_succ] at hs
  refine Ls_storeAgg hs inf66 rfl rfl rfl rfl (by simp [Value.oneCell', Value.cells]) ?_
  intro w14 hs
  refine Ls_nil ?_
  refine Jm_seq ?_
  refine St_ret ?_
  refine Jm_retC rfl agg66 inf66 rfl rfl (hs.blk_cells 0 rfl 0 4) ?_
  replace hs := hs.front 2 rfl
  simp only [List.cons_append, List.nil_append, List.eraseIdx_cons_zero, List.eraseIdx_cons_succ] at hs
  replace hs := hs.front 3 rfl
  simp only [List.cons_append, List.nil_append, List.eraseIdx_cons_zero, List.eraseIdx_cons_succ] at hs
  exact ⟨_, rfl, Aop, cop, Aoc, coc, rfl, Sat.pre (L1 := [_, _]) hs⟩
set_option maxRecDepth 100000 in
set_option maxHeartbeats 1000000 in
theorem bytes_c (w : World) (n : NSt) (Ap : Option Addr) (cp : Nat) (Ac : Option Addr) (cc : Nat) (hrp : Rd w Ap n.prev.length cp 1 (KI.flat n.prev)) (hrc : Rd w Ac n.cur.length cc 1 (KI.flat n.cur)) (hz : n.prev.length ≤ 1073741824 ∧ n.cur.length ≤ 1073741824) (gen parts : Int) (hok : noteOk n parts) (hp4 : parts ≤ 4) (hg : 0 ≤ gen ∧ gen ≤ 1099511627777) :
    Calls Try.prog 66 [.agg #[.int .i64 n.batch, .slice Ap n.prev.length cp, .slice Ac n.cur.length cc, .int .i64 n.att, .int .i64 gen]].toArray w (Ret (fun v' w' => ∃ A c, v' = .slice A (nbytes gen n).length c ∧ Sat w w' [Own 5 1 (.slice A (nbytes gen n).length c) (nbytes gen n).length (bytesV (nbytes gen n))])) := by
  have hs := Sat.start w
  obtain ⟨hpsnp, hpsnc⟩ := noteOk_pos hok
  have hwb := hok.1
  have hwa := hok.2.1
  unfold within at hwb hwa
  obtain ⟨hl1, hl2⟩ := noteOk_len hok
  refine Calls_body Try.func66 rfl rfl rfl (envE_cons (i := 0) (v := .agg #[.int .i64 n.batch, .slice Ap n.prev.length cp, .slice Ac n.cur.length cc, .int .i64 n.att, .int .i64 gen]) rfl envE_nil) ?_
  refine St_seq ?_
  refine St_region ?_
  refine Ls_box hs rfl rfl ?_
  intro b2 w1 hs
  refine Ls_run (run_assign rfl) rfl ?_
  refine Ls_nil ?_
  refine Jm_seq ?_
  refine St_seq ?_
  refine St_region ?_
  refine Ls_run (run_as (run_field Try.underlying96 rfl inf66 (by decide) rfl) (show _ = Value.pointer (some ⟨b2, 0, none⟩) from rfl)) rfl ?_
  refine Ls_run (run_as (run_field Try.underlying66 rfl inf64 (by decide) rfl) (show _ = Value.pointer (some ⟨b2, 0, none⟩) from rfl)) rfl ?_
  refine Ls_run (run_as (run_field Try.underlying64 rfl inf62 (by decide) rfl) (show _ = Value.pointer (some ⟨b2, 1, none⟩) from rfl)) rfl ?_
  refine Ls_run (run_load sc62 rfl (hs.blk_at 0 rfl 1 rfl)) rfl ?_
  refine Ls_call Try.func78 nm78 rfl rfl (Nums_ok w1 _ _ _ n.prev (hrp.inB hs) (by omega) hpsnp) rfl ?_
  rintro v3 w4 ⟨Anp, cnp, rfl, hsnp⟩
  replace hs := hs.trans hsnp
  simp only [List.nil_append, List.cons_append] at hs
  refine Ls_run (run_move rfl) rfl ?_
  refine Ls_run (run_extract rfl rfl) rfl ?_
  refine Ls_run (run_extract rfl rfl) rfl ?_
  refine Ls_run (run_assign rfl) rfl ?_
  refine Ls_run (run_assign rfl) rfl ?_
  refine Ls_nil ?_
  refine Jm_seq ?_
  refine St_seq ?_
  refine St_region ?_
  refine Ls_run (run_as (run_field Try.underlying96 rfl inf66 (by decide) rfl) (show _ = Value.pointer (some ⟨b2, 0, none⟩) from rfl)) rfl ?_
  refine Ls_run (run_as (run_field Try.underlying66 rfl inf64 (by decide) rfl) (show _ = Value.pointer (some ⟨b2, 0, none⟩) from rfl)) rfl ?_
  refine Ls_run (run_as (run_field Try.underlying64 rfl inf62 (by decide) rfl) (show _ = Value.pointer (some ⟨b2, 2, none⟩) from rfl)) rfl ?_
  refine Ls_run (run_load sc62 rfl (hs.blk_at 1 rfl 2 rfl)) rfl ?_
  refine Ls_call Try.func78 nm78 rfl rfl (Nums_ok w4 _ _ _ n.cur (hrc.inB hs) (by omega) hpsnc) rfl ?_
  rintro v5 w6 ⟨Anc, cnc, rfl, hsnc⟩
  replace hs := hs.trans hsnc
  simp only [List.nil_append, List.cons_append] at hs
  refine Ls_run (run_move rfl) rfl ?_
  refine Ls_run (run_extract rfl rfl) rfl ?_
  refine Ls_run (run_extract rfl rfl) rfl ?_
  refine Ls_run (run_assign rfl) rfl ?_
  refine Ls_run (run_assign rfl) rfl ?_
  refine Ls_nil ?_
  refine Jm_seq ?_
  refine St_seq ?_
  refine St_draw (fun x => Below w6.heap.size w6 x) mixed ?_
  intro w7 q8
  have hH := q8.below
  replace hs := hs.quiet q8
  refine An_grow hH ?_
  replace hH := Below.refl w7.heap.size w7
  refine An_take 0 rfl (by kernel_rfl) (by kernel_rfl) (by kernel_rfl) (fun _ _ _ h => h) hH (fun x hx => run_as (run_field Try.underlying96 rfl inf3 (by decide) rfl) (show _ = Value.pointer (some ⟨b2, 4, none⟩) from rfl)) rfl ?_
  refine An_take 1 rfl (by kernel_rfl) (by kernel_rfl) (by kernel_rfl) (fun _ _ _ h => h) hH (fun x hx => run_load sc3 rfl ((hs.grow hx).blk_at 2 rfl 4 rfl)) rfl ?_
  refine An_take 2 rfl (by kernel_rfl) (by kernel_rfl) (by kernel_rfl) (fun _ _ _ h => h) hH (fun x hx => run_conv_int Try.underlying114 us3 rfl (show _ = ((gen).toNat : Int) by rw [wu64 (by omega)]; omega)) rfl ?_
  refine An_take 4 rfl (by kernel_rfl) (by kernel_rfl) (by kernel_rfl) (fun _ _ _ h => h) hH (fun x hx => run_as (run_field Try.underlying96 rfl inf66 (by decide) rfl) (show _ = Value.pointer (some ⟨b2, 0, none⟩) from rfl)) rfl ?_
  refine An_take 5 rfl (by kernel_rfl) (by kernel_rfl) (by kernel_rfl) (fun _ _ _ h => h) hH (fun x hx => run_as (run_field Try.underlying66 rfl inf64 (by decide) rfl) (show _ = Value.pointer (some ⟨b2, 0, none⟩) from rfl)) rfl ?_
  refine An_take 6 rfl (by kernel_rfl) (by kernel_rfl) (by kernel_rfl) (fun _ _ _ h => h) hH (fun x hx => run_as (run_field Try.underlying64 rfl inf3 (by decide) rfl) (show _ = Value.pointer (some ⟨b2, 0, none⟩) from rfl)) rfl ?_
  refine An_take 7 rfl (by kernel_rfl) (by kernel_rfl) (by kernel_rfl) (fun _ _ _ h => h) hH (fun x hx => run_load sc3 rfl ((hs.grow hx).blk_at 2 rfl 0 rfl)) rfl ?_
  refine An_take 8 rfl (by kernel_rfl) (by kernel_rfl) (by kernel_rfl) (fun _ _ _ h => h) hH (fun x hx => run_conv_int Try.underlying114 us3 rfl (show _ = ((n.batch).toNat : Int) by rw [wu64 (by omega)]; omega)) rfl ?_
  refine An_take 10 rfl (by kernel_rfl) (by kernel_rfl) (by kernel_rfl) (fun _ _ _ h => h) hH (fun x hx => run_as (run_field Try.underlying96 rfl inf66 (by decide) rfl) (show _ = Value.pointer (some ⟨b2, 0, none⟩) from rfl)) rfl ?_
  refine An_take 11 rfl (by kernel_rfl) (by kernel_rfl) (by kernel_rfl) (fun _ _ _ h => h) hH (fun x hx => run_as (run_field Try.underlying66 rfl inf3 (by decide) rfl) (show _ = Value.pointer (some ⟨b2, 3, none⟩) from rfl)) rfl ?_
  refine An_take 12 rfl (by kernel_rfl) (by kernel_rfl) (by kernel_rfl) (fun _ _ _ h => h) hH (fun x hx => run_load sc3 rfl ((hs.grow hx).blk_at 2 rfl 3 rfl)) rfl ?_
  refine An_take 13 rfl (by kernel_rfl) (by kernel_rfl) (by kernel_rfl) (fun _ _ _ h => h) hH (fun x hx => run_conv_int Try.underlying114 us3 rfl (show _ = ((n.att).toNat : Int) by rw [wu64 (by omega)]; omega)) rfl ?_
  refine An_take 15 rfl (by kernel_rfl) (by kernel_rfl) (by kernel_rfl) (fun _ _ _ h => h) hH (fun x hx => run_move rfl) rfl ?_
  refine An_take 16 rfl (by kernel_rfl) (by kernel_rfl) (by kernel_rfl) (fun _ _ _ h => h) hH (fun x hx => run_move rfl) rfl ?_
  refine An_only 3 (by kernel_rfl) rfl ?_
  refine Ls_call Try.func80 nm80 rfl rfl (Put_c w7 (gen).toNat (by omega)) rfl ?_
  rintro v9 w10 ⟨Ap1, cp1, rfl, hsp1⟩
  replace hs := hs.trans hsp1
  simp only [List.nil_append, List.cons_append] at hs
  replace hH := (hsp1.below : Below w7.heap.size w7 w10)
  refine Ls_nil (Jm_An hH ?_)
  refine An_grow hH ?_
  replace hH := Below.refl w10.heap.size w10
  refine An_only 9 (by kernel_rfl) rfl ?_
  refine Ls_call Try.func80 nm80 rfl rfl (Put_c w10 (n.batch).toNat (by omega)) rfl ?_
  rintro v11 w12 ⟨Ap2, cp2, rfl, hsp2⟩
  replace hs := hs.trans hsp2
  simp only [List.nil_append, List.cons_append] at hs
  replace hH := (hsp2.below : Below w10.heap.size w10 w12)
  refine Ls_nil (Jm_An hH ?_)
  refine An_grow hH ?_
  replace hH := Below.refl w12.heap.size w12
  refine An_only 14 (by kernel_rfl) rfl ?_
  refine Ls_call Try.func80 nm80 rfl rfl (Put_c w12 (n.att).toNat (by omega)) rfl ?_
  rintro v13 w14 ⟨Ap3, cp3, rfl, hsp3⟩
  replace hs := hs.trans hsp3
  simp only [List.nil_append, List.cons_append] at hs
  replace hH := (hsp3.below : Below w12.heap.size w12 w14)
  refine Ls_nil (Jm_An hH ?_)
  refine An_grow hH ?_
  replace hH := Below.refl w14.heap.size w14
  refine An_only 17 (by kernel_rfl) rfl ?_
  refine Ls_literal [_, _, _, _, _] (Sat.start w14) Try.underlying28 inf31 rfl rfl rfl rfl rfl rfl ?_
  intro b15 w16 hsN17
  replace hs := hs.trans hsN17
  simp only [List.cons_append, List.nil_append] at hs
  simp only [List.flatMap_cons, List.flatMap_nil, Value.cells, List.cons_append, List.nil_append] at hs
  replace hH := (hsN17.below : Below w14.heap.size w14 w16)
  refine Ls_nil (Jm_An hH ?_)
  refine An_grow hH ?_
  replace hH := Below.refl w16.heap.size w16
  refine An_only 18 (by kernel_rfl) rfl ?_
  have hnl := nbytes_len hok hp4 hg
  have hsm : ([pb gen.toNat, pb n.batch.toNat, pb n.att.toNat, nm n.prev, nm n.cur].map List.length).sum ≤ 140737488355328 := by rw [← flat_len]; show (nbytes gen n).length ≤ _; omega
  have hrJ := (rd_block (hs.is_at 0 rfl).2 1 5 rfl)
  rw [← El.val_flat [_, _, _, _, _]] at hrJ
  refine Ls_call Try.func79 nm79 rfl rfl (Join_c w16 _ 5 5 _ [pb gen.toNat, pb n.batch.toNat, pb n.att.toNat, nm n.prev, nm n.cur] hrJ (Parts.cons (hs.rd_at 3 rfl) (Parts.cons (hs.rd_at 2 rfl) (Parts.cons (hs.rd_at 1 rfl) (Parts.cons (hs.rd_at 5 rfl) (Parts.cons (hs.rd_at 4 rfl) (Parts.nil _)))))) hsm (by decide)) rfl ?_
  rintro v18 w19 ⟨Aj, cj, rfl, hsJ⟩
  replace hs := hs.trans hsJ
  simp only [List.nil_append, List.cons_append] at hs
  replace hH := (hsJ.below : Below w16.heap.size w16 w19)
  refine Ls_nil (Jm_An hH ?_)
  refine An_grow hH ?_
  replace hH := Below.refl w19.heap.size w19
  refine An_take 19 rfl (by kernel_rfl) (by kernel_rfl) (by kernel_rfl) (fun _ _ _ h => h) hH (fun x hx => run_assign rfl) rfl ?_
  refine An_done (by kernel_rfl) ?_
  refine Jm_seq ?_
  refine St_ret ?_
  refine Jm_ret1 rfl rfl ?_
  exact ⟨_, rfl, _, _, rfl, Sat.pre (L1 := [_]) hs⟩
end Go.Proofs.Ytpmkedgennnekaa.Lg
