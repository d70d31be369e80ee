/-
  Pages: what a book tells, and the reference's; lists of numbers. By program (gen/pg1.py).
-/
import Derived.Test.YtipkfdeiallifaaDisk9
import Derived.Test.YtipkfdeiallifaaWire4
import Derived.Test.YtipkfdeiallifaaMi
import Derived.Test.YtipkfdeiallifaaPgPure
set_option linter.unusedVariables false
set_option linter.unusedSimpArgs false
namespace Go.Proofs.Ytipkfdeiallifaa.Lg
open Go Go.RowKit Go.Proofs.Ytipkfdeiallifaa.WirePure
theorem takeK {l l2 : List Int} {i : Nat} (h : i < l.length) : l.take (i + 1) = l.take i ++ [l.getD i 0] := by
  rw [List.take_succ_eq_append_getElem h, List.getD_eq_getElem?_getD, List.getElem?_eq_getElem h]; rfl
theorem flatKI_one (l : List Int) : ∀ u ∈ KI.flat l, u.oneCell' = true := by
  intro u hu; rw [El.int_flat] at hu; obtain ⟨x, _, rfl⟩ := List.mem_map.1 hu; rfl
theorem lenKI {w : World} {A : Option Addr} {n c : Nat} {l : List Int} (h : Rd w A n c 1 (KI.flat l)) : l.length = n := by have := h.len; rw [El.flat_length] at this; simpa [El.int] using this
theorem memK {l : List Int} {i : Nat} (h : i < l.length) : l.getD i 0 ∈ l := by
  rw [List.getD_eq_getElem?_getD, List.getElem?_eq_getElem h]; exact List.getElem_mem h
theorem mem_take_no {l : List Int} {x : Int} {i : Nat} (h : i < l.length) (h1 : x ∉ l.take i) (h2 : ¬ x = l.getD i 0) : x ∉ l.take (i + 1) := by
  rw [takeK (l2 := l) h]; simp only [List.mem_append, List.mem_singleton]; rintro (q | q)
  · exact h1 q
  · exact h2 q
theorem bused_snoc (l : List Int) (x : Int) : bused (l ++ [x]) = bused l + if x ≠ 0 then 1 else 0 := by
  unfold bused; rw [List.filter_append, List.length_append]; congr 1
  by_cases h : x = 0 <;> simp [h]
theorem bused_take {l : List Int} {i : Nat} (h : i < l.length) : bused (l.take (i + 1)) = bused (l.take i) + if l.getD i 0 ≠ 0 then 1 else 0 := by
  rw [takeK (l2 := l) h]; exact bused_snoc _ _
theorem bused_len (l : List Int) : bused l ≤ l.length := List.length_filter_le _ _
theorem Nums_ok (w : World) (A : Option Addr) (n c : Nat) (l : List Int) (hr : Rd w A n c 1 (KI.flat l)) (hn : n * 10 + 20 ≤ 140737488355328) (hw : ∀ x ∈ l, 0 ≤ x ∧ x ≤ 64) :
    Calls Try.prog 64 [.slice A n c].toArray w (Ret (fun v' w' => ∃ A' c', v' = .tuple #[.slice A' (nm l).length c', .int .i64 0] ∧ Sat w w' [Own 5 1 (.slice A' (nm l).length c') (nm l).length (bytesV (nm l))])) :=
  (Nums_c w A n c l hr hn (fun x hx => by have := hw x hx; omega)).mono fun e w' ⟨v, he, h2⟩ => ⟨v, he, by
    rcases h2 with ⟨⟨x, hx, h0⟩, _⟩ | ⟨_, A', c', rfl, hs⟩
    · exfalso; have := hw x hx; omega
    · exact ⟨A', c', rfl, hs⟩⟩
theorem rNums_ok (w : World) (A : Option Addr) (n c : Nat) (l : List Int) (hr : Rd w A n c 1 (KI.flat l)) (hn : n * 10 + 20 ≤ 140737488355328) (hw : ∀ x ∈ l, 0 ≤ x ∧ x ≤ 64) :
    Calls Try.prog 69 [.slice A n c].toArray w (Ret (fun v' w' => ∃ A' c', v' = .tuple #[.slice A' (nm l).length c', .int .i64 0] ∧ Sat w w' [Own 5 1 (.slice A' (nm l).length c') (nm l).length (bytesV (nm l))])) :=
  (rNums_c w A n c l hr hn (fun x hx => by have := hw x hx; omega)).mono fun e w' ⟨v, he, h2⟩ => ⟨v, he, by
    rcases h2 with ⟨⟨x, hx, h0⟩, _⟩ | ⟨_, A', c', rfl, hs⟩
    · exfalso; have := hw x hx; omega
    · exact ⟨A', c', rfl, hs⟩⟩
set_option maxRecDepth 100000 in
set_option maxHeartbeats 1000000 in
theorem CloneI_c (w : World) (A : Option Addr) (n c : Nat) (l : List Int) (hr : Rd w A n c 1 (KI.flat l)) (hn : n ≤ 1073741824) :
    Calls Try.prog 87 [.slice A n c].toArray w (Ret (fun v' w' => ∃ A' c', v' = .slice A' n c' ∧ Sat w w' [Own 3 1 v' n (KI.flat l)])) := by
  have hs := Sat.start w
  have hl := lenKI hr
  have hnc := hr.cap
  refine Calls_body Try.func87 rfl rfl rfl (envE_cons (i := 0) (v := .slice A n c) rfl envE_nil) ?_
  refine St_seq ?_
  refine St_region ?_
  refine Ls_run (run_assign rfl) rfl ?_
  refine Ls_nil ?_
  refine Jm_seq ?_
  refine St_seq ?_
  refine St_seq ?_
  refine St_region ?_
  refine Ls_run (run_move rfl) rfl ?_
  refine Ls_run (run_eql_slice_nil Try.underlying22 rfl rfl) rfl ?_
  refine Ls_nil ?_
  refine Jm_seq ?_
  refine St_if rfl (fun h1 => ?_) (fun h1 => ?_)
  · skip
    refine St_seq ?_
    refine St_region ?_
    refine Ls_run (run_assign rfl) rfl ?_
    refine Ls_nil ?_
    refine Jm_seq ?_
    refine St_ret ?_
    refine Jm_then_ret  ?_
    refine Jm_ret1 rfl rfl ?_
    have hA : A = none := by simpa using h1
    have hc := hr.nil hA
    have hn0 : n = 0 := by omega
    have hl0 : l = [] := List.eq_nil_of_length_eq_zero (by omega)
    subst hA hn0 hl0
    exact ⟨_, rfl, _, _, rfl, hs.own_nil _ _⟩
  · skip
    refine St_skip ?_
    refine Jm_seq ?_
    refine St_seq ?_
    refine St_region ?_
    refine Ls_literal [] hs Try.underlying22 inf3 rfl rfl rfl rfl rfl rfl ?_
    intro b2 w3 hs
    simp only [List.flatMap_cons, List.flatMap_nil, Value.cells, List.cons_append, List.nil_append] at hs
    replace hs := Sat.own_block hs 1 0 rfl (by decide)
    refine Ls_run (run_move rfl) rfl ?_
    refine Ls_append hs Try.underlying22 inf3 rfl (by decide) (by decide) rfl rfl (hr.inB hs) (flatKI_one _) (by omega) rfl ?_
    intro A4 c5 w6 hs
    refine Ls_run (run_assign rfl) rfl ?_
    refine Ls_nil ?_
    refine Jm_seq ?_
    refine St_ret ?_
    refine Jm_ret1 rfl rfl ?_
    simp only [Nat.zero_add, List.nil_append] at hs ⊢
    exact ⟨_, rfl, _, _, rfl, hs⟩
set_option maxRecDepth 100000 in
set_option maxHeartbeats 1000000 in
theorem IndexI_c (w : World) (A : Option Addr) (n c : Nat) (l : List Int) (hr : Rd w A n c 1 (KI.flat l)) (hn : n ≤ 1073741824) (x : Int) :
    Calls Try.prog 117 [.slice A n c, .int .i64 x].toArray w (Ret (fun v' w' => ∃ i : Int, v' = .int .i64 i ∧ -1 ≤ i ∧ (0 ≤ i ↔ x ∈ l) ∧ Sat w w' [])) := by
  have hs := Sat.start w
  have hl := lenKI hr
  refine Calls_body Try.func117 rfl rfl rfl (envE_cons (i := 0) (v := .slice A n c) rfl (envE_cons (i := 1) (v := .int .i64 x) rfl envE_nil)) ?_
  refine St_seq ?_
  refine St_region ?_
  refine Ls_run (run_assign rfl) rfl ?_
  refine Ls_nil ?_
  refine Jm_seq ?_
  refine St_seq ?_
  refine St_seq ?_
  refine St_region ?_
  refine Ls_run (run_move rfl) rfl ?_
  refine Ls_run (run_len Try.underlying22 rfl) rfl ?_
  refine Ls_run (run_move rfl) rfl ?_
  refine Ls_nil ?_
  refine Jm_seq ?_
  refine St_block ?_
  obtain ⟨En1, hEn1⟩ : ∃ F : Nat → Env, ∀ (i : Nat), F i = [(0, .slice A n c), (1, .int .i64 x), (7, .int .i64 (n : Int)), (8, .int .i64 (i : Int))] := ⟨(fun (i : Nat) => [(0, .slice A n c), (1, .int .i64 x), (7, .int .i64 (n : Int)), (8, .int .i64 (i : Int))]), fun _ => rfl⟩
  obtain ⟨Iv2, hIv2⟩ : ∃ F : Nat → World → Prop, ∀ (i : Nat) (wr : World), F i wr = (Sat w wr [] ∧ i ≤ n ∧ x ∉ l.take i) := ⟨(fun (i : Nat) => fun (wr : World) => Sat w wr [] ∧ i ≤ n ∧ x ∉ l.take i), fun _ _ => rfl⟩
  obtain ⟨ms3, hms3⟩ : ∃ F : Nat → Nat, ∀ (i : Nat), F i = (n - i) := ⟨(fun (i : Nat) => n - i), fun _ => rfl⟩
  refine St_loop En1 Iv2 ms3 (0) ?_ ?_ ?_
  · skip
    rw [hIv2]
    exact ⟨hs, by omega, by simp⟩
  · rw [hEn1]; exact (subE_cons rfl (subE_cons rfl (subE_cons rfl (subE_cons rfl subE_nil))))
  rintro i wr hI4
  rw [hIv2] at hI4
  obtain ⟨hs, hi, hno⟩ := hI4
  refine St_eqE (hEn1 _) ?_
  refine St_seq ?_
  refine St_region ?_
  refine Ls_run (run_lss rfl rfl) rfl ?_
  refine Ls_nil ?_
  refine Jm_seq ?_
  refine St_seq ?_
  refine St_ifP rfl (fun h5 => ?_) (fun h5 => ?_)
  · skip
    refine St_skip ?_
    refine Jm_seq ?_
    refine St_seq ?_
    refine St_block ?_
    refine St_seq ?_
    refine St_region ?_
    refine Ls_run (run_move rfl) rfl ?_
    refine Ls_run (run_assign rfl) rfl ?_
    refine Ls_nil ?_
    refine Jm_seq ?_
    refine St_seq ?_
    refine St_region ?_
    refine Ls_run (run_move rfl) rfl ?_
    refine Ls_run (run_move rfl) rfl ?_
    refine Ls_run (run_move rfl) rfl ?_
    refine Ls_index (KI) (hr.inB hs) Try.underlying22 inf3 rfl rfl (by omega) (by omega) (show _ = l.getD i 0 from rfl) rfl ?_
    intro b6 o7 hc8
    refine Ls_run (run_load sc3 rfl (hc8 0 _ rfl)) rfl ?_
    refine Ls_run (run_eql rfl rfl) rfl ?_
    refine Ls_nil ?_
    refine Jm_seq ?_
    refine St_ifP rfl (fun h9 => ?_) (fun h9 => ?_)
    · skip
      refine St_seq ?_
      refine St_region ?_
      refine Ls_run (run_move rfl) rfl ?_
      refine Ls_run (run_assign rfl) rfl ?_
      refine Ls_nil ?_
      refine Jm_seq ?_
      refine St_ret ?_
      refine Jm_block_ret (Jm_then_ret (Jm_then_ret (Jm_block_ret (Jm_then_ret  ?_))))
      refine Jm_ret1 rfl rfl ?_
      exact ⟨_, rfl, _, rfl, by omega, ⟨fun _ => by have := memK (l := l) (i := i) (by omega); simp_all, fun _ => by omega⟩, hs⟩
    · skip
      refine St_skip ?_
      refine Jm_block_normal (Jm_seq ?_)
      refine St_region ?_
      refine Ls_run (run_add rfl rfl (w64 (by omega))) rfl ?_
      refine Ls_run (run_move rfl) rfl ?_
      refine Ls_nil ?_
      refine Jm_round (i + 1) ?_ ?_ ?_
      · rw [hEn1]; exact (subE_cons rfl (subE_cons rfl (subE_cons rfl (subE_cons rfl subE_nil))))
      · skip
        rw [hIv2]
        exact ⟨hs, by omega, mem_take_no (by omega) hno (by assumption)⟩
      · skip
        rw [hms3, hms3]
        omega
  · skip
    refine St_exit ?_
    refine Jm_then_exit (Jm_then_exit (Jm_block_same (Jm_seq ?_)))
    refine St_seq ?_
    refine St_region ?_
    refine Ls_run (run_assign rfl) rfl ?_
    refine Ls_nil ?_
    refine Jm_seq ?_
    refine St_ret ?_
    refine Jm_ret1 rfl rfl ?_
    rw [List.take_of_length_le (by omega)] at hno
    exact ⟨_, rfl, _, rfl, by omega, ⟨fun q => by omega, fun q => absurd q hno⟩, hs⟩
set_option maxRecDepth 100000 in
set_option maxHeartbeats 1000000 in
theorem ContainsI_c (w : World) (A : Option Addr) (n c : Nat) (l : List Int) (hr : Rd w A n c 1 (KI.flat l)) (hn : n ≤ 1073741824) (x : Int) :
    Calls Try.prog 88 [.slice A n c, .int .i64 x].toArray w (Ret (fun v' w' => v' = .bool (decide (x ∈ l)) ∧ Sat w w' [])) := by
  have hs := Sat.start w
  have hl := lenKI hr
  refine Calls_body Try.func88 rfl rfl rfl (envE_cons (i := 0) (v := .slice A n c) rfl (envE_cons (i := 1) (v := .int .i64 x) rfl envE_nil)) ?_
  refine St_seq ?_
  refine St_region ?_
  refine Ls_run (run_assign rfl) rfl ?_
  refine Ls_nil ?_
  refine Jm_seq ?_
  refine St_seq ?_
  refine St_region ?_
  refine Ls_run (run_move rfl) rfl ?_
  refine Ls_run (run_move rfl) rfl ?_
  refine Ls_call Try.func117 nm117 rfl rfl (IndexI_c w A n c l (hr.inB hs) hn x) rfl ?_
  rintro v1 w2 ⟨ix, rfl, hix, hxi, hsX⟩
  replace hs := hs.trans hsX
  simp only [List.nil_append, List.cons_append] at hs
  refine Ls_run (run_geq rfl rfl) rfl ?_
  refine Ls_run (run_assign rfl) rfl ?_
  refine Ls_nil ?_
  refine Jm_seq ?_
  refine St_ret ?_
  refine Jm_ret1 rfl rfl ?_
  exact ⟨_, rfl, congrArg Value.bool (decide_eq_decide.2 (by rw [← hxi])), hs⟩
set_option maxRecDepth 100000 in
set_option maxHeartbeats 1000000 in
theorem has_c (w : World) (A : Option Addr) (n c : Nat) (l : List Int) (hr : Rd w A n c 1 (KI.flat l)) (hn : n ≤ 1073741824) (x : Int) :
    Calls Try.prog 121 [.slice A n c, .int .i64 x].toArray w (Ret (fun v' w' => v' = .bool (decide (x ∈ l)) ∧ Sat w w' [])) := by
  have hs := Sat.start w
  have hl := lenKI hr
  refine Calls_body Try.func121 rfl rfl rfl (envE_cons (i := 0) (v := .slice A n c) rfl (envE_cons (i := 1) (v := .int .i64 x) rfl envE_nil)) ?_
  refine St_seq ?_
  refine St_region ?_
  refine Ls_run (run_assign rfl) rfl ?_
  refine Ls_nil ?_
  refine Jm_seq ?_
  refine St_seq ?_
  refine St_seq ?_
  refine St_region ?_
  refine Ls_run (run_assign rfl) rfl ?_
  refine Ls_nil ?_
  refine Jm_seq ?_
  refine St_block ?_
  obtain ⟨En1, hEn1⟩ : ∃ F : Nat → Env, ∀ (i : Nat), F i = [(0, .slice A n c), (1, .int .i64 x), (5, .int .i64 (i : Int))] := ⟨(fun (i : Nat) => [(0, .slice A n c), (1, .int .i64 x), (5, .int .i64 (i : Int))]), fun _ => rfl⟩
  obtain ⟨Iv2, hIv2⟩ : ∃ F : Nat → World → Prop, ∀ (i : Nat) (wr : World), F i wr = (Sat w wr [] ∧ i ≤ n ∧ x ∉ l.take i) := ⟨(fun (i : Nat) => fun (wr : World) => Sat w wr [] ∧ i ≤ n ∧ x ∉ l.take i), fun _ _ => rfl⟩
  obtain ⟨ms3, hms3⟩ : ∃ F : Nat → Nat, ∀ (i : Nat), F i = (n - i) := ⟨(fun (i : Nat) => n - i), fun _ => rfl⟩
  refine St_loop En1 Iv2 ms3 (0) ?_ ?_ ?_
  · skip
    rw [hIv2]
    exact ⟨hs, by omega, by simp⟩
  · rw [hEn1]; exact (subE_cons rfl (subE_cons rfl (subE_cons rfl subE_nil)))
  rintro i wr hI4
  rw [hIv2] at hI4
  obtain ⟨hs, hi, hno⟩ := hI4
  refine St_eqE (hEn1 _) ?_
  refine St_seq ?_
  refine St_seq ?_
  refine St_region ?_
  refine Ls_run (run_move rfl) rfl ?_
  refine Ls_run (run_move rfl) rfl ?_
  refine Ls_run (run_len Try.underlying22 rfl) rfl ?_
  refine Ls_run (run_lss rfl rfl) rfl ?_
  refine Ls_nil ?_
  refine Jm_seq ?_
  refine St_ifP rfl (fun h5 => ?_) (fun h5 => ?_)
  · skip
    refine St_skip ?_
    refine Jm_seq ?_
    refine St_seq ?_
    refine St_block ?_
    refine St_seq ?_
    refine St_region ?_
    refine Ls_run (run_move rfl) rfl ?_
    refine Ls_run (run_move rfl) rfl ?_
    refine Ls_index (KI) (hr.inB hs) Try.underlying22 inf3 rfl rfl (by omega) (by omega) (show _ = l.getD i 0 from rfl) rfl ?_
    intro b6 o7 hc8
    refine Ls_run (run_load sc3 rfl (hc8 0 _ rfl)) rfl ?_
    refine Ls_run (run_move rfl) rfl ?_
    refine Ls_run (run_eql rfl rfl) rfl ?_
    refine Ls_nil ?_
    refine Jm_seq ?_
    refine St_ifP rfl (fun h9 => ?_) (fun h9 => ?_)
    · skip
      refine St_seq ?_
      refine St_region ?_
      refine Ls_run (run_assign rfl) rfl ?_
      refine Ls_nil ?_
      refine Jm_seq ?_
      refine St_ret ?_
      refine Jm_block_ret (Jm_then_ret (Jm_then_ret (Jm_block_ret (Jm_then_ret  ?_))))
      refine Jm_ret1 rfl rfl ?_
      exact ⟨_, rfl, by rw [decide_eq_true (by have := memK (l := l) (i := i) (by omega); simp_all)], hs⟩
    · skip
      refine St_skip ?_
      refine Jm_block_normal (Jm_seq ?_)
      refine St_region ?_
      refine Ls_run (run_move rfl) rfl ?_
      refine Ls_run (run_add rfl rfl (w64 (by omega))) rfl ?_
      refine Ls_run (run_assign rfl) rfl ?_
      refine Ls_nil ?_
      refine Jm_round (i + 1) ?_ ?_ ?_
      · rw [hEn1]; exact (subE_cons rfl (subE_cons rfl (subE_cons rfl subE_nil)))
      · skip
        rw [hIv2]
        exact ⟨hs, by omega, mem_take_no (by omega) hno (fun q => by simp_all)⟩
      · skip
        rw [hms3, hms3]
        omega
  · skip
    refine St_exit ?_
    refine Jm_then_exit (Jm_then_exit (Jm_block_same (Jm_seq ?_)))
    refine St_seq ?_
    refine St_region ?_
    refine Ls_run (run_assign rfl) rfl ?_
    refine Ls_nil ?_
    refine Jm_seq ?_
    refine St_ret ?_
    refine Jm_ret1 rfl rfl ?_
    rw [List.take_of_length_le (by omega)] at hno
    exact ⟨_, rfl, by rw [decide_eq_false hno], hs⟩
set_option maxRecDepth 100000 in
set_option maxHeartbeats 1000000 in
theorem rfree_c (w : World) (A : Option Addr) (n c : Nat) (l : List Int) (A2 : Option Addr) (n2 c2 : Nat) (l2 : List Int) (hr : Rd w A n c 1 (KI.flat l)) (hr2 : Rd w A2 n2 c2 1 (KI.flat l2)) (hn : n ≤ 1073741824 ∧ n2 ≤ 1073741824) :
    Calls Try.prog 102 [.slice A n c, .slice A2 n2 c2].toArray w (Ret (fun v' w' => v' = .int .i64 (free (l ++ l2)) ∧ Sat w w' [])) := by
  have hs := Sat.start w
  have hl := lenKI hr
  have hl2 := lenKI hr2
  have hf := free_spec (l ++ l2)
  rw [List.length_append] at hf
  refine Calls_body Try.func102 rfl rfl rfl (envE_cons (i := 0) (v := .slice A n c) rfl (envE_cons (i := 1) (v := .slice A2 n2 c2) rfl envE_nil)) ?_
  refine St_seq ?_
  refine St_region ?_
  refine Ls_run (run_assign rfl) rfl ?_
  refine Ls_nil ?_
  refine Jm_seq ?_
  refine St_seq ?_
  refine St_region ?_
  refine Ls_run (run_assign rfl) rfl ?_
  refine Ls_nil ?_
  refine Jm_seq ?_
  refine St_seq ?_
  refine St_block ?_
  obtain ⟨En1, hEn1⟩ : ∃ F : Int → Env, ∀ (a : Int), F a = [(0, .slice A n c), (1, .slice A2 n2 c2), (5, .int .i64 a)] := ⟨(fun (a : Int) => [(0, .slice A n c), (1, .slice A2 n2 c2), (5, .int .i64 a)]), fun _ => rfl⟩
  obtain ⟨Iv2, hIv2⟩ : ∃ F : Int → World → Prop, ∀ (a : Int) (wr : World), F a wr = (Sat w wr [] ∧ 2 ≤ a ∧ a ≤ free (l ++ l2)) := ⟨(fun (a : Int) => fun (wr : World) => Sat w wr [] ∧ 2 ≤ a ∧ a ≤ free (l ++ l2)), fun _ _ => rfl⟩
  obtain ⟨ms3, hms3⟩ : ∃ F : Int → Nat, ∀ (a : Int), F a = ((free (l ++ l2) - a).toNat) := ⟨(fun (a : Int) => (free (l ++ l2) - a).toNat), fun _ => rfl⟩
  refine St_loop En1 Iv2 ms3 (2) ?_ ?_ ?_
  · skip
    rw [hIv2]
    exact ⟨hs, by omega, by omega⟩
  · rw [hEn1]; exact (subE_cons rfl (subE_cons rfl (subE_cons rfl subE_nil)))
  rintro a wr hI4
  rw [hIv2] at hI4
  obtain ⟨hs, ha, hb⟩ := hI4
  refine St_eqE (hEn1 _) ?_
  refine St_seq ?_
  refine St_seq ?_
  refine St_region ?_
  refine Ls_run (run_move rfl) rfl ?_
  refine Ls_run (run_move rfl) rfl ?_
  refine Ls_call Try.func121 nm121 rfl rfl (has_c wr A n c l (hr.inB hs) hn.1 _) rfl ?_
  rintro v5 w6 ⟨rfl, hsX⟩
  replace hs := hs.trans hsX
  simp only [List.nil_append, List.cons_append] at hs
  refine Ls_run (run_move rfl) rfl ?_
  refine Ls_partP (t := 9) rfl (fun h7 => ?_) (fun h7 => ?_)
  · skip
    refine Ls_off rfl rfl rfl rfl ?_
    refine Ls_off rfl rfl rfl rfl ?_
    refine Ls_off rfl rfl rfl rfl ?_
    refine Ls_run (run_pick_t rfl rfl) rfl ?_
    refine Ls_nil ?_
    refine Jm_seq ?_
    refine St_ift rfl ?_
    refine St_skip ?_
    refine Jm_seq ?_
    refine St_block ?_
    refine St_region ?_
    refine Ls_run (run_move rfl) rfl ?_
    refine Ls_run (run_add rfl rfl (w64 (by omega))) rfl ?_
    refine Ls_run (run_assign rfl) rfl ?_
    refine Ls_nil ?_
    refine Jm_block_normal ?_
    refine Jm_round (a + 1) ?_ ?_ ?_
    · rw [hEn1]; exact (subE_cons rfl (subE_cons rfl (subE_cons rfl subE_nil)))
    · skip
      rw [hIv2]
      have hin : a ∈ l ++ l2 := List.mem_append.2 (by first | exact .inl (by assumption) | exact .inr (by assumption))
      have hne : a ≠ free (l ++ l2) := fun q => hf.2.2.1 (q ▸ hin)
      exact ⟨hs, by omega, by omega⟩
    · skip
      rw [hms3, hms3]
      have hne2 : a ≠ free (l ++ l2) := fun q => hf.2.2.1 (q ▸ List.mem_append.2 (by first | exact .inl (by assumption) | exact .inr (by assumption)))
      omega
  · skip
    refine Ls_on rfl rfl ?_
    refine Ls_run (run_move rfl) rfl ?_
    refine Ls_on rfl rfl ?_
    refine Ls_run (run_move rfl) rfl ?_
    refine Ls_on rfl rfl ?_
    refine Ls_call Try.func121 nm121 rfl rfl (has_c w6 A2 n2 c2 l2 (hr2.inB hs) hn.2 _) rfl ?_
    rintro v9 w10 ⟨rfl, hsX⟩
    replace hs := hs.trans hsX
    simp only [List.nil_append, List.cons_append] at hs
    refine Ls_run (run_pick_f rfl rfl) rfl ?_
    refine Ls_nil ?_
    refine Jm_seq ?_
    refine St_ifP rfl (fun h11 => ?_) (fun h11 => ?_)
    · skip
      refine St_skip ?_
      refine Jm_seq ?_
      refine St_block ?_
      refine St_region ?_
      refine Ls_run (run_move rfl) rfl ?_
      refine Ls_run (run_add rfl rfl (w64 (by omega))) rfl ?_
      refine Ls_run (run_assign rfl) rfl ?_
      refine Ls_nil ?_
      refine Jm_block_normal ?_
      refine Jm_round (a + 1) ?_ ?_ ?_
      · rw [hEn1]; exact (subE_cons rfl (subE_cons rfl (subE_cons rfl subE_nil)))
      · skip
        rw [hIv2]
        have hin : a ∈ l ++ l2 := List.mem_append.2 (by first | exact .inl (by assumption) | exact .inr (by assumption))
        have hne : a ≠ free (l ++ l2) := fun q => hf.2.2.1 (q ▸ hin)
        exact ⟨hs, by omega, by omega⟩
      · skip
        rw [hms3, hms3]
        have hne2 : a ≠ free (l ++ l2) := fun q => hf.2.2.1 (q ▸ List.mem_append.2 (by first | exact .inl (by assumption) | exact .inr (by assumption)))
        omega
    · skip
      refine St_exit ?_
      refine Jm_then_exit (Jm_then_exit (Jm_block_same (Jm_seq ?_)))
      refine St_seq ?_
      refine St_region ?_
      refine Ls_run (run_move rfl) rfl ?_
      refine Ls_run (run_assign rfl) rfl ?_
      refine Ls_nil ?_
      refine Jm_seq ?_
      refine St_ret ?_
      refine Jm_ret1 rfl rfl ?_
      have he : a = free (l ++ l2) := free_eq ha (fun q => by rcases List.mem_append.1 q with q | q <;> contradiction) (fun q h1 h2 => hf.2.2.2 q h1 (by omega))
      exact ⟨_, rfl, by rw [he], hs⟩
set_option maxRecDepth 100000 in
set_option maxHeartbeats 1000000 in
theorem rtbytes_c (w : World) (gen : Int) (A : Option Addr) (c : Nat) (tb : List Int) (n : Nat) (hln : tb.length = n) (hr : Rd w A n c 1 (KI.flat tb)) (hg : 0 ≤ gen ∧ gen ≤ 1099511627777) (hl : tb.length ≤ 8) (hp : ∀ x ∈ tb, 0 ≤ x ∧ x ≤ 64) :
    Calls Try.prog 90 [.agg #[.int .i64 gen, .slice A n c]].toArray w (Ret (fun v' w' => ∃ A' c', v' = .slice A' (rbytes gen tb).length c' ∧ Sat w w' [Own 5 1 (.slice A' (rbytes gen tb).length c') (rbytes gen tb).length (bytesV (rbytes gen tb))])) := by
  have hs := Sat.start w
  refine Calls_body Try.func90 rfl rfl rfl (envE_cons (i := 0) (v := .agg #[.int .i64 gen, .slice A n c]) rfl envE_nil) ?_
  refine St_seq ?_
  refine St_region ?_
  refine Ls_box hs rfl rfl ?_
  intro b2 w1 hs
  refine Ls_run (run_assign rfl) rfl ?_
  refine Ls_nil ?_
  refine Jm_seq ?_
  refine St_seq ?_
  refine St_region ?_
  refine Ls_run (run_as (run_field Try.underlying120 rfl inf22 (by decide) rfl) (show _ = Value.pointer (some ⟨b2, 1, none⟩) from rfl)) rfl ?_
  refine Ls_run (run_load sc22 rfl (hs.blk_at 0 rfl 1 rfl)) rfl ?_
  refine Ls_call Try.func64 nm64 rfl rfl (Nums_ok w1 _ _ _ tb (hr.inB hs) (by omega) hp) rfl ?_
  rintro v3 w4 ⟨Anp, cnp, rfl, hsnp⟩
  replace hs := hs.trans hsnp
  simp only [List.nil_append, List.cons_append] at hs
  refine Ls_run (run_move rfl) rfl ?_
  refine Ls_run (run_extract rfl rfl) rfl ?_
  refine Ls_run (run_extract rfl rfl) rfl ?_
  refine Ls_run (run_assign rfl) rfl ?_
  refine Ls_run (run_assign rfl) rfl ?_
  refine Ls_nil ?_
  refine Jm_seq ?_
  refine St_seq ?_
  refine St_region ?_
  refine Ls_run (run_as (run_field Try.underlying120 rfl inf3 (by decide) rfl) (show _ = Value.pointer (some ⟨b2, 0, none⟩) from rfl)) rfl ?_
  refine Ls_run (run_load sc3 rfl (hs.blk_at 1 rfl 0 rfl)) rfl ?_
  refine Ls_run (run_conv_int Try.underlying38 us3 rfl (show _ = ((gen.toNat) : Int) by rw [wu64 (by omega)]; omega)) rfl ?_
  refine Ls_call Try.func62 nm62 rfl rfl (Put_c w4 gen.toNat (by omega)) rfl ?_
  rintro v5 w6 ⟨Ap1, cp1, rfl, hsp1⟩
  replace hs := hs.trans hsp1
  simp only [List.nil_append, List.cons_append] at hs
  refine Ls_run (run_move rfl) rfl ?_
  refine Ls_literal [_, _] hs Try.underlying55 inf28 rfl rfl rfl rfl rfl rfl ?_
  intro b7 w9 hs
  simp only [List.flatMap_cons, List.flatMap_nil, Value.cells, List.cons_append, List.nil_append] at hs
  have hrl := rbytes_len hg hl hp
  have efl : [pb gen.toNat, nm tb].flatten = rbytes gen tb := by simp [rbytes]
  have hsm : ([pb gen.toNat, nm tb].map List.length).sum ≤ 140737488355328 := by simp only [rbytes, List.length_append] at hrl; simp; omega
  have hrJ := (rd_block (hs.is_at 0 rfl).2 1 2 rfl)
  rw [← El.val_flat [_, _]] at hrJ
  refine Ls_call Try.func65 nm65 rfl rfl (Join_c w9 _ 2 2 _ [pb gen.toNat, nm tb] hrJ (Parts.cons (hs.rd_at 1 rfl) (Parts.cons (hs.rd_at 2 rfl) (Parts.nil _))) hsm (by decide)) rfl ?_
  rintro v10 w11 ⟨Aj, cj, rfl, hsJ⟩
  rw [efl] at hsJ ⊢
  replace hs := hs.trans hsJ
  simp only [List.nil_append, List.cons_append] at hs
  refine Ls_run (run_assign rfl) rfl ?_
  refine Ls_nil ?_
  refine Jm_seq ?_
  refine St_ret ?_
  refine Jm_ret1 rfl rfl ?_
  exact ⟨_, rfl, _, _, rfl, Sat.pre (L1 := [_]) hs⟩
set_option maxRecDepth 100000 in
set_option maxHeartbeats 1000000 in
theorem Root_c (w : World) (gen : Int) (A : Option Addr) (c : Nat) (tb : List Int) (n : Nat) (hln : tb.length = n) (hr : Rd w A n c 1 (KI.flat tb)) (hg : 0 ≤ gen ∧ gen ≤ 1099511627777) (hl : tb.length ≤ 8) (hp : ∀ x ∈ tb, 0 ≤ x ∧ x ≤ 64) :
    Calls Try.prog 99 [.int .i64 gen, .slice A n c].toArray w (Ret (fun v' w' => ∃ A' c', v' = .slice A' (rbytes gen tb).length c' ∧ Sat w w' [Own 5 1 (.slice A' (rbytes gen tb).length c') (rbytes gen tb).length (bytesV (rbytes gen tb))])) := by
  have hs := Sat.start w
  refine Calls_body Try.func99 rfl rfl rfl (envE_cons (i := 0) (v := .int .i64 gen) rfl (envE_cons (i := 1) (v := .slice A n c) rfl envE_nil)) ?_
  refine St_seq ?_
  refine St_region ?_
  refine Ls_run (run_assign rfl) rfl ?_
  refine Ls_nil ?_
  refine Jm_seq ?_
  refine St_seq ?_
  refine St_region ?_
  refine Ls_run (run_move rfl) rfl ?_
  refine Ls_call Try.func69 nm69 rfl rfl (rNums_ok w _ _ _ tb (hr.inB hs) (by omega) hp) rfl ?_
  rintro v1 w2 ⟨Anp, cnp, rfl, hsnp⟩
  replace hs := hs.trans hsnp
  simp only [List.nil_append, List.cons_append] at hs
  refine Ls_run (run_move rfl) rfl ?_
  refine Ls_run (run_extract rfl rfl) rfl ?_
  refine Ls_run (run_extract rfl rfl) rfl ?_
  refine Ls_run (run_assign rfl) rfl ?_
  refine Ls_run (run_assign rfl) rfl ?_
  refine Ls_nil ?_
  refine Jm_seq ?_
  refine St_seq ?_
  refine St_region ?_
  refine Ls_run (run_move rfl) rfl ?_
  refine Ls_run (run_conv_int Try.underlying38 us3 rfl (show _ = ((gen.toNat) : Int) by rw [wu64 (by omega)]; omega)) rfl ?_
  refine Ls_call Try.func67 nm67 rfl rfl (rPut_c w2 gen.toNat (by omega)) rfl ?_
  rintro v3 w4 ⟨Ap1, cp1, rfl, hsp1⟩
  replace hs := hs.trans hsp1
  simp only [List.nil_append, List.cons_append] at hs
  refine Ls_run (run_assign rfl) rfl ?_
  refine Ls_nil ?_
  refine Jm_seq ?_
  refine St_seq ?_
  refine St_region ?_
  refine Ls_run (run_move rfl) rfl ?_
  refine Ls_run (run_move rfl) rfl ?_
  have hrl := rbytes_len hg hl hp
  simp only [rbytes, List.length_append] at hrl
  refine Ls_append hs Try.underlying28 inf5 rfl (by decide) (by decide) rfl rfl (hs.rd_at 1 rfl) (bytesV_one' _) (by omega) rfl ?_
  intro A5 c6 w7 hs
  refine Ls_run (run_assign rfl) rfl ?_
  refine Ls_nil ?_
  refine Jm_seq ?_
  refine St_seq ?_
  refine St_region ?_
  refine Ls_run (run_move rfl) rfl ?_
  refine Ls_run (run_assign rfl) rfl ?_
  refine Ls_nil ?_
  refine Jm_seq ?_
  refine St_ret ?_
  refine Jm_ret1 rfl rfl ?_
  rw [← bytesV_append, ← List.length_append] at hs
  unfold rbytes
  exact ⟨_, by rw [← List.length_append], _, _, rfl, Sat.pre (L1 := [_]) hs⟩
set_option maxRecDepth 100000 in
set_option maxHeartbeats 1000000 in
theorem bPages_c (w : World) (bj : Nat) (p : Option Addr) (s : BSt) (A : Option Addr) (c : Nat) (hd : w.heap[bj]? = some (.cells (bcells p s A c).toArray 122 (0, 0))) :
    Calls Try.prog 51 [.pointer (some ⟨bj, 0, none⟩)].toArray w (Ret (fun v' w' => w = w' ∧ v' = .int .i64 (s.tb.length : Int))) := by
  have hs := Sat.ofBlk hd
  refine Calls_body Try.func51 rfl rfl rfl (envE_cons (i := 0) (v := .pointer (some ⟨bj, 0, none⟩)) rfl envE_nil) ?_
  refine St_seq ?_
  refine St_region ?_
  refine Ls_run (run_assign rfl) rfl ?_
  refine Ls_nil ?_
  refine Jm_seq ?_
  refine St_seq ?_
  refine St_seq ?_
  refine St_region ?_
  refine Ls_run (run_move rfl) rfl ?_
  refine Ls_run (run_asB (c := false) (run_eql_ptr_nil Try.underlying47 rfl rfl) rfl) rfl ?_
  refine Ls_nil ?_
  refine Jm_seq ?_
  refine St_iff rfl ?_
  refine St_skip ?_
  refine Jm_seq ?_
  refine St_seq ?_
  refine St_region ?_
  refine Ls_run (run_move rfl) rfl ?_
  refine Ls_run (run_nilCheck rfl) rfl ?_
  refine Ls_run (run_as (run_field Try.underlying122 rfl inf120 (by decide) rfl) (show _ = Value.pointer (some ⟨bj, 1, none⟩) from rfl)) rfl ?_
  refine Ls_run (run_as (run_field Try.underlying120 rfl inf22 (by decide) rfl) (show _ = Value.pointer (some ⟨bj, 2, none⟩) from rfl)) rfl ?_
  refine Ls_run (run_load sc22 rfl (hs.blk_at 0 rfl 2 rfl)) rfl ?_
  refine Ls_run (run_len Try.underlying22 rfl) rfl ?_
  refine Ls_run (run_assign rfl) rfl ?_
  refine Ls_nil ?_
  refine Jm_seq ?_
  refine St_ret ?_
  refine Jm_ret1 rfl rfl ?_
  exact ⟨_, rfl, rfl, rfl⟩
set_option maxRecDepth 100000 in
set_option maxHeartbeats 1000000 in
theorem bPages_nil (w : World) :
    Calls Try.prog 51 [.pointer none].toArray w (Ret (fun v' w' => w = w' ∧ v' = .int .i64 0)) := by
  refine Calls_body Try.func51 rfl rfl rfl (envE_cons (i := 0) (v := .pointer none) rfl envE_nil) ?_
  refine St_seq ?_
  refine St_region ?_
  refine Ls_run (run_assign rfl) rfl ?_
  refine Ls_nil ?_
  refine Jm_seq ?_
  refine St_seq ?_
  refine St_seq ?_
  refine St_region ?_
  refine Ls_run (run_move rfl) rfl ?_
  refine Ls_run (run_asB (c := true) (run_eql_ptr_nil Try.underlying47 rfl rfl) rfl) rfl ?_
  refine Ls_nil ?_
  refine Jm_seq ?_
  refine St_ift rfl ?_
  refine St_seq ?_
  refine St_region ?_
  refine Ls_run (run_assign rfl) rfl ?_
  refine Ls_nil ?_
  refine Jm_seq ?_
  refine St_ret ?_
  refine Jm_then_ret  ?_
  refine Jm_ret1 rfl rfl ?_
  exact ⟨_, rfl, rfl, rfl⟩
set_option maxRecDepth 100000 in
set_option maxHeartbeats 1000000 in
theorem bEnded_c (w : World) (bj : Nat) (p : Option Addr) (s : BSt) (A : Option Addr) (c : Nat) (hd : w.heap[bj]? = some (.cells (bcells p s A c).toArray 122 (0, 0))) :
    Calls Try.prog 33 [.pointer (some ⟨bj, 0, none⟩)].toArray w (Ret (fun v' w' => w = w' ∧ v' = .bool s.ended)) := by
  have hs := Sat.ofBlk hd
  refine Calls_body Try.func33 rfl rfl rfl (envE_cons (i := 0) (v := .pointer (some ⟨bj, 0, none⟩)) rfl envE_nil) ?_
  refine St_seq ?_
  refine St_region ?_
  refine Ls_run (run_assign rfl) rfl ?_
  refine Ls_nil ?_
  refine Jm_seq ?_
  refine St_seq ?_
  refine St_region ?_
  refine Ls_run (run_move rfl) rfl ?_
  refine Ls_run (run_asB (c := true) (run_neq_ptr_nil Try.underlying47 rfl rfl) rfl) rfl ?_
  refine Ls_run (run_move rfl) rfl ?_
  refine Ls_on rfl rfl ?_
  refine Ls_run (run_move rfl) rfl ?_
  refine Ls_on rfl rfl ?_
  refine Ls_run (run_nilCheck rfl) rfl ?_
  refine Ls_on rfl rfl ?_
  refine Ls_run (run_as (run_field Try.underlying122 rfl inf4 (by decide) rfl) (show _ = Value.pointer (some ⟨bj, 4, none⟩) from rfl)) rfl ?_
  refine Ls_on rfl rfl ?_
  refine Ls_run (run_load sc4 rfl (hs.blk_at 0 rfl 4 rfl)) rfl ?_
  refine Ls_run (run_pick_t rfl rfl) rfl ?_
  refine Ls_run (run_assign rfl) rfl ?_
  refine Ls_nil ?_
  refine Jm_seq ?_
  refine St_ret ?_
  refine Jm_ret1 rfl rfl ?_
  exact ⟨_, rfl, rfl, rfl⟩
set_option maxRecDepth 100000 in
set_option maxHeartbeats 1000000 in
theorem bEnded_nil (w : World) :
    Calls Try.prog 33 [.pointer none].toArray w (Ret (fun v' w' => w = w' ∧ v' = .bool false)) := by
  refine Calls_body Try.func33 rfl rfl rfl (envE_cons (i := 0) (v := .pointer none) rfl envE_nil) ?_
  refine St_seq ?_
  refine St_region ?_
  refine Ls_run (run_assign rfl) rfl ?_
  refine Ls_nil ?_
  refine Jm_seq ?_
  refine St_seq ?_
  refine St_region ?_
  refine Ls_run (run_move rfl) rfl ?_
  refine Ls_run (run_asB (c := false) (run_neq_ptr_nil Try.underlying47 rfl rfl) rfl) rfl ?_
  refine Ls_run (run_move rfl) rfl ?_
  refine Ls_off rfl rfl rfl rfl ?_
  refine Ls_off rfl rfl rfl rfl ?_
  refine Ls_off rfl rfl rfl rfl ?_
  refine Ls_off rfl rfl rfl rfl ?_
  refine Ls_run (run_pick_f rfl rfl) rfl ?_
  refine Ls_run (run_assign rfl) rfl ?_
  refine Ls_nil ?_
  refine Jm_seq ?_
  refine St_ret ?_
  refine Jm_ret1 rfl rfl ?_
  exact ⟨_, rfl, rfl, rfl⟩
set_option maxRecDepth 100000 in
set_option maxHeartbeats 1000000 in
theorem bUsed_nil (w : World) :
    Calls Try.prog 49 [.pointer none].toArray w (Ret (fun v' w' => w = w' ∧ v' = .int .i64 0)) := by
  refine Calls_body Try.func49 rfl rfl rfl (envE_cons (i := 0) (v := .pointer none) rfl envE_nil) ?_
  refine St_seq ?_
  refine St_region ?_
  refine Ls_run (run_assign rfl) rfl ?_
  refine Ls_nil ?_
  refine Jm_seq ?_
  refine St_seq ?_
  refine St_seq ?_
  refine St_region ?_
  refine Ls_run (run_move rfl) rfl ?_
  refine Ls_run (run_asB (c := true) (run_eql_ptr_nil Try.underlying47 rfl rfl) rfl) rfl ?_
  refine Ls_nil ?_
  refine Jm_seq ?_
  refine St_ift rfl ?_
  refine St_seq ?_
  refine St_region ?_
  refine Ls_run (run_assign rfl) rfl ?_
  refine Ls_nil ?_
  refine Jm_seq ?_
  refine St_ret ?_
  refine Jm_then_ret  ?_
  refine Jm_ret1 rfl rfl ?_
  exact ⟨_, rfl, rfl, rfl⟩
set_option maxRecDepth 100000 in
set_option maxHeartbeats 1000000 in
theorem bUsed_c (w : World) (bj : Nat) (p : Option Addr) (s : BSt) (A : Option Addr) (c : Nat) (hd : w.heap[bj]? = some (.cells (bcells p s A c).toArray 122 (0, 0))) (hrt : Rd w A s.tb.length c 1 (KI.flat s.tb)) (hl8 : s.tb.length ≤ 1073741824) :
    Calls Try.prog 49 [.pointer (some ⟨bj, 0, none⟩)].toArray w (Ret (fun v' w' => v' = .int .i64 (bused s.tb : Int) ∧ w = w')) := by
  have hs := Sat.ofBlk hd
  refine Calls_body Try.func49 rfl rfl rfl (envE_cons (i := 0) (v := .pointer (some ⟨bj, 0, none⟩)) rfl envE_nil) ?_
  refine St_seq ?_
  refine St_region ?_
  refine Ls_run (run_assign rfl) rfl ?_
  refine Ls_nil ?_
  refine Jm_seq ?_
  refine St_seq ?_
  refine St_seq ?_
  refine St_region ?_
  refine Ls_run (run_move rfl) rfl ?_
  refine Ls_run (run_asB (c := false) (run_eql_ptr_nil Try.underlying47 rfl rfl) rfl) rfl ?_
  refine Ls_nil ?_
  refine Jm_seq ?_
  refine St_iff rfl ?_
  refine St_skip ?_
  refine Jm_seq ?_
  refine St_seq ?_
  refine St_region ?_
  refine Ls_run (run_assign rfl) rfl ?_
  refine Ls_nil ?_
  refine Jm_seq ?_
  refine St_seq ?_
  refine St_seq ?_
  refine St_region ?_
  refine Ls_run (run_move rfl) rfl ?_
  refine Ls_run (run_nilCheck rfl) rfl ?_
  refine Ls_run (run_as (run_field Try.underlying122 rfl inf120 (by decide) rfl) (show _ = Value.pointer (some ⟨bj, 1, none⟩) from rfl)) rfl ?_
  refine Ls_run (run_as (run_field Try.underlying120 rfl inf22 (by decide) rfl) (show _ = Value.pointer (some ⟨bj, 2, none⟩) from rfl)) rfl ?_
  refine Ls_run (run_load sc22 rfl (hs.blk_at 0 rfl 2 rfl)) rfl ?_
  refine Ls_run (run_len Try.underlying22 rfl) rfl ?_
  refine Ls_run (run_move rfl) rfl ?_
  refine Ls_nil ?_
  refine Jm_seq ?_
  refine St_block ?_
  obtain ⟨En2, hEn2⟩ : ∃ F : Nat × Nat → Env, ∀ (i : Nat) (k : Nat), F (i, k) = [(12, .slice A s.tb.length c), (13, .int .i64 (s.tb.length : Int)), (3, .int .i64 (k : Int)), (14, .int .i64 (i : Int))] := ⟨(fun (sx0 : Nat × Nat) => match sx0 with | (i, k) => [(12, .slice A s.tb.length c), (13, .int .i64 (s.tb.length : Int)), (3, .int .i64 (k : Int)), (14, .int .i64 (i : Int))]), fun _ _ => rfl⟩
  obtain ⟨Iv3, hIv3⟩ : ∃ F : Nat × Nat → World → Prop, ∀ (i : Nat) (k : Nat) (wr : World), F (i, k) wr = (w = wr ∧ i ≤ s.tb.length ∧ bused (s.tb.take i) = k) := ⟨(fun (sx0 : Nat × Nat) => match sx0 with | (i, k) => fun (wr : World) => w = wr ∧ i ≤ s.tb.length ∧ bused (s.tb.take i) = k), fun _ _ _ => rfl⟩
  obtain ⟨ms4, hms4⟩ : ∃ F : Nat × Nat → Nat, ∀ (i : Nat) (k : Nat), F (i, k) = (s.tb.length - i) := ⟨(fun (sx0 : Nat × Nat) => match sx0 with | (i, k) => s.tb.length - i), fun _ _ => rfl⟩
  refine St_loop En2 Iv3 ms4 (0, 0) ?_ ?_ ?_
  · skip
    rw [hIv3]
    exact ⟨rfl, by omega, by simp [bused]⟩
  · rw [hEn2]; exact (subE_cons rfl (subE_cons rfl (subE_cons rfl (subE_cons rfl subE_nil))))
  rintro ⟨i, k⟩ wr hI5
  rw [hIv3] at hI5
  obtain ⟨rfl, hi, hk⟩ := hI5
  refine St_eqE (hEn2 _ _) ?_
  have hk9 := bused_len (s.tb.take i)
  rw [List.length_take] at hk9
  refine St_seq ?_
  refine St_region ?_
  refine Ls_run (run_lss rfl rfl) rfl ?_
  refine Ls_nil ?_
  refine Jm_seq ?_
  refine St_seq ?_
  refine St_ifP rfl (fun h6 => ?_) (fun h6 => ?_)
  · skip
    refine St_skip ?_
    refine Jm_seq ?_
    refine St_seq ?_
    refine St_block ?_
    refine St_seq ?_
    refine St_region ?_
    refine Ls_index (KI) hrt Try.underlying22 inf3 rfl rfl (by omega) (by omega) (show _ = s.tb.getD i 0 from rfl) rfl ?_
    intro b7 o8 hc9
    refine Ls_run (run_load sc3 rfl (hc9 0 _ rfl)) rfl ?_
    refine Ls_run (run_assign rfl) rfl ?_
    refine Ls_nil ?_
    refine Jm_seq ?_
    refine St_seq ?_
    refine St_region ?_
    refine Ls_run (run_move rfl) rfl ?_
    refine Ls_run (run_neq rfl rfl) rfl ?_
    refine Ls_nil ?_
    refine Jm_seq ?_
    refine St_ifP rfl (fun h10 => ?_) (fun h10 => ?_)
    · skip
      refine St_region ?_
      refine Ls_run (run_move rfl) rfl ?_
      refine Ls_run (run_add rfl rfl (w64 (by omega))) rfl ?_
      refine Ls_run (run_assign rfl) rfl ?_
      refine Ls_nil ?_
      refine Jm_block_normal (Jm_seq ?_)
      refine St_region ?_
      refine Ls_run (run_add rfl rfl (w64 (by omega))) rfl ?_
      refine Ls_run (run_move rfl) rfl ?_
      refine Ls_nil ?_
      refine Jm_round (i + 1, (k + 1)) ?_ ?_ ?_
      · rw [hEn2]; exact (subE_cons rfl (subE_cons rfl (subE_cons rfl (subE_cons rfl subE_nil))))
      · skip
        rw [hIv3]
        exact ⟨rfl, by omega, by rw [bused_take (by omega), hk]; simp_all⟩
      · skip
        rw [hms4, hms4]
        omega
    · skip
      refine St_skip ?_
      refine Jm_block_normal (Jm_seq ?_)
      refine St_region ?_
      refine Ls_run (run_add rfl rfl (w64 (by omega))) rfl ?_
      refine Ls_run (run_move rfl) rfl ?_
      refine Ls_nil ?_
      refine Jm_round (i + 1, k) ?_ ?_ ?_
      · rw [hEn2]; exact (subE_cons rfl (subE_cons rfl (subE_cons rfl (subE_cons rfl subE_nil))))
      · skip
        rw [hIv3]
        exact ⟨rfl, by omega, by rw [bused_take (by omega), hk]; simp_all⟩
      · skip
        rw [hms4, hms4]
        omega
  · skip
    refine St_exit ?_
    refine Jm_then_exit (Jm_then_exit (Jm_block_same (Jm_seq ?_)))
    refine St_seq ?_
    refine St_region ?_
    refine Ls_run (run_move rfl) rfl ?_
    refine Ls_run (run_assign rfl) rfl ?_
    refine Ls_nil ?_
    refine Jm_seq ?_
    refine St_ret ?_
    refine Jm_ret1 rfl rfl ?_
    rw [List.take_of_length_le (by omega)] at hk
    exact ⟨_, rfl, by rw [hk], rfl⟩
set_option maxRecDepth 100000 in
set_option maxHeartbeats 1000000 in
theorem qPages_c (w : World) (bj : Nat) (p : Option Addr) (s : BSt) (A : Option Addr) (c : Nat) (hd : w.heap[bj]? = some (.cells (qcells p s A c).toArray 138 (0, 0))) :
    Calls Try.prog 52 [.pointer (some ⟨bj, 0, none⟩)].toArray w (Ret (fun v' w' => w = w' ∧ v' = .int .i64 (s.tb.length : Int))) := by
  have hs := Sat.ofBlk hd
  refine Calls_body Try.func52 rfl rfl rfl (envE_cons (i := 0) (v := .pointer (some ⟨bj, 0, none⟩)) rfl envE_nil) ?_
  refine St_seq ?_
  refine St_region ?_
  refine Ls_run (run_assign rfl) rfl ?_
  refine Ls_nil ?_
  refine Jm_seq ?_
  refine St_seq ?_
  refine St_seq ?_
  refine St_region ?_
  refine Ls_run (run_move rfl) rfl ?_
  refine Ls_run (run_asB (c := false) (run_eql_ptr_nil Try.underlying74 rfl rfl) rfl) rfl ?_
  refine Ls_nil ?_
  refine Jm_seq ?_
  refine St_iff rfl ?_
  refine St_skip ?_
  refine Jm_seq ?_
  refine St_seq ?_
  refine St_region ?_
  refine Ls_run (run_move rfl) rfl ?_
  refine Ls_run (run_nilCheck rfl) rfl ?_
  refine Ls_run (run_as (run_field Try.underlying138 rfl inf22 (by decide) rfl) (show _ = Value.pointer (some ⟨bj, 1, none⟩) from rfl)) rfl ?_
  refine Ls_run (run_load sc22 rfl (hs.blk_at 0 rfl 1 rfl)) rfl ?_
  refine Ls_run (run_len Try.underlying22 rfl) rfl ?_
  refine Ls_run (run_assign rfl) rfl ?_
  refine Ls_nil ?_
  refine Jm_seq ?_
  refine St_ret ?_
  refine Jm_ret1 rfl rfl ?_
  exact ⟨_, rfl, rfl, rfl⟩
set_option maxRecDepth 100000 in
set_option maxHeartbeats 1000000 in
theorem qPages_nil (w : World) :
    Calls Try.prog 52 [.pointer none].toArray w (Ret (fun v' w' => w = w' ∧ v' = .int .i64 0)) := by
  refine Calls_body Try.func52 rfl rfl rfl (envE_cons (i := 0) (v := .pointer none) rfl envE_nil) ?_
  refine St_seq ?_
  refine St_region ?_
  refine Ls_run (run_assign rfl) rfl ?_
  refine Ls_nil ?_
  refine Jm_seq ?_
  refine St_seq ?_
  refine St_seq ?_
  refine St_region ?_
  refine Ls_run (run_move rfl) rfl ?_
  refine Ls_run (run_asB (c := true) (run_eql_ptr_nil Try.underlying74 rfl rfl) rfl) rfl ?_
  refine Ls_nil ?_
  refine Jm_seq ?_
  refine St_ift rfl ?_
  refine St_seq ?_
  refine St_region ?_
  refine Ls_run (run_assign rfl) rfl ?_
  refine Ls_nil ?_
  refine Jm_seq ?_
  refine St_ret ?_
  refine Jm_then_ret  ?_
  refine Jm_ret1 rfl rfl ?_
  exact ⟨_, rfl, rfl, rfl⟩
set_option maxRecDepth 100000 in
set_option maxHeartbeats 1000000 in
theorem qEnded_c (w : World) (bj : Nat) (p : Option Addr) (s : BSt) (A : Option Addr) (c : Nat) (hd : w.heap[bj]? = some (.cells (qcells p s A c).toArray 138 (0, 0))) :
    Calls Try.prog 53 [.pointer (some ⟨bj, 0, none⟩)].toArray w (Ret (fun v' w' => w = w' ∧ v' = .bool s.ended)) := by
  have hs := Sat.ofBlk hd
  refine Calls_body Try.func53 rfl rfl rfl (envE_cons (i := 0) (v := .pointer (some ⟨bj, 0, none⟩)) rfl envE_nil) ?_
  refine St_seq ?_
  refine St_region ?_
  refine Ls_run (run_assign rfl) rfl ?_
  refine Ls_nil ?_
  refine Jm_seq ?_
  refine St_seq ?_
  refine St_region ?_
  refine Ls_run (run_move rfl) rfl ?_
  refine Ls_run (run_asB (c := true) (run_neq_ptr_nil Try.underlying74 rfl rfl) rfl) rfl ?_
  refine Ls_run (run_move rfl) rfl ?_
  refine Ls_on rfl rfl ?_
  refine Ls_run (run_move rfl) rfl ?_
  refine Ls_on rfl rfl ?_
  refine Ls_run (run_nilCheck rfl) rfl ?_
  refine Ls_on rfl rfl ?_
  refine Ls_run (run_as (run_field Try.underlying138 rfl inf4 (by decide) rfl) (show _ = Value.pointer (some ⟨bj, 4, none⟩) from rfl)) rfl ?_
  refine Ls_on rfl rfl ?_
  refine Ls_run (run_load sc4 rfl (hs.blk_at 0 rfl 4 rfl)) rfl ?_
  refine Ls_run (run_pick_t rfl rfl) rfl ?_
  refine Ls_run (run_assign rfl) rfl ?_
  refine Ls_nil ?_
  refine Jm_seq ?_
  refine St_ret ?_
  refine Jm_ret1 rfl rfl ?_
  exact ⟨_, rfl, rfl, rfl⟩
set_option maxRecDepth 100000 in
set_option maxHeartbeats 1000000 in
theorem qEnded_nil (w : World) :
    Calls Try.prog 53 [.pointer none].toArray w (Ret (fun v' w' => w = w' ∧ v' = .bool false)) := by
  refine Calls_body Try.func53 rfl rfl rfl (envE_cons (i := 0) (v := .pointer none) rfl envE_nil) ?_
  refine St_seq ?_
  refine St_region ?_
  refine Ls_run (run_assign rfl) rfl ?_
  refine Ls_nil ?_
  refine Jm_seq ?_
  refine St_seq ?_
  refine St_region ?_
  refine Ls_run (run_move rfl) rfl ?_
  refine Ls_run (run_asB (c := false) (run_neq_ptr_nil Try.underlying74 rfl rfl) rfl) rfl ?_
  refine Ls_run (run_move rfl) rfl ?_
  refine Ls_off rfl rfl rfl rfl ?_
  refine Ls_off rfl rfl rfl rfl ?_
  refine Ls_off rfl rfl rfl rfl ?_
  refine Ls_off rfl rfl rfl rfl ?_
  refine Ls_run (run_pick_f rfl rfl) rfl ?_
  refine Ls_run (run_assign rfl) rfl ?_
  refine Ls_nil ?_
  refine Jm_seq ?_
  refine St_ret ?_
  refine Jm_ret1 rfl rfl ?_
  exact ⟨_, rfl, rfl, rfl⟩
set_option maxRecDepth 100000 in
set_option maxHeartbeats 1000000 in
theorem qUsed_nil (w : World) :
    Calls Try.prog 50 [.pointer none].toArray w (Ret (fun v' w' => w = w' ∧ v' = .int .i64 0)) := by
  refine Calls_body Try.func50 rfl rfl rfl (envE_cons (i := 0) (v := .pointer none) rfl envE_nil) ?_
  refine St_seq ?_
  refine St_region ?_
  refine Ls_run (run_assign rfl) rfl ?_
  refine Ls_nil ?_
  refine Jm_seq ?_
  refine St_seq ?_
  refine St_seq ?_
  refine St_region ?_
  refine Ls_run (run_move rfl) rfl ?_
  refine Ls_run (run_asB (c := true) (run_eql_ptr_nil Try.underlying74 rfl rfl) rfl) rfl ?_
  refine Ls_nil ?_
  refine Jm_seq ?_
  refine St_ift rfl ?_
  refine St_seq ?_
  refine St_region ?_
  refine Ls_run (run_assign rfl) rfl ?_
  refine Ls_nil ?_
  refine Jm_seq ?_
  refine St_ret ?_
  refine Jm_then_ret  ?_
  refine Jm_ret1 rfl rfl ?_
  exact ⟨_, rfl, rfl, rfl⟩
set_option maxRecDepth 100000 in
set_option maxHeartbeats 1000000 in
theorem qUsed_c (w : World) (bj : Nat) (p : Option Addr) (s : BSt) (A : Option Addr) (c : Nat) (hd : w.heap[bj]? = some (.cells (qcells p s A c).toArray 138 (0, 0))) (hrt : Rd w A s.tb.length c 1 (KI.flat s.tb)) (hl8 : s.tb.length ≤ 1073741824) :
    Calls Try.prog 50 [.pointer (some ⟨bj, 0, none⟩)].toArray w (Ret (fun v' w' => v' = .int .i64 (bused s.tb : Int) ∧ w = w')) := by
  have hs := Sat.ofBlk hd
  refine Calls_body Try.func50 rfl rfl rfl (envE_cons (i := 0) (v := .pointer (some ⟨bj, 0, none⟩)) rfl envE_nil) ?_
  refine St_seq ?_
  refine St_region ?_
  refine Ls_run (run_assign rfl) rfl ?_
  refine Ls_nil ?_
  refine Jm_seq ?_
  refine St_seq ?_
  refine St_seq ?_
  refine St_region ?_
  refine Ls_run (run_move rfl) rfl ?_
  refine Ls_run (run_asB (c := false) (run_eql_ptr_nil Try.underlying74 rfl rfl) rfl) rfl ?_
  refine Ls_nil ?_
  refine Jm_seq ?_
  refine St_iff rfl ?_
  refine St_skip ?_
  refine Jm_seq ?_
  refine St_seq ?_
  refine St_region ?_
  refine Ls_run (run_assign rfl) rfl ?_
  refine Ls_nil ?_
  refine Jm_seq ?_
  refine St_seq ?_
  refine St_seq ?_
  refine St_region ?_
  refine Ls_run (run_assign rfl) rfl ?_
  refine Ls_nil ?_
  refine Jm_seq ?_
  refine St_block ?_
  obtain ⟨En2, hEn2⟩ : ∃ F : Nat × Nat → Env, ∀ (i : Nat) (k : Nat), F (i, k) = [(0, .pointer (some ⟨bj, 0, none⟩)), (3, .int .i64 (k : Int)), (4, .int .i64 (i : Int))] := ⟨(fun (sx0 : Nat × Nat) => match sx0 with | (i, k) => [(0, .pointer (some ⟨bj, 0, none⟩)), (3, .int .i64 (k : Int)), (4, .int .i64 (i : Int))]), fun _ _ => rfl⟩
  obtain ⟨Iv3, hIv3⟩ : ∃ F : Nat × Nat → World → Prop, ∀ (i : Nat) (k : Nat) (wr : World), F (i, k) wr = (w = wr ∧ i ≤ s.tb.length ∧ bused (s.tb.take i) = k) := ⟨(fun (sx0 : Nat × Nat) => match sx0 with | (i, k) => fun (wr : World) => w = wr ∧ i ≤ s.tb.length ∧ bused (s.tb.take i) = k), fun _ _ _ => rfl⟩
  obtain ⟨ms4, hms4⟩ : ∃ F : Nat × Nat → Nat, ∀ (i : Nat) (k : Nat), F (i, k) = (s.tb.length - i) := ⟨(fun (sx0 : Nat × Nat) => match sx0 with | (i, k) => s.tb.length - i), fun _ _ => rfl⟩
  refine St_loop En2 Iv3 ms4 (0, 0) ?_ ?_ ?_
  · skip
    rw [hIv3]
    exact ⟨rfl, by omega, by simp [bused]⟩
  · rw [hEn2]; exact (subE_cons rfl (subE_cons rfl (subE_cons rfl subE_nil)))
  rintro ⟨i, k⟩ wr hI5
  rw [hIv3] at hI5
  obtain ⟨rfl, hi, hk⟩ := hI5
  refine St_eqE (hEn2 _ _) ?_
  have hk9 := bused_len (s.tb.take i)
  rw [List.length_take] at hk9
  refine St_seq ?_
  refine St_seq ?_
  refine St_region ?_
  refine Ls_run (run_move rfl) rfl ?_
  refine Ls_run (run_move rfl) rfl ?_
  refine Ls_run (run_nilCheck rfl) rfl ?_
  refine Ls_run (run_as (run_field Try.underlying138 rfl inf22 (by decide) rfl) (show _ = Value.pointer (some ⟨bj, 1, none⟩) from rfl)) rfl ?_
  refine Ls_run (run_load sc22 rfl (hs.blk_at 0 rfl 1 rfl)) rfl ?_
  refine Ls_run (run_len Try.underlying22 rfl) rfl ?_
  refine Ls_run (run_lss rfl rfl) rfl ?_
  refine Ls_nil ?_
  refine Jm_seq ?_
  refine St_ifP rfl (fun h6 => ?_) (fun h6 => ?_)
  · skip
    refine St_skip ?_
    refine Jm_seq ?_
    refine St_seq ?_
    refine St_block ?_
    refine St_seq ?_
    refine St_region ?_
    refine Ls_run (run_move rfl) rfl ?_
    refine Ls_run (run_nilCheck rfl) rfl ?_
    refine Ls_run (run_as (run_field Try.underlying138 rfl inf22 (by decide) rfl) (show _ = Value.pointer (some ⟨bj, 1, none⟩) from rfl)) rfl ?_
    refine Ls_run (run_load sc22 rfl (hs.blk_at 0 rfl 1 rfl)) rfl ?_
    refine Ls_run (run_move rfl) rfl ?_
    refine Ls_index (KI) hrt Try.underlying22 inf3 rfl rfl (by omega) (by omega) (show _ = s.tb.getD i 0 from rfl) rfl ?_
    intro b7 o8 hc9
    refine Ls_run (run_load sc3 rfl (hc9 0 _ rfl)) rfl ?_
    refine Ls_run (run_neq rfl rfl) rfl ?_
    refine Ls_nil ?_
    refine Jm_seq ?_
    refine St_ifP rfl (fun h10 => ?_) (fun h10 => ?_)
    · skip
      refine St_region ?_
      refine Ls_run (run_move rfl) rfl ?_
      refine Ls_run (run_add rfl rfl (w64 (by omega))) rfl ?_
      refine Ls_run (run_assign rfl) rfl ?_
      refine Ls_nil ?_
      refine Jm_block_normal (Jm_seq ?_)
      refine St_region ?_
      refine Ls_run (run_move rfl) rfl ?_
      refine Ls_run (run_add rfl rfl (w64 (by omega))) rfl ?_
      refine Ls_run (run_assign rfl) rfl ?_
      refine Ls_nil ?_
      refine Jm_round (i + 1, (k + 1)) ?_ ?_ ?_
      · rw [hEn2]; exact (subE_cons rfl (subE_cons rfl (subE_cons rfl subE_nil)))
      · skip
        rw [hIv3]
        exact ⟨rfl, by omega, by rw [bused_take (by omega), hk]; simp_all⟩
      · skip
        rw [hms4, hms4]
        omega
    · skip
      refine St_skip ?_
      refine Jm_block_normal (Jm_seq ?_)
      refine St_region ?_
      refine Ls_run (run_move rfl) rfl ?_
      refine Ls_run (run_add rfl rfl (w64 (by omega))) rfl ?_
      refine Ls_run (run_assign rfl) rfl ?_
      refine Ls_nil ?_
      refine Jm_round (i + 1, k) ?_ ?_ ?_
      · rw [hEn2]; exact (subE_cons rfl (subE_cons rfl (subE_cons rfl subE_nil)))
      · skip
        rw [hIv3]
        exact ⟨rfl, by omega, by rw [bused_take (by omega), hk]; simp_all⟩
      · skip
        rw [hms4, hms4]
        omega
  · skip
    refine St_exit ?_
    refine Jm_then_exit (Jm_then_exit (Jm_block_same (Jm_seq ?_)))
    refine St_seq ?_
    refine St_region ?_
    refine Ls_run (run_move rfl) rfl ?_
    refine Ls_run (run_assign rfl) rfl ?_
    refine Ls_nil ?_
    refine Jm_seq ?_
    refine St_ret ?_
    refine Jm_ret1 rfl rfl ?_
    rw [List.take_of_length_le (by omega)] at hk
    exact ⟨_, rfl, by rw [hk], rfl⟩
end Go.Proofs.Ytipkfdeiallifaa.Lg
