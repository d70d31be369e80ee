/-
  More of the wire's functions and of its reference, walked. By program (gen/wire3.py).
-/
import Derived.Test.YtipkfdeiallifaaWire1
import Derived.Test.YtipkfdeiallifaaMp
set_option linter.unusedVariables false
set_option linter.unusedSimpArgs false
namespace Go.Proofs.Ytipkfdeiallifaa.Lg
open Go Go.RowKit Go.Proofs.Ytipkfdeiallifaa.WirePure

theorem tmod_nat (a b : Nat) : Int.tmod (a : Int) (b : Int) = ((a % b : Nat) : Int) := by
  rw [Int.tmod_eq_emod_of_nonneg (Int.natCast_nonneg a)]; simp
theorem tdiv_nat (a b : Nat) : Int.tdiv (a : Int) (b : Int) = ((a / b : Nat) : Int) := by
  rw [Int.tdiv_eq_ediv_of_nonneg (Int.natCast_nonneg a)]; simp
theorem rem_u (a b : Nat) (r : Int) (h : ((a % b : Nat) : Int) = r) : Int.tmod (a : Int) (b : Int) = r := by rw [tmod_nat, h]
theorem quo_u (a b : Nat) (ha : a < 18446744073709551616) : IntKind.u64.wrap (Int.tdiv (a : Int) (b : Int)) = ((a / b : Nat) : Int) := by
  rw [tdiv_nat]
  have := Nat.div_le_self a b
  generalize a / b = q at *
  exact wu64 (by omega)
set_option maxRecDepth 100000 in
set_option maxHeartbeats 1000000 in
theorem Grow_c (w : World) (m : Nat) (hm : m ≤ 140737488355328) :
    Calls Try.prog 123 [.slice none 0 0, .int .i64 (m : Int)].toArray w (Ret (fun v' w' => ∃ A c, v' = .slice A 0 c ∧ Sat w w' [Own 5 1 v' 0 []])) := by
  have hs := Sat.start w
  refine Calls_body Try.func123 rfl rfl rfl (envE_cons (i := 0) (v := .slice none 0 0) rfl (envE_cons (i := 1) (v := .int .i64 (m : Int)) rfl envE_nil)) ?_
  refine St_seq ?_
  refine St_region ?_
  refine Ls_run (run_assign rfl) rfl ?_
  refine Ls_nil ?_
  refine Jm_seq ?_
  refine St_seq ?_
  refine St_seq ?_
  refine St_region ?_
  refine Ls_run (run_move rfl) rfl ?_
  refine Ls_run (run_lss rfl rfl) rfl ?_
  refine Ls_nil ?_
  refine Jm_seq ?_
  refine St_ifP rfl (fun h1 => ?_) (fun h1 => ?_)
  · skip
    exfalso; omega
  · skip
    refine St_skip ?_
    refine Jm_seq ?_
    refine St_seq ?_
    refine St_seq ?_
    refine St_region ?_
    refine Ls_run (run_move rfl) rfl ?_
    refine Ls_run (run_move rfl) rfl ?_
    refine Ls_run (run_cap Try.underlying28 rfl) rfl ?_
    refine Ls_run (run_move rfl) rfl ?_
    refine Ls_run (run_len Try.underlying28 rfl) rfl ?_
    refine Ls_run (run_sub rfl rfl (w64 (by omega))) rfl ?_
    refine Ls_run (run_sub rfl rfl (show _ = (m : Int) by rw [w64 (by omega)]; omega)) rfl ?_
    refine Ls_run (run_assign rfl) rfl ?_
    refine Ls_nil ?_
    refine Jm_seq ?_
    refine St_seq ?_
    refine St_region ?_
    refine Ls_run (run_move rfl) rfl ?_
    refine Ls_run (run_gtr rfl rfl) rfl ?_
    refine Ls_nil ?_
    refine Jm_seq ?_
    refine St_ifP rfl (fun h2 => ?_) (fun h2 => ?_)
    · skip
      refine St_region ?_
      refine Ls_run (run_move rfl) rfl ?_
      refine Ls_run (run_move rfl) rfl ?_
      refine Ls_run (run_cap Try.underlying28 rfl) rfl ?_
      refine Ls_run (run_slice_h Try.underlying28 inf5 rfl rfl (by omega) (by omega)) rfl ?_
      refine Ls_run (run_move rfl) rfl ?_
      refine Ls_appendZeros hs Try.underlying28 Try.underlying3 inf5 rfl rfl rfl (by omega) (by omega) (by omega) rfl ?_
      intro bz cz wz hcz hs
      refine Ls_run (run_move rfl) rfl ?_
      refine Ls_run (run_len Try.underlying28 rfl) rfl ?_
      refine Ls_run (run_slice_h Try.underlying28 inf5 rfl rfl (by omega) (by omega)) rfl ?_
      refine Ls_run (run_assign rfl) rfl ?_
      refine Ls_nil ?_
      refine Jm_seq ?_
      refine St_seq ?_
      refine St_region ?_
      refine Ls_run (run_move rfl) rfl ?_
      refine Ls_run (run_assign rfl) rfl ?_
      refine Ls_nil ?_
      refine Jm_seq ?_
      refine St_ret ?_
      refine Jm_ret1 rfl rfl ?_
      exact ⟨_, rfl, _, _, rfl, hs.own_shrink 0 (by omega)⟩
    · skip
      refine St_skip ?_
      refine Jm_seq ?_
      refine St_seq ?_
      refine St_region ?_
      refine Ls_run (run_move rfl) rfl ?_
      refine Ls_run (run_assign rfl) rfl ?_
      refine Ls_nil ?_
      refine Jm_seq ?_
      refine St_ret ?_
      refine Jm_ret1 rfl rfl ?_
      exact ⟨_, rfl, _, _, rfl, hs.own_nil _ _⟩
set_option maxRecDepth 100000 in
set_option maxHeartbeats 1000000 in
theorem Concat_c (w : World) (A : Option Addr) (n c : Nat) (vs : List Value) (ls : List (List Int)) (hr : Rd w A n c 1 (El.val.flat vs)) (hp : Parts w vs ls) (hn : (ls.map List.length).sum ≤ 140737488355328) (hn2 : n ≤ 140737488355328) :
    Calls Try.prog 110 [.slice A n c].toArray w (Ret (fun v' w' => ∃ A' c', v' = .slice A' ls.flatten.length c' ∧ Sat w w' [Own 5 1 v' ls.flatten.length (bytesV ls.flatten)])) := by
  have hs := Sat.start w
  have hvl : vs.length = n := by have := hr.len; rw [El.flat_length] at this; simpa [El.val] using this
  have hll : ls.length = n := by have := hp.1; omega
  refine Calls_body Try.func110 rfl rfl rfl (envE_cons (i := 0) (v := .slice A n c) rfl envE_nil) ?_
  refine St_seq ?_
  refine St_region ?_
  refine Ls_run (run_assign rfl) rfl ?_
  refine Ls_nil ?_
  refine Jm_seq ?_
  refine St_seq ?_
  refine St_region ?_
  refine Ls_run (run_assign rfl) rfl ?_
  refine Ls_nil ?_
  refine Jm_seq ?_
  refine St_seq ?_
  refine St_seq ?_
  refine St_region ?_
  refine Ls_run (run_move rfl) rfl ?_
  refine Ls_run (run_len Try.underlying55 rfl) rfl ?_
  refine Ls_run (run_move rfl) rfl ?_
  refine Ls_nil ?_
  refine Jm_seq ?_
  refine St_block ?_
  obtain ⟨En1, hEn1⟩ : ∃ F : Nat × Nat → Env, ∀ (i : Nat) (sz : Nat), F (i, sz) = [(0, .slice A n c), (9, .slice A n c), (10, .int .i64 (n : Int)), (11, .int .i64 (i : Int)), (3, .int .i64 (sz : Int))] := ⟨(fun (s : Nat × Nat) => match s with | (i, sz) => [(0, .slice A n c), (9, .slice A n c), (10, .int .i64 (n : Int)), (11, .int .i64 (i : Int)), (3, .int .i64 (sz : Int))]), fun _ _ => rfl⟩
  obtain ⟨Iv2, hIv2⟩ : ∃ F : Nat × Nat → World → Prop, ∀ (i : Nat) (sz : Nat) (wr : World), F (i, sz) wr = (Sat w wr [] ∧ i ≤ n ∧ sz = upto ls i) := ⟨(fun (s : Nat × Nat) => match s with | (i, sz) => fun (wr : World) => Sat w wr [] ∧ i ≤ n ∧ sz = upto ls i), fun _ _ _ => rfl⟩
  obtain ⟨ms3, hms3⟩ : ∃ F : Nat × Nat → Nat, ∀ (i : Nat) (sz : Nat), F (i, sz) = (n - i) := ⟨(fun (s : Nat × Nat) => match s with | (i, sz) => n - i), fun _ _ => rfl⟩
  refine St_loop En1 Iv2 ms3 (0, 0) ?_ ?_ ?_
  · skip
    rw [hIv2]
    exact ⟨hs, by omega, by simp [upto]⟩
  · rw [hEn1]; exact (subE_cons rfl (subE_cons rfl (subE_cons rfl (subE_cons rfl (subE_cons rfl subE_nil)))))
  rintro ⟨i, sz⟩ wr hI4
  rw [hIv2] at hI4
  obtain ⟨hs, hi, hsz⟩ := hI4
  refine St_eqE (hEn1 _ _) ?_
  have hle0 := upto_le ls i
  refine St_seq ?_
  refine St_region ?_
  refine Ls_run (run_lss rfl rfl) rfl ?_
  refine Ls_nil ?_
  refine Jm_seq ?_
  refine St_seq ?_
  refine St_ifP rfl (fun h5 => ?_) (fun h5 => ?_)
  · skip
    refine St_skip ?_
    refine Jm_seq ?_
    refine St_seq ?_
    refine St_block ?_
    refine St_seq ?_
    refine St_region ?_
    obtain ⟨Ai, ni, ci, hvi, hri⟩ := hp.2 i (by have := hp.1; omega)
    have hli := rdB_len hri
    have hus := upto_succ ls i (by omega)
    have hle := upto_le ls (i + 1)
    refine Ls_index (El.val) (hr.inB hs) Try.underlying55 inf28 rfl rfl (by omega) (by omega) hvi rfl ?_
    intro b6 o7 hc8
    refine Ls_run (run_load sc28 rfl (hc8 0 _ rfl)) rfl ?_
    refine Ls_run (run_assign rfl) rfl ?_
    refine Ls_nil ?_
    refine Jm_seq ?_
    refine St_seq ?_
    refine St_region ?_
    refine Ls_run (run_move rfl) rfl ?_
    refine Ls_run (run_move rfl) rfl ?_
    refine Ls_run (run_len Try.underlying28 rfl) rfl ?_
    refine Ls_run (run_add rfl rfl (w64 (by omega))) rfl ?_
    refine Ls_run (run_assign rfl) rfl ?_
    refine Ls_nil ?_
    refine Jm_seq ?_
    refine St_seq ?_
    refine St_region ?_
    refine Ls_run (run_move rfl) rfl ?_
    refine Ls_run (run_lss rfl rfl) rfl ?_
    refine Ls_nil ?_
    refine Jm_seq ?_
    refine St_ifP rfl (fun h9 => ?_) (fun h9 => ?_)
    · skip
      exfalso; omega
    · skip
      refine St_skip ?_
      refine Jm_block_normal (Jm_seq ?_)
      refine St_region ?_
      refine Ls_run (run_add rfl rfl (w64 (by omega))) rfl ?_
      refine Ls_run (run_move rfl) rfl ?_
      refine Ls_nil ?_
      refine Jm_round (i + 1, sz + ni) ?_ ?_ ?_
      · rw [hEn1]; exact (subE_cons rfl (subE_cons rfl (subE_cons rfl (subE_cons rfl (subE_cons rfl subE_nil)))))
      · skip
        rw [hIv2]
        exact ⟨hs, by omega, by omega⟩
      · skip
        rw [hms3, hms3]
        omega
  · skip
    refine St_exit ?_
    refine Jm_then_exit (Jm_then_exit (Jm_block_same (Jm_seq ?_)))
    refine St_seq ?_
    refine St_region ?_
    refine Ls_run (run_move rfl) rfl ?_
    have hi : i = n := by omega
    have hle2 := upto_le ls i
    refine Ls_call Try.func123 nm123 rfl rfl (Grow_c wr sz (by omega)) rfl ?_
    rintro v10 w11 ⟨AG, cG, rfl, hsG⟩
    replace hs := hs.trans hsG
    refine Ls_run (run_assign rfl) rfl ?_
    refine Ls_nil ?_
    refine Jm_seq ?_
    refine St_seq ?_
    refine St_seq ?_
    refine St_region ?_
    refine Ls_run (run_move rfl) rfl ?_
    refine Ls_run (run_len Try.underlying55 rfl) rfl ?_
    refine Ls_run (run_move rfl) rfl ?_
    refine Ls_nil ?_
    refine Jm_seq ?_
    refine St_block ?_
    obtain ⟨En12, hEn12⟩ : ∃ F : Nat × Value × Nat → Env, ∀ (i : Nat) (v : Value) (m : Nat), F (i, v, m) = [(25, .slice A n c), (26, .int .i64 (n : Int)), (27, .int .i64 (i : Int)), (6, v)] := ⟨(fun (s : Nat × Value × Nat) => match s with | (i, v, m) => [(25, .slice A n c), (26, .int .i64 (n : Int)), (27, .int .i64 (i : Int)), (6, v)]), fun _ _ _ => rfl⟩
    obtain ⟨Iv13, hIv13⟩ : ∃ F : Nat × Value × Nat → World → Prop, ∀ (i : Nat) (v : Value) (m : Nat) (wr2 : World), F (i, v, m) wr2 = (Sat w wr2 [Own 5 1 v m (bytesV (ls.take i).flatten)] ∧ i ≤ n ∧ m = upto ls i) := ⟨(fun (s : Nat × Value × Nat) => match s with | (i, v, m) => fun (wr2 : World) => Sat w wr2 [Own 5 1 v m (bytesV (ls.take i).flatten)] ∧ i ≤ n ∧ m = upto ls i), fun _ _ _ _ => rfl⟩
    obtain ⟨ms14, hms14⟩ : ∃ F : Nat × Value × Nat → Nat, ∀ (i : Nat) (v : Value) (m : Nat), F (i, v, m) = (n - i) := ⟨(fun (s : Nat × Value × Nat) => match s with | (i, v, m) => n - i), fun _ _ _ => rfl⟩
    refine St_loop En12 Iv13 ms14 (0, Value.slice AG 0 cG, 0) ?_ ?_ ?_
    · skip
      rw [hIv13]
      exact ⟨by simpa [bytesV] using hs, by omega, by simp [upto]⟩
    · rw [hEn12]; exact (subE_cons rfl (subE_cons rfl (subE_cons rfl (subE_cons rfl subE_nil))))
    rintro ⟨i, v, m⟩ wr2 hI15
    rw [hIv13] at hI15
    obtain ⟨hs, hi, hm⟩ := hI15
    refine St_eqE (hEn12 _ _ _) ?_
    refine St_seq ?_
    refine St_region ?_
    refine Ls_run (run_lss rfl rfl) rfl ?_
    refine Ls_nil ?_
    refine Jm_seq ?_
    refine St_seq ?_
    refine St_ifP rfl (fun h16 => ?_) (fun h16 => ?_)
    · skip
      refine St_skip ?_
      refine Jm_seq ?_
      refine St_seq ?_
      refine St_block ?_
      refine St_seq ?_
      refine St_region ?_
      obtain ⟨Ai, ni, ci, hvi, hri⟩ := hp.2 i (by have := hp.1; omega)
      have hli := rdB_len hri
      have hus := upto_succ ls i (by omega)
      have hle := upto_le ls (i + 1)
      refine Ls_index (El.val) (hr.inB hs) Try.underlying55 inf28 rfl rfl (by omega) (by omega) hvi rfl ?_
      intro b17 o18 hc19
      refine Ls_run (run_load sc28 rfl (hc19 0 _ rfl)) rfl ?_
      refine Ls_run (run_assign rfl) rfl ?_
      refine Ls_nil ?_
      refine Jm_seq ?_
      refine St_region ?_
      refine Ls_run (run_move rfl) rfl ?_
      refine Ls_run (run_move rfl) rfl ?_
      refine Ls_append hs Try.underlying28 inf5 rfl (by decide) (by decide) rfl rfl (hri.inB hs) (bytesV_one' _) (by omega) rfl ?_
      intro A20 c21 w22 hs
      refine Ls_run (run_assign rfl) rfl ?_
      refine Ls_nil ?_
      refine Jm_block_normal (Jm_seq ?_)
      refine St_region ?_
      refine Ls_run (run_add rfl rfl (w64 (by omega))) rfl ?_
      refine Ls_run (run_move rfl) rfl ?_
      refine Ls_nil ?_
      refine Jm_round (i + 1, Value.slice A20 (m + ni) c21, m + ni) ?_ ?_ ?_
      · rw [hEn12]; exact (subE_cons rfl (subE_cons rfl (subE_cons rfl (subE_cons rfl subE_nil))))
      · skip
        rw [hIv13]
        refine ⟨?_, by omega, by omega⟩
        rw [flat_take_succ ls i (by omega), bytesV_append]; exact hs
      · skip
        rw [hms14, hms14]
        omega
    · skip
      refine St_exit ?_
      refine Jm_then_exit (Jm_then_exit (Jm_block_same (Jm_seq ?_)))
      refine St_seq ?_
      refine St_region ?_
      refine Ls_run (run_move rfl) rfl ?_
      refine Ls_run (run_assign rfl) rfl ?_
      refine Ls_nil ?_
      refine Jm_seq ?_
      refine St_ret ?_
      refine Jm_ret1 rfl rfl ?_
      have hi : i = n := by omega
      have e1 : ls.take i = ls := List.take_of_length_le (by omega)
      have e2 : m = ls.flatten.length := by rw [flat_len, ← upto_all, hm, hll, hi]
      rw [e1] at hs
      obtain ⟨A9, c9, rfl, _, _, _⟩ := hs.own_form
      subst e2
      exact ⟨_, rfl, _, _, rfl, hs⟩
set_option maxRecDepth 100000 in
set_option maxHeartbeats 1000000 in
theorem Join_c (w : World) (A : Option Addr) (n c : Nat) (vs : List Value) (ls : List (List Int)) (hr : Rd w A n c 1 (El.val.flat vs)) (hp : Parts w vs ls) (hn : (ls.map List.length).sum ≤ 140737488355328) (hn2 : n ≤ 140737488355328) :
    Calls Try.prog 65 [.slice A n c].toArray w (Ret (fun v' w' => ∃ A' c', v' = .slice A' ls.flatten.length c' ∧ Sat w w' [Own 5 1 v' ls.flatten.length (bytesV ls.flatten)])) := by
  refine Calls_body Try.func65 rfl rfl rfl (envE_cons (i := 0) (v := .slice A n c) rfl envE_nil) ?_
  refine St_seq ?_
  refine St_region ?_
  refine Ls_run (run_assign rfl) rfl ?_
  refine Ls_nil ?_
  refine Jm_seq ?_
  refine St_seq ?_
  refine St_region ?_
  refine Ls_run (run_move rfl) rfl ?_
  refine Ls_call Try.func110 nm110 rfl rfl (Concat_c w _ _ _ vs ls hr hp hn hn2) rfl ?_
  rintro v1 w2 ⟨AG, cG, rfl, hs⟩
  refine Ls_run (run_assign rfl) rfl ?_
  refine Ls_nil ?_
  refine Jm_seq ?_
  refine St_ret ?_
  refine Jm_ret1 rfl rfl ?_
  exact ⟨_, rfl, _, _, rfl, hs⟩
set_option maxRecDepth 100000 in
set_option maxHeartbeats 1000000 in
theorem Clone_c (w : World) (A : Option Addr) (n c : Nat) (l : List Int) (hr : Rd w A n c 1 (bytesV l)) (hn : n ≤ 140737488355328) :
    Calls Try.prog 118 [.slice A n c].toArray w (Ret (fun v' w' => ∃ A' c', v' = .slice A' n c' ∧ Sat w w' [Own 5 1 v' n (bytesV l)])) := by
  have hs := Sat.start w
  have hl : l.length = n := rdB_len hr
  have hnc := hr.cap
  refine Calls_body Try.func118 rfl rfl rfl (envE_cons (i := 0) (v := .slice A n c) rfl envE_nil) ?_
  refine St_seq ?_
  refine St_region ?_
  refine Ls_run (run_assign rfl) rfl ?_
  refine Ls_nil ?_
  refine Jm_seq ?_
  refine St_seq ?_
  refine St_seq ?_
  refine St_region ?_
  refine Ls_run (run_move rfl) rfl ?_
  refine Ls_run (run_eql_slice_nil Try.underlying28 rfl rfl) rfl ?_
  refine Ls_nil ?_
  refine Jm_seq ?_
  refine St_if rfl (fun h1 => ?_) (fun h1 => ?_)
  · skip
    refine St_seq ?_
    refine St_region ?_
    refine Ls_run (run_assign rfl) rfl ?_
    refine Ls_nil ?_
    refine Jm_seq ?_
    refine St_ret ?_
    refine Jm_then_ret  ?_
    refine Jm_ret1 rfl rfl ?_
    have hA : A = none := by simpa using h1
    have hc := hr.nil hA
    have hn0 : n = 0 := by omega
    have hl0 : l = [] := List.eq_nil_of_length_eq_zero (by omega)
    subst hA hn0 hl0
    exact ⟨_, rfl, _, _, rfl, hs.own_nil _ _⟩
  · skip
    refine St_skip ?_
    refine Jm_seq ?_
    refine St_seq ?_
    refine St_region ?_
    refine Ls_literal [] hs Try.underlying28 inf5 rfl rfl rfl rfl rfl rfl ?_
    intro b2 w3 hs
    simp only [List.flatMap_cons, List.flatMap_nil, Value.cells, List.cons_append, List.nil_append] at hs
    replace hs := Sat.own_block hs 1 0 rfl (by decide)
    refine Ls_run (run_move rfl) rfl ?_
    refine Ls_append hs Try.underlying28 inf5 rfl (by decide) (by decide) rfl rfl (hr.inB hs) (bytesV_one' _) (by omega) rfl ?_
    intro A4 c5 w6 hs
    refine Ls_run (run_assign rfl) rfl ?_
    refine Ls_nil ?_
    refine Jm_seq ?_
    refine St_ret ?_
    refine Jm_ret1 rfl rfl ?_
    simp only [Nat.zero_add, List.nil_append] at hs ⊢
    exact ⟨_, rfl, _, _, rfl, hs⟩
set_option maxRecDepth 100000 in
set_option maxHeartbeats 1000000 in
theorem rPut_c (w : World) (x0 : Nat) (hx : x0 < 18446744073709551616) :
    Calls Try.prog 67 [.int .u64 (x0 : Int)].toArray w (Ret (fun v' w' => ∃ A c, v' = .slice A (pb x0).length c ∧ Sat w w' [Own 5 1 v' (pb x0).length (bytesV (pb x0))])) := by
  have hs := Sat.start w
  have h10 := pb_len10 hx
  refine Calls_body Try.func67 rfl rfl rfl (envE_cons (i := 0) (v := .int .u64 (x0 : Int)) rfl envE_nil) ?_
  refine St_seq ?_
  refine St_region ?_
  refine Ls_run (run_assign rfl) rfl ?_
  refine Ls_nil ?_
  refine Jm_seq ?_
  refine St_seq ?_
  refine St_region ?_
  refine Ls_literal [] hs Try.underlying28 inf5 rfl rfl rfl rfl rfl rfl ?_
  intro b1 w2 hs
  simp only [List.flatMap_cons, List.flatMap_nil, Value.cells, List.cons_append, List.nil_append] at hs
  replace hs := Sat.own_block hs 1 0 rfl (by decide)
  refine Ls_run (run_assign rfl) rfl ?_
  refine Ls_nil ?_
  refine Jm_seq ?_
  refine St_seq ?_
  refine St_block ?_
  obtain ⟨En3, hEn3⟩ : ∃ F : Nat × Value × Nat × List Int → Env, ∀ (x : Nat) (v : Value) (m : Nat) (ys : List Int), F (x, v, m, ys) = [(3, v), (0, .int .u64 (x : Int))] := ⟨(fun (s : Nat × Value × Nat × List Int) => match s with | (x, v, m, ys) => [(3, v), (0, .int .u64 (x : Int))]), fun _ _ _ _ => rfl⟩
  obtain ⟨Iv4, hIv4⟩ : ∃ F : Nat × Value × Nat × List Int → World → Prop, ∀ (x : Nat) (v : Value) (m : Nat) (ys : List Int) (wr : World), F (x, v, m, ys) wr = (Sat w wr [Own 5 1 v m (bytesV ys)] ∧ x < 18446744073709551616 ∧ ys ++ pb x = pb x0 ∧ m + (pb x).length = (pb x0).length) := ⟨(fun (s : Nat × Value × Nat × List Int) => match s with | (x, v, m, ys) => fun (wr : World) => Sat w wr [Own 5 1 v m (bytesV ys)] ∧ x < 18446744073709551616 ∧ ys ++ pb x = pb x0 ∧ m + (pb x).length = (pb x0).length), fun _ _ _ _ _ => rfl⟩
  obtain ⟨ms5, hms5⟩ : ∃ F : Nat × Value × Nat × List Int → Nat, ∀ (x : Nat) (v : Value) (m : Nat) (ys : List Int), F (x, v, m, ys) = (x) := ⟨(fun (s : Nat × Value × Nat × List Int) => match s with | (x, v, m, ys) => x), fun _ _ _ _ => rfl⟩
  refine St_loop En3 Iv4 ms5 (x0, (Value.slice (some ⟨b1, 0, none⟩) 0 0), 0, []) ?_ ?_ ?_
  · skip
    rw [hIv4]
    exact ⟨hs, hx, rfl, by omega⟩
  · rw [hEn3]; exact (subE_cons rfl (subE_cons rfl subE_nil))
  rintro ⟨x, v, m, ys⟩ wr hI6
  rw [hIv4] at hI6
  obtain ⟨hs, hx, hp, hl⟩ := hI6
  refine St_eqE (hEn3 _ _ _ _) ?_
  have hpos := pb_pos x
  refine St_seq ?_
  refine St_seq ?_
  refine St_region ?_
  refine Ls_run (run_move rfl) rfl ?_
  refine Ls_run (run_geq rfl rfl) rfl ?_
  refine Ls_nil ?_
  refine Jm_seq ?_
  refine St_ifP rfl (fun h7 => ?_) (fun h7 => ?_)
  · skip
    refine St_skip ?_
    refine Jm_seq ?_
    refine St_block ?_
    refine St_seq ?_
    refine St_region ?_
    refine Ls_run (run_move rfl) rfl ?_
    refine Ls_run (run_move rfl) rfl ?_
    refine Ls_run (run_rem rfl rfl (by decide) (rem_u x 128 _ rfl)) rfl ?_
    refine Ls_run (run_conv_int Try.underlying5 us38 rfl (wu8 (by omega))) rfl ?_
    refine Ls_run (run_add rfl rfl (show _ = ((x % 128 + 128 : Nat) : Int) by rw [wu8 (by omega)]; omega)) rfl ?_
    refine Ls_literal [_] hs Try.underlying28 inf5 rfl rfl rfl rfl rfl rfl ?_
    intro b8 w9 hs
    simp only [List.flatMap_cons, List.flatMap_nil, Value.cells, List.cons_append, List.nil_append] at hs
    replace hs := hs.front 1 rfl
    simp only [List.cons_append, List.nil_append, List.eraseIdx_cons_zero, List.eraseIdx_cons_succ] at hs
    refine Ls_append hs Try.underlying28 inf5 rfl (by decide) (by decide) rfl rfl (rd_block (hs.is_at 1 rfl).2 1 1 rfl) (by simp [Value.oneCell']) (by omega) rfl ?_
    intro A10 c11 w12 hs
    replace hs := hs.erase 1
    simp only [List.cons_append, List.nil_append, List.eraseIdx_cons_zero, List.eraseIdx_cons_succ] at hs
    refine Ls_run (run_assign rfl) rfl ?_
    refine Ls_nil ?_
    refine Jm_seq ?_
    refine St_region ?_
    refine Ls_run (run_move rfl) rfl ?_
    refine Ls_run (run_quo rfl rfl (by decide) (quo_u x 128 hx)) rfl ?_
    refine Ls_run (run_assign rfl) rfl ?_
    refine Ls_nil ?_
    refine Jm_block_normal ?_
    rw [pb_big (n := x) (by omega)] at hp hl
    simp only [List.length_cons] at hl
    refine Jm_round (x / 128, Value.slice A10 (m + 1) c11, m + 1, ys ++ [((x % 128 + 128 : Nat) : Int)]) ?_ ?_ ?_
    · rw [hEn3]; exact (subE_cons rfl (subE_cons rfl subE_nil))
    · skip
      rw [hIv4]
      refine ⟨?_, by omega, ?_, by omega⟩
      · rw [bytesV_append]; exact hs
      · rw [← hp]; simp
    · skip
      rw [hms5, hms5]
      omega
  · skip
    refine St_exit ?_
    refine Jm_then_exit (Jm_then_exit (Jm_block_same (Jm_seq ?_)))
    refine St_seq ?_
    refine St_region ?_
    refine Ls_run (run_move rfl) rfl ?_
    refine Ls_run (run_move rfl) rfl ?_
    refine Ls_run (run_conv_int Try.underlying5 us38 rfl rfl) rfl ?_
    refine Ls_literal [_] hs Try.underlying28 inf5 rfl rfl rfl rfl rfl rfl ?_
    intro b13 w14 hs
    simp only [List.flatMap_cons, List.flatMap_nil, Value.cells, List.cons_append, List.nil_append] at hs
    replace hs := hs.front 1 rfl
    simp only [List.cons_append, List.nil_append, List.eraseIdx_cons_zero, List.eraseIdx_cons_succ] at hs
    refine Ls_append hs Try.underlying28 inf5 rfl (by decide) (by decide) rfl rfl (rd_block (hs.is_at 1 rfl).2 1 1 rfl) (by simp [Value.oneCell']) (by omega) rfl ?_
    intro A15 c16 w17 hs
    replace hs := hs.erase 1
    simp only [List.cons_append, List.nil_append, List.eraseIdx_cons_zero, List.eraseIdx_cons_succ] at hs
    refine Ls_run (run_assign rfl) rfl ?_
    refine Ls_nil ?_
    refine Jm_seq ?_
    refine St_seq ?_
    refine St_region ?_
    refine Ls_run (run_move rfl) rfl ?_
    refine Ls_run (run_assign rfl) rfl ?_
    refine Ls_nil ?_
    refine Jm_seq ?_
    refine St_ret ?_
    refine Jm_ret1 rfl rfl ?_
    rw [pb_small (n := x) (by omega)] at hp hl
    have e : IntKind.u8.wrap (x : Int) = (x : Int) := wu8 (by omega)
    rw [e] at hs
    have e2 : m + 1 = (pb x0).length := by simpa using hl
    rw [e2] at hs
    have e3 : bytesV (pb x0) = bytesV ys ++ bytesV [(x : Int)] := by rw [← hp, bytesV_append]
    rw [e2, e3]
    exact ⟨_, rfl, _, _, rfl, hs⟩
set_option maxRecDepth 100000 in
set_option maxHeartbeats 1000000 in
theorem rWord_c (w : World) (x0 : Nat) (hx : x0 < 18446744073709551616) :
    Calls Try.prog 70 [.int .u64 (x0 : Int)].toArray w (Ret (fun v' w' => ∃ A c, v' = .slice A 8 c ∧ Sat w w' [Own 5 1 v' 8 (bytesV (wd 8 x0))])) := by
  have hs := Sat.start w
  refine Calls_body Try.func70 rfl rfl rfl (envE_cons (i := 0) (v := .int .u64 (x0 : Int)) rfl envE_nil) ?_
  refine St_seq ?_
  refine St_region ?_
  refine Ls_run (run_assign rfl) rfl ?_
  refine Ls_nil ?_
  refine Jm_seq ?_
  refine St_seq ?_
  refine St_region ?_
  refine Ls_literal [] hs Try.underlying28 inf5 rfl rfl rfl rfl rfl rfl ?_
  intro b1 w2 hs
  simp only [List.flatMap_cons, List.flatMap_nil, Value.cells, List.cons_append, List.nil_append] at hs
  replace hs := Sat.own_block hs 1 0 rfl (by decide)
  refine Ls_run (run_assign rfl) rfl ?_
  refine Ls_nil ?_
  refine Jm_seq ?_
  refine St_seq ?_
  refine St_seq ?_
  refine St_region ?_
  refine Ls_run (run_assign rfl) rfl ?_
  refine Ls_nil ?_
  refine Jm_seq ?_
  refine St_block ?_
  obtain ⟨En3, hEn3⟩ : ∃ F : Nat × Nat × Value → Env, ∀ (k : Nat) (x : Nat) (v : Value), F (k, x, v) = [(3, v), (0, .int .u64 (x : Int)), (4, .int .i64 (k : Int))] := ⟨(fun (s : Nat × Nat × Value) => match s with | (k, x, v) => [(3, v), (0, .int .u64 (x : Int)), (4, .int .i64 (k : Int))]), fun _ _ _ => rfl⟩
  obtain ⟨Iv4, hIv4⟩ : ∃ F : Nat × Nat × Value → World → Prop, ∀ (k : Nat) (x : Nat) (v : Value) (wr : World), F (k, x, v) wr = (Sat w wr [Own 5 1 v k (bytesV (wd k x0))] ∧ k ≤ 8 ∧ x = x0 / 256 ^ k ∧ x < 18446744073709551616) := ⟨(fun (s : Nat × Nat × Value) => match s with | (k, x, v) => fun (wr : World) => Sat w wr [Own 5 1 v k (bytesV (wd k x0))] ∧ k ≤ 8 ∧ x = x0 / 256 ^ k ∧ x < 18446744073709551616), fun _ _ _ _ => rfl⟩
  obtain ⟨ms5, hms5⟩ : ∃ F : Nat × Nat × Value → Nat, ∀ (k : Nat) (x : Nat) (v : Value), F (k, x, v) = (8 - k) := ⟨(fun (s : Nat × Nat × Value) => match s with | (k, x, v) => 8 - k), fun _ _ _ => rfl⟩
  refine St_loop En3 Iv4 ms5 (0, x0, (Value.slice (some ⟨b1, 0, none⟩) 0 0)) ?_ ?_ ?_
  · skip
    rw [hIv4]
    exact ⟨hs, by omega, by simp, hx⟩
  · rw [hEn3]; exact (subE_cons rfl (subE_cons rfl (subE_cons rfl subE_nil)))
  rintro ⟨k, x, v⟩ wr hI6
  rw [hIv4] at hI6
  obtain ⟨hs, hk, hxk, hxl⟩ := hI6
  refine St_eqE (hEn3 _ _ _) ?_
  refine St_seq ?_
  refine St_seq ?_
  refine St_region ?_
  refine Ls_run (run_move rfl) rfl ?_
  refine Ls_run (run_lss rfl rfl) rfl ?_
  refine Ls_nil ?_
  refine Jm_seq ?_
  refine St_ifP rfl (fun h7 => ?_) (fun h7 => ?_)
  · skip
    refine St_skip ?_
    refine Jm_seq ?_
    refine St_seq ?_
    refine St_block ?_
    refine St_seq ?_
    refine St_region ?_
    refine Ls_run (run_move rfl) rfl ?_
    refine Ls_run (run_move rfl) rfl ?_
    refine Ls_run (run_rem rfl rfl (by decide) (rem_u x 256 _ rfl)) rfl ?_
    refine Ls_run (run_conv_int Try.underlying5 us38 rfl (wu8 (by omega))) rfl ?_
    refine Ls_literal [_] hs Try.underlying28 inf5 rfl rfl rfl rfl rfl rfl ?_
    intro b8 w9 hs
    simp only [List.flatMap_cons, List.flatMap_nil, Value.cells, List.cons_append, List.nil_append] at hs
    replace hs := hs.front 1 rfl
    simp only [List.cons_append, List.nil_append, List.eraseIdx_cons_zero, List.eraseIdx_cons_succ] at hs
    refine Ls_append hs Try.underlying28 inf5 rfl (by decide) (by decide) rfl rfl (rd_block (hs.is_at 1 rfl).2 1 1 rfl) (by simp [Value.oneCell']) (by omega) rfl ?_
    intro A10 c11 w12 hs
    replace hs := hs.erase 1
    simp only [List.cons_append, List.nil_append, List.eraseIdx_cons_zero, List.eraseIdx_cons_succ] at hs
    refine Ls_run (run_assign rfl) rfl ?_
    refine Ls_nil ?_
    refine Jm_seq ?_
    refine St_region ?_
    refine Ls_run (run_move rfl) rfl ?_
    refine Ls_run (run_quo rfl rfl (by decide) (quo_u x 256 hxl)) rfl ?_
    refine Ls_run (run_assign rfl) rfl ?_
    refine Ls_nil ?_
    refine Jm_block_normal (Jm_seq ?_)
    refine St_region ?_
    refine Ls_run (run_move rfl) rfl ?_
    refine Ls_run (run_add rfl rfl (w64 (by omega))) rfl ?_
    refine Ls_run (run_assign rfl) rfl ?_
    refine Ls_nil ?_
    refine Jm_round (k + 1, x / 256, Value.slice A10 (k + 1) c11) ?_ ?_ ?_
    · rw [hEn3]; exact (subE_cons rfl (subE_cons rfl (subE_cons rfl subE_nil)))
    · skip
      rw [hIv4]
      refine ⟨?_, by omega, ?_, by omega⟩
      · rw [wd_snoc, bytesV_append, ← hxk]; exact hs
      · rw [hxk, Nat.div_div_eq_div_mul, Nat.pow_succ]
    · skip
      rw [hms5, hms5]
      omega
  · skip
    refine St_exit ?_
    refine Jm_then_exit (Jm_then_exit (Jm_block_same (Jm_seq ?_)))
    refine St_seq ?_
    refine St_region ?_
    refine Ls_run (run_move rfl) rfl ?_
    refine Ls_run (run_assign rfl) rfl ?_
    refine Ls_nil ?_
    refine Jm_seq ?_
    refine St_ret ?_
    refine Jm_ret1 rfl rfl ?_
    have hk8 : k = 8 := by omega
    subst hk8
    obtain ⟨A9, c9, rfl, _, _, _⟩ := hs.own_form
    exact ⟨_, rfl, _, _, rfl, hs⟩

theorem or_shl8 (i : Nat) (hi : i < 8) (acc c : Nat) (ha : acc < 256 ^ i) (hc : c < 256) :
    Go.bits .or .u64 (acc : Int) (IntKind.u64.wrap (IntKind.u64.wrap (c : Int) * 2 ^ min (8 * (i : Int)).toNat IntKind.u64.bits)) = ((acc + c * 256 ^ i : Nat) : Int) := by
  have hp : (256 : Nat) ^ i = 2 ^ (8 * i) := by rw [Nat.pow_mul]
  have hb : c * 256 ^ i < 18446744073709551616 ∧ 256 ^ i ≤ 9223372036854775808 := by
    have : i = 0 ∨ i = 1 ∨ i = 2 ∨ i = 3 ∨ i = 4 ∨ i = 5 ∨ i = 6 ∨ i = 7 := by omega
    rcases this with rfl | rfl | rfl | rfl | rfl | rfl | rfl | rfl <;> simp only [Nat.reducePow] <;> omega
  have hm : min (8 * (i : Int)).toNat IntKind.u64.bits = 8 * i := by
    have : IntKind.u64.bits = 64 := rfl
    omega
  rw [wu64 (n := (c : Int)) (by omega), hm]
  have hs : (c : Int) * 2 ^ (8 * i) = ((c * 256 ^ i : Nat) : Int) := by rw [hp]; simp
  rw [hs, wu64 (by omega), u64_or_nat _ _ (by omega) hb.1, hp]
  rw [hp] at ha
  congr 1
  rw [Nat.or_comm, ← Nat.shiftLeft_eq, ← Nat.shiftLeft_add_eq_or_of_lt ha, Nat.add_comm]
theorem getD_mem' {l : List Int} {i : Nat} (h : i < l.length) : l.getD i 0 ∈ l := by
  rw [List.getD_eq_getElem?_getD, List.getElem?_eq_getElem h]; exact List.getElem_mem _
theorem take_snoc' {l : List Int} {i : Nat} (h : i < l.length) : l.take (i + 1) = l.take i ++ [l.getD i 0] := by
  rw [List.take_succ_eq_append_getElem h, List.getD_eq_getElem?_getD, List.getElem?_eq_getElem h]; rfl
theorem drop_cons' {l : List Int} {i : Nat} (h : i < l.length) : l.drop i = l.getD i 0 :: l.drop (i + 1) := by
  rw [List.drop_eq_getElem_cons h, List.getD_eq_getElem?_getD, List.getElem?_eq_getElem h]; rfl
set_option maxRecDepth 100000 in
set_option maxHeartbeats 1000000 in
theorem TakeWord_c (w : World) (A : Option Addr) (n c : Nat) (l : List Int) (hr : Rd w A n c 1 (bytesV l)) (hb : IsBytes l) (hn : n ≤ 9223372036854775807) :
    Calls Try.prog 113 [.slice A n c].toArray w (Ret (fun v' w' => w = w' ∧ ((n < 8 ∧ v' = .tuple #[.int .u64 0, .int .i64 3]) ∨ (8 ≤ n ∧ v' = .tuple #[.int .u64 (tw (l.take 8) : Int), .int .i64 0])))) := by
  have hl : l.length = n := rdB_len hr
  have hnc := hr.cap
  refine Calls_body Try.func113 rfl rfl rfl (envE_cons (i := 0) (v := .slice A n c) rfl envE_nil) ?_
  refine St_seq ?_
  refine St_region ?_
  refine Ls_run (run_assign rfl) rfl ?_
  refine Ls_run (run_assign rfl) rfl ?_
  refine Ls_nil ?_
  refine Jm_seq ?_
  refine St_seq ?_
  refine St_seq ?_
  refine St_region ?_
  refine Ls_run (run_move rfl) rfl ?_
  refine Ls_run (run_len Try.underlying28 rfl) rfl ?_
  refine Ls_run (run_lss rfl rfl) rfl ?_
  refine Ls_nil ?_
  refine Jm_seq ?_
  refine St_ifP rfl (fun h1 => ?_) (fun h1 => ?_)
  · skip
    refine St_seq ?_
    refine St_region ?_
    refine Ls_run (run_assign rfl) rfl ?_
    refine Ls_run (run_assign rfl) rfl ?_
    refine Ls_nil ?_
    refine Jm_seq ?_
    refine St_ret ?_
    refine Jm_then_ret  ?_
    refine Jm_ret2 rfl rfl rfl ?_
    exact ⟨_, rfl, rfl, .inl ⟨by omega, rfl⟩⟩
  · skip
    refine St_skip ?_
    refine Jm_seq ?_
    refine St_seq ?_
    refine St_region ?_
    refine Ls_run (run_assign rfl) rfl ?_
    refine Ls_nil ?_
    refine Jm_seq ?_
    refine St_seq ?_
    refine St_seq ?_
    refine St_region ?_
    refine Ls_run (run_move rfl) rfl ?_
    have hr8 := rdB_take hr 8 (by omega)
    rw [bytesV_flat] at hr8
    refine Ls_run (run_slice_h Try.underlying28 inf5 rfl rfl (by omega) (by omega)) rfl ?_
    refine Ls_run (run_len Try.underlying28 rfl) rfl ?_
    refine Ls_run (run_move rfl) rfl ?_
    refine Ls_nil ?_
    refine Jm_seq ?_
    refine St_block ?_
    obtain ⟨En2, hEn2⟩ : ∃ F : Nat × Nat → Env, ∀ (k : Nat) (acc : Nat), F (k, acc) = [(11, .slice A 8 c), (12, .int .i64 ((8 : Nat) : Int)), (13, .int .i64 (k : Int)), (4, .int .u64 (acc : Int))] := ⟨(fun (s : Nat × Nat) => match s with | (k, acc) => [(11, .slice A 8 c), (12, .int .i64 ((8 : Nat) : Int)), (13, .int .i64 (k : Int)), (4, .int .u64 (acc : Int))]), fun _ _ => rfl⟩
    obtain ⟨Iv3, hIv3⟩ : ∃ F : Nat × Nat → World → Prop, ∀ (k : Nat) (acc : Nat) (wr : World), F (k, acc) wr = (w = wr ∧ k ≤ 8 ∧ acc = tw (l.take k)) := ⟨(fun (s : Nat × Nat) => match s with | (k, acc) => fun (wr : World) => w = wr ∧ k ≤ 8 ∧ acc = tw (l.take k)), fun _ _ _ => rfl⟩
    obtain ⟨ms4, hms4⟩ : ∃ F : Nat × Nat → Nat, ∀ (k : Nat) (acc : Nat), F (k, acc) = (8 - k) := ⟨(fun (s : Nat × Nat) => match s with | (k, acc) => 8 - k), fun _ _ => rfl⟩
    refine St_loop En2 Iv3 ms4 (0, 0) ?_ ?_ ?_
    · skip
      rw [hIv3]
      exact ⟨rfl, by omega, rfl⟩
    · rw [hEn2]; exact (subE_cons rfl (subE_cons rfl (subE_cons rfl (subE_cons rfl subE_nil))))
    rintro ⟨k, acc⟩ wr hI5
    rw [hIv3] at hI5
    obtain ⟨rfl, hk, hacc⟩ := hI5
    refine St_eqE (hEn2 _ _) ?_
    have hlt := tw_lt (l.take k) (fun q hq => hb q (List.mem_of_mem_take hq))
    have hlen : (l.take k).length = k := by rw [List.length_take]; omega
    rw [hlen, ← hacc] at hlt
    refine St_seq ?_
    refine St_region ?_
    refine Ls_run (run_lss rfl rfl) rfl ?_
    refine Ls_nil ?_
    refine Jm_seq ?_
    refine St_seq ?_
    refine St_ifP rfl (fun h6 => ?_) (fun h6 => ?_)
    · skip
      refine St_skip ?_
      refine Jm_seq ?_
      refine St_seq ?_
      refine St_block ?_
      refine St_seq ?_
      refine St_region ?_
      refine Ls_run (run_move rfl) rfl ?_
      have hk8 : (l.take 8).getD k 0 = l.getD k 0 := by simp [List.getD_eq_getElem?_getD, List.getElem?_take, show k < 8 by omega]
      have hbi := hb (l.getD k 0) (getD_mem' (by omega))
      obtain ⟨cn, hcv⟩ : ∃ cn : Nat, l.getD k 0 = (cn : Int) := ⟨(l.getD k 0).toNat, by omega⟩
      rw [hcv] at hbi
      refine Ls_index (El.int .u8) hr8 Try.underlying28 inf5 rfl rfl (by omega) (by omega) (show _ = (cn : Int) from hk8.trans hcv) rfl ?_
      intro b7 o8 hc9
      refine Ls_run (run_load sc5 rfl (hc9 0 _ rfl)) rfl ?_
      refine Ls_run (run_assign rfl) rfl ?_
      refine Ls_run (run_assign rfl) rfl ?_
      refine Ls_nil ?_
      refine Jm_seq ?_
      refine St_region ?_
      refine Ls_run (run_move rfl) rfl ?_
      refine Ls_run (run_move rfl) rfl ?_
      refine Ls_run (run_conv_int Try.underlying38 us5 rfl rfl) rfl ?_
      refine Ls_run (run_move rfl) rfl ?_
      refine Ls_run (run_mul rfl rfl (w64 (by omega))) rfl ?_
      refine Ls_run (run_shl rfl rfl (by omega) rfl) rfl ?_
      refine Ls_run (run_bits (by simp) rfl rfl (or_shl8 k (by omega) acc cn hlt (by omega))) rfl ?_
      refine Ls_run (run_assign rfl) rfl ?_
      refine Ls_nil ?_
      refine Jm_block_normal (Jm_seq ?_)
      refine St_region ?_
      refine Ls_run (run_add rfl rfl (w64 (by omega))) rfl ?_
      refine Ls_run (run_move rfl) rfl ?_
      refine Ls_nil ?_
      refine Jm_round (k + 1, acc + cn * 256 ^ k) ?_ ?_ ?_
      · rw [hEn2]; exact (subE_cons rfl (subE_cons rfl (subE_cons rfl (subE_cons rfl subE_nil))))
      · skip
        rw [hIv3]
        refine ⟨rfl, by omega, ?_⟩
        rw [take_snoc' (by omega), tw_snoc, hlen, hcv, ← hacc]; simp
      · skip
        rw [hms4, hms4]
        omega
    · skip
      refine St_exit ?_
      refine Jm_then_exit (Jm_then_exit (Jm_block_same (Jm_seq ?_)))
      refine St_seq ?_
      refine St_region ?_
      refine Ls_run (run_move rfl) rfl ?_
      refine Ls_run (run_assign rfl) rfl ?_
      refine Ls_run (run_assign rfl) rfl ?_
      refine Ls_nil ?_
      refine Jm_seq ?_
      refine St_ret ?_
      refine Jm_ret2 rfl rfl rfl ?_
      have hk8 : k = 8 := by omega
      subst hk8
      rw [← hacc]
      exact ⟨_, rfl, rfl, .inr ⟨by omega, rfl⟩⟩
set_option maxRecDepth 100000 in
set_option maxHeartbeats 1000000 in
theorem rTakeWord_c (w : World) (A : Option Addr) (n c : Nat) (l : List Int) (hr : Rd w A n c 1 (bytesV l)) (hb : IsBytes l) (hn : n ≤ 9223372036854775807) :
    Calls Try.prog 116 [.slice A n c].toArray w (Ret (fun v' w' => w = w' ∧ ((n < 8 ∧ v' = .tuple #[.int .u64 0, .int .i64 3]) ∨ (8 ≤ n ∧ v' = .tuple #[.int .u64 (tw (l.take 8) : Int), .int .i64 0])))) := by
  have hl : l.length = n := rdB_len hr
  rw [bytesV_flat] at hr
  refine Calls_body Try.func116 rfl rfl rfl (envE_cons (i := 0) (v := .slice A n c) rfl envE_nil) ?_
  refine St_seq ?_
  refine St_region ?_
  refine Ls_run (run_assign rfl) rfl ?_
  refine Ls_run (run_assign rfl) rfl ?_
  refine Ls_nil ?_
  refine Jm_seq ?_
  refine St_seq ?_
  refine St_seq ?_
  refine St_region ?_
  refine Ls_run (run_move rfl) rfl ?_
  refine Ls_run (run_len Try.underlying28 rfl) rfl ?_
  refine Ls_run (run_lss rfl rfl) rfl ?_
  refine Ls_nil ?_
  refine Jm_seq ?_
  refine St_ifP rfl (fun h1 => ?_) (fun h1 => ?_)
  · skip
    refine St_seq ?_
    refine St_region ?_
    refine Ls_run (run_assign rfl) rfl ?_
    refine Ls_run (run_assign rfl) rfl ?_
    refine Ls_nil ?_
    refine Jm_seq ?_
    refine St_ret ?_
    refine Jm_then_ret  ?_
    refine Jm_ret2 rfl rfl rfl ?_
    exact ⟨_, rfl, rfl, .inl ⟨by omega, rfl⟩⟩
  · skip
    refine St_skip ?_
    refine Jm_seq ?_
    refine St_seq ?_
    refine St_region ?_
    refine Ls_run (run_assign rfl) rfl ?_
    refine Ls_nil ?_
    refine Jm_seq ?_
    refine St_seq ?_
    refine St_seq ?_
    refine St_region ?_
    refine Ls_run (run_assign rfl) rfl ?_
    refine Ls_nil ?_
    refine Jm_seq ?_
    refine St_block ?_
    obtain ⟨En2, hEn2⟩ : ∃ F : Nat × Nat → Env, ∀ (j : Nat) (acc : Nat), F (j, acc) = [(0, .slice A n c), (5, .int .i64 ((j : Int) - 1)), (4, .int .u64 (acc : Int))] := ⟨(fun (s : Nat × Nat) => match s with | (j, acc) => [(0, .slice A n c), (5, .int .i64 ((j : Int) - 1)), (4, .int .u64 (acc : Int))]), fun _ _ => rfl⟩
    obtain ⟨Iv3, hIv3⟩ : ∃ F : Nat × Nat → World → Prop, ∀ (j : Nat) (acc : Nat) (wr : World), F (j, acc) wr = (w = wr ∧ j ≤ 8 ∧ acc = tw ((l.take 8).drop j)) := ⟨(fun (s : Nat × Nat) => match s with | (j, acc) => fun (wr : World) => w = wr ∧ j ≤ 8 ∧ acc = tw ((l.take 8).drop j)), fun _ _ _ => rfl⟩
    obtain ⟨ms4, hms4⟩ : ∃ F : Nat × Nat → Nat, ∀ (j : Nat) (acc : Nat), F (j, acc) = (j) := ⟨(fun (s : Nat × Nat) => match s with | (j, acc) => j), fun _ _ => rfl⟩
    refine St_loop En2 Iv3 ms4 (8, 0) ?_ ?_ ?_
    · skip
      rw [hIv3]
      refine ⟨rfl, by omega, ?_⟩
      rw [List.drop_eq_nil_of_le (by rw [List.length_take]; omega)]; rfl
    · rw [hEn2]; exact (subE_cons rfl (subE_cons rfl (subE_cons rfl subE_nil)))
    rintro ⟨j, acc⟩ wr hI5
    rw [hIv3] at hI5
    obtain ⟨rfl, hj, hacc⟩ := hI5
    refine St_eqE (hEn2 _ _) ?_
    refine St_seq ?_
    refine St_seq ?_
    refine St_region ?_
    refine Ls_run (run_move rfl) rfl ?_
    refine Ls_run (run_geq rfl rfl) rfl ?_
    refine Ls_nil ?_
    refine Jm_seq ?_
    refine St_ifP rfl (fun h6 => ?_) (fun h6 => ?_)
    · skip
      refine St_skip ?_
      refine Jm_seq ?_
      refine St_seq ?_
      refine St_block ?_
      refine St_region ?_
      refine Ls_run (run_move rfl) rfl ?_
      refine Ls_run (run_mul rfl rfl rfl) rfl ?_
      refine Ls_run (run_move rfl) rfl ?_
      refine Ls_run (run_move rfl) rfl ?_
      obtain ⟨k, hk⟩ : ∃ k, j = k + 1 := ⟨j - 1, by omega⟩
      subst hk
      have hbi := hb (l.getD k 0) (getD_mem' (by omega))
      obtain ⟨cn, hcv⟩ : ∃ cn : Nat, l.getD k 0 = (cn : Int) := ⟨(l.getD k 0).toNat, by omega⟩
      rw [hcv] at hbi
      have e8 : (l.take 8).drop k = l.getD k 0 :: (l.take 8).drop (k + 1) := by
        have := drop_cons' (l := l.take 8) (i := k) (by rw [List.length_take]; omega)
        rw [this]; simp [List.getD_eq_getElem?_getD, List.getElem?_take, show k < 8 by omega]
      have hlt := tw_lt ((l.take 8).drop (k + 1)) (fun q hq => hb q (List.mem_of_mem_take (List.mem_of_mem_drop hq)))
      have hlen : ((l.take 8).drop (k + 1)).length = 7 - k := by rw [List.length_drop, List.length_take]; omega
      rw [hlen, ← hacc] at hlt
      have hp8 : 256 ^ (7 - k) ≤ 72057594037927936 := Nat.pow_le_pow_right (n := 256) (by omega) (show 7 - k ≤ 7 by omega)
      refine Ls_index (El.int .u8) hr Try.underlying28 inf5 rfl rfl (by omega) (by omega) (show _ = (cn : Int) by rw [← hcv]; congr 1; omega) rfl ?_
      intro b7 o8 hc9
      refine Ls_run (run_load sc5 rfl (hc9 0 _ rfl)) rfl ?_
      refine Ls_run (run_conv_int Try.underlying38 us5 rfl rfl) rfl ?_
      refine Ls_run (run_add rfl rfl (show _ = ((cn + 256 * acc : Nat) : Int) by rw [wu64 (n := (acc : Int) * 256) (by omega), wu64 (n := (cn : Int)) (by omega), wu64 (by omega)]; omega)) rfl ?_
      refine Ls_run (run_assign rfl) rfl ?_
      refine Ls_nil ?_
      refine Jm_block_normal (Jm_seq ?_)
      refine St_region ?_
      refine Ls_run (run_move rfl) rfl ?_
      refine Ls_run (run_sub rfl rfl (show _ = ((k : Int) - 1) by rw [w64 (by omega)]; omega)) rfl ?_
      refine Ls_run (run_assign rfl) rfl ?_
      refine Ls_nil ?_
      refine Jm_round (k, cn + 256 * acc) ?_ ?_ ?_
      · rw [hEn2]; exact (subE_cons rfl (subE_cons rfl (subE_cons rfl subE_nil)))
      · skip
        rw [hIv3]
        refine ⟨rfl, by omega, ?_⟩
        rw [e8, hcv, tw, ← hacc]; simp
      · skip
        rw [hms4, hms4]
        omega
    · skip
      refine St_exit ?_
      refine Jm_then_exit (Jm_then_exit (Jm_block_same (Jm_seq ?_)))
      refine St_seq ?_
      refine St_region ?_
      refine Ls_run (run_move rfl) rfl ?_
      refine Ls_run (run_assign rfl) rfl ?_
      refine Ls_run (run_assign rfl) rfl ?_
      refine Ls_nil ?_
      refine Jm_seq ?_
      refine St_ret ?_
      refine Jm_ret2 rfl rfl rfl ?_
      have hj0 : j = 0 := by omega
      subst hj0
      rw [List.drop_zero] at hacc
      rw [← hacc]
      exact ⟨_, rfl, rfl, .inr ⟨by omega, rfl⟩⟩
end Go.Proofs.Ytipkfdeiallifaa.Lg
