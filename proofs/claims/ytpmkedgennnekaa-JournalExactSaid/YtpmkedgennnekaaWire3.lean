/-
  More of the wire's functions and of its reference, walked. By program (gen/wire3.py).
-/
import Derived.Test.YtpmkedgennnekaaWire1
import Derived.Test.YtpmkedgennnekaaMp
set_option linter.unusedVariables false
set_option linter.unusedSimpArgs false
namespace Go.Proofs.Ytpmkedgennnekaa.Lg
open Go Go.RowKit Go.Proofs.Ytpmkedgennnekaa.WirePure

theorem tmod_nat (a b : Nat) : Int.tmod (a : Int) (b : Int) = ((a % b : Nat) : Int) := by
  rw [Int.tmod_eq_emod_of_nonneg (Int.natCast_nonneg a)]; simp
theorem tdiv_nat (a b : Nat) : Int.tdiv (a : Int) (b : Int) = ((a / b : Nat) : Int) := by
  rw [Int.tdiv_eq_ediv_of_nonneg (Int.natCast_nonneg a)]; simp
theorem rem_u (a b : Nat) (r : Int) (h : ((a % b : Nat) : Int) = r) : Int.tmod (a : Int) (b : Int) = r := by rw [tmod_nat, h]
theorem quo_u (a b : Nat) (ha : a < 18446744073709551616) : IntKind.u64.wrap (Int.tdiv (a : Int) (b : Int)) = ((a / b : Nat) : Int) := by
  rw [tdiv_nat]
  have := Nat.div_le_self a b
  generalize a / b = q at *
  exact wu64 (by omega)
set_option maxRecDepth 100000 in
set_option maxHeartbeats 1000000 in
theorem Grow_c (w : World) (m : Nat) (hm : m ≤ 140737488355328) :
    Calls Try.prog 96 [.slice none 0 0, .int .i64 (m : Int)].toArray w (Ret (fun v' w' => ∃ A c, v' = .slice A 0 c ∧ Sat w w' [Own 5 1 v' 0 []])) := by
  have hs := Sat.start w
  refine Calls_body Try.func96 rfl rfl rfl (envE_cons (i := 0) (v := .slice none 0 0) rfl (envE_cons (i := 1) (v := .int .i64 (m : Int)) rfl envE_nil)) ?_
  refine St_seq ?_
  refine St_region ?_
  refine Ls_run (run_assign rfl) rfl ?_
  refine Ls_nil ?_
  refine Jm_seq ?_
  refine St_seq ?_
  refine St_seq ?_
  refine St_region ?_
  refine Ls_run (run_move rfl) rfl ?_
  refine Ls_run (run_lss rfl rfl) rfl ?_
  refine Ls_nil ?_
  refine Jm_seq ?_
  refine St_ifP rfl (fun h1 => ?_) (fun h1 => ?_)
  · skip
    exfalso; omega
  · skip
    refine St_skip ?_
    refine Jm_seq ?_
    refine St_seq ?_
    refine St_seq ?_
    refine St_region ?_
    refine Ls_run (run_move rfl) rfl ?_
    refine Ls_run (run_move rfl) rfl ?_
    refine Ls_run (run_cap Try.underlying31 rfl) rfl ?_
    refine Ls_run (run_move rfl) rfl ?_
    refine Ls_run (run_len Try.underlying31 rfl) rfl ?_
    refine Ls_run (run_sub rfl rfl (w64 (by omega))) rfl ?_
    refine Ls_run (run_sub rfl rfl (show _ = (m : Int) by rw [w64 (by omega)]; omega)) rfl ?_
    refine Ls_run (run_assign rfl) rfl ?_
    refine Ls_nil ?_
    refine Jm_seq ?_
    refine St_seq ?_
    refine St_region ?_
    refine Ls_run (run_move rfl) rfl ?_
    refine Ls_run (run_gtr rfl rfl) rfl ?_
    refine Ls_nil ?_
    refine Jm_seq ?_
    refine St_ifP rfl (fun h2 => ?_) (fun h2 => ?_)
    · skip
      refine St_region ?_
      refine Ls_run (run_move rfl) rfl ?_
      refine Ls_run (run_move rfl) rfl ?_
      refine Ls_run (run_cap Try.underlying31 rfl) rfl ?_
      refine Ls_run (run_slice_h Try.underlying31 inf5 rfl rfl (by omega) (by omega)) rfl ?_
      refine Ls_run (run_move rfl) rfl ?_
      refine Ls_appendZeros hs Try.underlying31 Try.underlying3 inf5 rfl rfl rfl (by omega) (by omega) (by omega) rfl ?_
      intro bz cz wz hcz hs
      refine Ls_run (run_move rfl) rfl ?_
      refine Ls_run (run_len Try.underlying31 rfl) rfl ?_
      refine Ls_run (run_slice_h Try.underlying31 inf5 rfl rfl (by omega) (by omega)) rfl ?_
      refine Ls_run (run_assign rfl) rfl ?_
      refine Ls_nil ?_
      refine Jm_seq ?_
      refine St_seq ?_
      refine St_region ?_
      refine Ls_run (run_move rfl) rfl ?_
      refine Ls_run (run_assign rfl) rfl ?_
      refine Ls_nil ?_
      refine Jm_seq ?_
      refine St_ret ?_
      refine Jm_ret1 rfl rfl ?_
      exact ⟨_, rfl, _, _, rfl, hs.own_shrink 0 (by omega)⟩
    · skip
      refine St_skip ?_
      refine Jm_seq ?_
      refine St_seq ?_
      refine St_region ?_
      refine Ls_run (run_move rfl) rfl ?_
      refine Ls_run (run_assign rfl) rfl ?_
      refine Ls_nil ?_
      refine Jm_seq ?_
      refine St_ret ?_
      refine Jm_ret1 rfl rfl ?_
      exact ⟨_, rfl, _, _, rfl, hs.own_nil _ _⟩
set_option maxRecDepth 100000 in
set_option maxHeartbeats 1000000 in
theorem Concat_c (w : World) (A : Option Addr) (n c : Nat) (vs : List Value) (ls : List (List Int)) (hr : Rd w A n c 1 (El.val.flat vs)) (hp : Parts w vs ls) (hn : (ls.map List.length).sum ≤ 140737488355328) (hn2 : n ≤ 140737488355328) :
    Calls Try.prog 94 [.slice A n c].toArray w (Ret (fun v' w' => ∃ A' c', v' = .slice A' ls.flatten.length c' ∧ Sat w w' [Own 5 1 v' ls.flatten.length (bytesV ls.flatten)])) := by
  have hs := Sat.start w
  have hvl : vs.length = n := by have := hr.len; rw [El.flat_length] at this; simpa [El.val] using this
  have hll : ls.length = n := by have := hp.1; omega
  refine Calls_body Try.func94 rfl rfl rfl (envE_cons (i := 0) (v := .slice A n c) rfl envE_nil) ?_
  refine St_seq ?_
  refine St_region ?_
  refine Ls_run (run_assign rfl) rfl ?_
  refine Ls_nil ?_
  refine Jm_seq ?_
  refine St_seq ?_
  refine St_region ?_
  refine Ls_run (run_assign rfl) rfl ?_
  refine Ls_nil ?_
  refine Jm_seq ?_
  refine St_seq ?_
  refine St_seq ?_
  refine St_region ?_
  refine Ls_run (run_move rfl) rfl ?_
  refine Ls_run (run_len Try.underlying28 rfl) rfl ?_
  refine Ls_run (run_move rfl) rfl ?_
  refine Ls_nil ?_
  refine Jm_seq ?_
  refine St_block ?_
  obtain ⟨En1, hEn1⟩ : ∃ F : Nat × Nat → Env, ∀ (i : Nat) (sz : Nat), F (i, sz) = [(0, .slice A n c), (9, .slice A n c), (10, .int .i64 (n : Int)), (11, .int .i64 (i : Int)), (3, .int .i64 (sz : Int))] := ⟨(fun (s : Nat × Nat) => match s with | (i, sz) => [(0, .slice A n c), (9, .slice A n c), (10, .int .i64 (n : Int)), (11, .int .i64 (i : Int)), (3, .int .i64 (sz : Int))]), fun _ _ => rfl⟩
  obtain ⟨Iv2, hIv2⟩ : ∃ F : Nat × Nat → World → Prop, ∀ (i : Nat) (sz : Nat) (wr : World), F (i, sz) wr = (Sat w wr [] ∧ i ≤ n ∧ sz = upto ls i) := ⟨(fun (s : Nat × Nat) => match s with | (i, sz) => fun (wr : World) => Sat w wr [] ∧ i ≤ n ∧ sz = upto ls i), fun _ _ _ => rfl⟩
  obtain ⟨ms3, hms3⟩ : ∃ F : Nat × Nat → Nat, ∀ (i : Nat) (sz : Nat), F (i, sz) = (n - i) := ⟨(fun (s : Nat × Nat) => match s with | (i, sz) => n - i), fun _ _ => rfl⟩
  refine St_loop En1 Iv2 ms3 (0, 0) ?_ ?_ ?_
  · skip
    rw [hIv2]
    exact ⟨hs, by omega, by simp [upto]⟩
  · rw [hEn1]; exact (subE_cons rfl (subE_cons rfl (subE_cons rfl (subE_cons rfl (subE_cons rfl subE_nil)))))
  rintro ⟨i, sz⟩ wr hI4
  rw [hIv2] at hI4
  obtain ⟨hs, hi, hsz⟩ := hI4
  refine St_eqE (hEn1 _ _) ?_
  have hle0 := upto_le ls i
  refine St_seq ?_
  refine St_region ?_
  refine Ls_run (run_lss rfl rfl) rfl ?_
  refine Ls_nil ?_
  refine Jm_seq ?_
  refine St_seq ?_
  refine St_ifP rfl (fun h5 => ?_) (fun h5 => ?_)
  · skip
    refine St_skip ?_
    refine Jm_seq ?_
    refine St_seq ?_
    refine St_block ?_
    refine St_seq ?_
    refine St_region ?_
    obtain ⟨Ai, ni, ci, hvi, hri⟩ := hp.2 i (by have := hp.1; omega)
    have hli := rdB_len hri
    have hus := upto_succ ls i (by omega)
    have hle := upto_le ls (i + 1)
    refine Ls_index (El.val) (hr.inB hs) Try.underlying28 inf31 rfl rfl (by omega) (by omega) hvi rfl ?_
    intro b6 o7 hc8
    refine Ls_run (run_load sc31 rfl (hc8 0 _ rfl)) rfl ?_
    refine Ls_run (run_assign rfl) rfl ?_
    refine Ls_nil ?_
    refine Jm_seq ?_
    refine St_seq ?_
    refine St_region ?_
    refine Ls_run (run_move rfl) rfl ?_
    refine Ls_run (run_move rfl) rfl ?_
    refine Ls_run (run_len Try.underlying31 rfl) rfl ?_
    refine Ls_run (run_add rfl rfl (w64 (by omega))) rfl ?_
    refine Ls_run (run_assign rfl) rfl ?_
    refine Ls_nil ?_
    refine Jm_seq ?_
    refine St_seq ?_
    refine St_region ?_
    refine Ls_run (run_move rfl) rfl ?_
    refine Ls_run (run_lss rfl rfl) rfl ?_
    refine Ls_nil ?_
    refine Jm_seq ?_
    refine St_ifP rfl (fun h9 => ?_) (fun h9 => ?_)
    · skip
      exfalso; omega
    · skip
      refine St_skip ?_
      refine Jm_block_normal (Jm_seq ?_)
      refine St_region ?_
      refine Ls_run (run_add rfl rfl (w64 (by omega))) rfl ?_
      refine Ls_run (run_move rfl) rfl ?_
      refine Ls_nil ?_
      refine Jm_round (i + 1, sz + ni) ?_ ?_ ?_
      · rw [hEn1]; exact (subE_cons rfl (subE_cons rfl (subE_cons rfl (subE_cons rfl (subE_cons rfl subE_nil)))))
      · skip
        rw [hIv2]
        exact ⟨hs, by omega, by omega⟩
      · skip
        rw [hms3, hms3]
        omega
  · skip
    refine St_exit ?_
    refine Jm_then_exit (Jm_then_exit (Jm_block_same (Jm_seq ?_)))
    refine St_seq ?_
    refine St_region ?_
    refine Ls_run (run_move rfl) rfl ?_
    have hi : i = n := by omega
    have hle2 := upto_le ls i
    refine Ls_call Try.func96 nm96 rfl rfl (Grow_c wr sz (by omega)) rfl ?_
    rintro v10 w11 ⟨AG, cG, rfl, hsG⟩
    replace hs := hs.trans hsG
    refine Ls_run (run_assign rfl) rfl ?_
    refine Ls_nil ?_
    refine Jm_seq ?_
    refine St_seq ?_
    refine St_seq ?_
    refine St_region ?_
    refine Ls_run (run_move rfl) rfl ?_
    refine Ls_run (run_len Try.underlying28 rfl) rfl ?_
    refine Ls_run (run_move rfl) rfl ?_
    refine Ls_nil ?_
    refine Jm_seq ?_
    refine St_block ?_
    obtain ⟨En12, hEn12⟩ : ∃ F : Nat × Value × Nat → Env, ∀ (i : Nat) (v : Value) (m : Nat), F (i, v, m) = [(25, .slice A n c), (26, .int .i64 (n : Int)), (27, .int .i64 (i : Int)), (6, v)] := ⟨(fun (s : Nat × Value × Nat) => match s with | (i, v, m) => [(25, .slice A n c), (26, .int .i64 (n : Int)), (27, .int .i64 (i : Int)), (6, v)]), fun _ _ _ => rfl⟩
    obtain ⟨Iv13, hIv13⟩ : ∃ F : Nat × Value × Nat → World → Prop, ∀ (i : Nat) (v : Value) (m : Nat) (wr2 : World), F (i, v, m) wr2 = (Sat w wr2 [Own 5 1 v m (bytesV (ls.take i).flatten)] ∧ i ≤ n ∧ m = upto ls i) := ⟨(fun (s : Nat × Value × Nat) => match s with | (i, v, m) => fun (wr2 : World) => Sat w wr2 [Own 5 1 v m (bytesV (ls.take i).flatten)] ∧ i ≤ n ∧ m = upto ls i), fun _ _ _ _ => rfl⟩
    obtain ⟨ms14, hms14⟩ : ∃ F : Nat × Value × Nat → Nat, ∀ (i : Nat) (v : Value) (m : Nat), F (i, v, m) = (n - i) := ⟨(fun (s : Nat × Value × Nat) => match s with | (i, v, m) => n - i), fun _ _ _ => rfl⟩
    refine St_loop En12 Iv13 ms14 (0, Value.slice AG 0 cG, 0) ?_ ?_ ?_
    · skip
      rw [hIv13]
      exact ⟨by simpa [bytesV] using hs, by omega, by simp [upto]⟩
    · rw [hEn12]; exact (subE_cons rfl (subE_cons rfl (subE_cons rfl (subE_cons rfl subE_nil))))
    rintro ⟨i, v, m⟩ wr2 hI15
    rw [hIv13] at hI15
    obtain ⟨hs, hi, hm⟩ := hI15
    refine St_eqE (hEn12 _ _ _) ?_
    refine St_seq ?_
    refine St_region ?_
    refine Ls_run (run_lss rfl rfl) rfl ?_
    refine Ls_nil ?_
    refine Jm_seq ?_
    refine St_seq ?_
    refine St_ifP rfl (fun h16 => ?_) (fun h16 => ?_)
    · skip
      refine St_skip ?_
      refine Jm_seq ?_
      refine St_seq ?_
      refine St_block ?_
      refine St_seq ?_
      refine St_region ?_
      obtain ⟨Ai, ni, ci, hvi, hri⟩ := hp.2 i (by have := hp.1; omega)
      have hli := rdB_len hri
      have hus := upto_succ ls i (by omega)
      have hle := upto_le ls (i + 1)
      refine Ls_index (El.val) (hr.inB hs) Try.underlying28 inf31 rfl rfl (by omega) (by omega) hvi rfl ?_
      intro b17 o18 hc19
      refine Ls_run (run_load sc31 rfl (hc19 0 _ rfl)) rfl ?_
      refine Ls_run (run_assign rfl) rfl ?_
      refine Ls_nil ?_
      refine Jm_seq ?_
      refine St_region ?_
      refine Ls_run (run_move rfl) rfl ?_
      refine Ls_run (run_move rfl) rfl ?_
      refine Ls_append hs Try.underlying31 inf5 rfl (by decide) (by decide) rfl rfl (hri.inB hs) (bytesV_one' _) (by omega) rfl ?_
      intro A20 c21 w22 hs
      refine Ls_run (run_assign rfl) rfl ?_
      refine Ls_nil ?_
      refine Jm_block_normal (Jm_seq ?_)
      refine St_region ?_
      refine Ls_run (run_add rfl rfl (w64 (by omega))) rfl ?_
      refine Ls_run (run_move rfl) rfl ?_
      refine Ls_nil ?_
      refine Jm_round (i + 1, Value.slice A20 (m + ni) c21, m + ni) ?_ ?_ ?_
      · rw [hEn12]; exact (subE_cons rfl (subE_cons rfl (subE_cons rfl (subE_cons rfl subE_nil))))
      · skip
        rw [hIv13]
        refine ⟨?_, by omega, by omega⟩
        rw [flat_take_succ ls i (by omega), bytesV_append]; exact hs
      · skip
        rw [hms14, hms14]
        omega
    · skip
      refine St_exit ?_
      refine Jm_then_exit (Jm_then_exit (Jm_block_same (Jm_seq ?_)))
      refine St_seq ?_
      refine St_region ?_
      refine Ls_run (run_move rfl) rfl ?_
      refine Ls_run (run_assign rfl) rfl ?_
      refine Ls_nil ?_
      refine Jm_seq ?_
      refine St_ret ?_
      refine Jm_ret1 rfl rfl ?_
      have hi : i = n := by omega
      have e1 : ls.take i = ls := List.take_of_length_le (by omega)
      have e2 : m = ls.flatten.length := by rw [flat_len, ← upto_all, hm, hll, hi]
      rw [e1] at hs
      obtain ⟨A9, c9, rfl, _, _, _⟩ := hs.own_form
      subst e2
      exact ⟨_, rfl, _, _, rfl, hs⟩
set_option maxRecDepth 100000 in
set_option maxHeartbeats 1000000 in
theorem Join_c (w : World) (A : Option Addr) (n c : Nat) (vs : List Value) (ls : List (List Int)) (hr : Rd w A n c 1 (El.val.flat vs)) (hp : Parts w vs ls) (hn : (ls.map List.length).sum ≤ 140737488355328) (hn2 : n ≤ 140737488355328) :
    Calls Try.prog 79 [.slice A n c].toArray w (Ret (fun v' w' => ∃ A' c', v' = .slice A' ls.flatten.length c' ∧ Sat w w' [Own 5 1 v' ls.flatten.length (bytesV ls.flatten)])) := by
  refine Calls_body Try.func79 rfl rfl rfl (envE_cons (i := 0) (v := .slice A n c) rfl envE_nil) ?_
  refine St_seq ?_
  refine St_region ?_
  refine Ls_run (run_assign rfl) rfl ?_
  refine Ls_nil ?_
  refine Jm_seq ?_
  refine St_seq ?_
  refine St_region ?_
  refine Ls_run (run_move rfl) rfl ?_
  refine Ls_call Try.func94 nm94 rfl rfl (Concat_c w _ _ _ vs ls hr hp hn hn2) rfl ?_
  rintro v1 w2 ⟨AG, cG, rfl, hs⟩
  refine Ls_run (run_assign rfl) rfl ?_
  refine Ls_nil ?_
  refine Jm_seq ?_
  refine St_ret ?_
  refine Jm_ret1 rfl rfl ?_
  exact ⟨_, rfl, _, _, rfl, hs⟩
set_option maxRecDepth 100000 in
set_option maxHeartbeats 1000000 in
theorem rPut_c (w : World) (x0 : Nat) (hx : x0 < 18446744073709551616) :
    Calls Try.prog 86 [.int .u64 (x0 : Int)].toArray w (Ret (fun v' w' => ∃ A c, v' = .slice A (pb x0).length c ∧ Sat w w' [Own 5 1 v' (pb x0).length (bytesV (pb x0))])) := by
  have hs := Sat.start w
  have h10 := pb_len10 hx
  refine Calls_body Try.func86 rfl rfl rfl (envE_cons (i := 0) (v := .int .u64 (x0 : Int)) rfl envE_nil) ?_
  refine St_seq ?_
  refine St_region ?_
  refine Ls_run (run_assign rfl) rfl ?_
  refine Ls_nil ?_
  refine Jm_seq ?_
  refine St_seq ?_
  refine St_region ?_
  refine Ls_literal [] hs Try.underlying31 inf5 rfl rfl rfl rfl rfl rfl ?_
  intro b1 w2 hs
  simp only [List.flatMap_cons, List.flatMap_nil, Value.cells, List.cons_append, List.nil_append] at hs
  replace hs := Sat.own_block hs 1 0 rfl (by decide)
  refine Ls_run (run_assign rfl) rfl ?_
  refine Ls_nil ?_
  refine Jm_seq ?_
  refine St_seq ?_
  refine St_block ?_
  obtain ⟨En3, hEn3⟩ : ∃ F : Nat × Value × Nat × List Int → Env, ∀ (x : Nat) (v : Value) (m : Nat) (ys : List Int), F (x, v, m, ys) = [(3, v), (0, .int .u64 (x : Int))] := ⟨(fun (s : Nat × Value × Nat × List Int) => match s with | (x, v, m, ys) => [(3, v), (0, .int .u64 (x : Int))]), fun _ _ _ _ => rfl⟩
  obtain ⟨Iv4, hIv4⟩ : ∃ F : Nat × Value × Nat × List Int → World → Prop, ∀ (x : Nat) (v : Value) (m : Nat) (ys : List Int) (wr : World), F (x, v, m, ys) wr = (Sat w wr [Own 5 1 v m (bytesV ys)] ∧ x < 18446744073709551616 ∧ ys ++ pb x = pb x0 ∧ m + (pb x).length = (pb x0).length) := ⟨(fun (s : Nat × Value × Nat × List Int) => match s with | (x, v, m, ys) => fun (wr : World) => Sat w wr [Own 5 1 v m (bytesV ys)] ∧ x < 18446744073709551616 ∧ ys ++ pb x = pb x0 ∧ m + (pb x).length = (pb x0).length), fun _ _ _ _ _ => rfl⟩
  obtain ⟨ms5, hms5⟩ : ∃ F : Nat × Value × Nat × List Int → Nat, ∀ (x : Nat) (v : Value) (m : Nat) (ys : List Int), F (x, v, m, ys) = (x) := ⟨(fun (s : Nat × Value × Nat × List Int) => match s with | (x, v, m, ys) => x), fun _ _ _ _ => rfl⟩
  refine St_loop En3 Iv4 ms5 (x0, (Value.slice (some ⟨b1, 0, none⟩) 0 0), 0, []) ?_ ?_ ?_
  · skip
    rw [hIv4]
    exact ⟨hs, hx, rfl, by omega⟩
  · rw [hEn3]; exact (subE_cons rfl (subE_cons rfl subE_nil))
  rintro ⟨x, v, m, ys⟩ wr hI6
  rw [hIv4] at hI6
  obtain ⟨hs, hx, hp, hl⟩ := hI6
  refine St_eqE (hEn3 _ _ _ _) ?_
  have hpos := pb_pos x
  refine St_seq ?_
  refine St_seq ?_
  refine St_region ?_
  refine Ls_run (run_move rfl) rfl ?_
  refine Ls_run (run_geq rfl rfl) rfl ?_
  refine Ls_nil ?_
  refine Jm_seq ?_
  refine St_ifP rfl (fun h7 => ?_) (fun h7 => ?_)
  · skip
    refine St_skip ?_
    refine Jm_seq ?_
    refine St_block ?_
    refine St_seq ?_
    refine St_region ?_
    refine Ls_run (run_move rfl) rfl ?_
    refine Ls_run (run_move rfl) rfl ?_
    refine Ls_run (run_rem rfl rfl (by decide) (rem_u x 128 _ rfl)) rfl ?_
    refine Ls_run (run_conv_int Try.underlying5 us114 rfl (wu8 (by omega))) rfl ?_
    refine Ls_run (run_add rfl rfl (show _ = ((x % 128 + 128 : Nat) : Int) by rw [wu8 (by omega)]; omega)) rfl ?_
    refine Ls_literal [_] hs Try.underlying31 inf5 rfl rfl rfl rfl rfl rfl ?_
    intro b8 w9 hs
    simp only [List.flatMap_cons, List.flatMap_nil, Value.cells, List.cons_append, List.nil_append] at hs
    replace hs := hs.front 1 rfl
    simp only [List.cons_append, List.nil_append, List.eraseIdx_cons_zero, List.eraseIdx_cons_succ] at hs
    refine Ls_append hs Try.underlying31 inf5 rfl (by decide) (by decide) rfl rfl (rd_block (hs.is_at 1 rfl).2 1 1 rfl) (by simp [Value.oneCell']) (by omega) rfl ?_
    intro A10 c11 w12 hs
    replace hs := hs.erase 1
    simp only [List.cons_append, List.nil_append, List.eraseIdx_cons_zero, List.eraseIdx_cons_succ] at hs
    refine Ls_run (run_assign rfl) rfl ?_
    refine Ls_nil ?_
    refine Jm_seq ?_
    refine St_region ?_
    refine Ls_run (run_move rfl) rfl ?_
    refine Ls_run (run_quo rfl rfl (by decide) (quo_u x 128 hx)) rfl ?_
    refine Ls_run (run_assign rfl) rfl ?_
    refine Ls_nil ?_
    refine Jm_block_normal ?_
    rw [pb_big (n := x) (by omega)] at hp hl
    simp only [List.length_cons] at hl
    refine Jm_round (x / 128, Value.slice A10 (m + 1) c11, m + 1, ys ++ [((x % 128 + 128 : Nat) : Int)]) ?_ ?_ ?_
    · rw [hEn3]; exact (subE_cons rfl (subE_cons rfl subE_nil))
    · skip
      rw [hIv4]
      refine ⟨?_, by omega, ?_, by omega⟩
      · rw [bytesV_append]; exact hs
      · rw [← hp]; simp
    · skip
      rw [hms5, hms5]
      omega
  · skip
    refine St_exit ?_
    refine Jm_then_exit (Jm_then_exit (Jm_block_same (Jm_seq ?_)))
    refine St_seq ?_
    refine St_region ?_
    refine Ls_run (run_move rfl) rfl ?_
    refine Ls_run (run_move rfl) rfl ?_
    refine Ls_run (run_conv_int Try.underlying5 us114 rfl rfl) rfl ?_
    refine Ls_literal [_] hs Try.underlying31 inf5 rfl rfl rfl rfl rfl rfl ?_
    intro b13 w14 hs
    simp only [List.flatMap_cons, List.flatMap_nil, Value.cells, List.cons_append, List.nil_append] at hs
    replace hs := hs.front 1 rfl
    simp only [List.cons_append, List.nil_append, List.eraseIdx_cons_zero, List.eraseIdx_cons_succ] at hs
    refine Ls_append hs Try.underlying31 inf5 rfl (by decide) (by decide) rfl rfl (rd_block (hs.is_at 1 rfl).2 1 1 rfl) (by simp [Value.oneCell']) (by omega) rfl ?_
    intro A15 c16 w17 hs
    replace hs := hs.erase 1
    simp only [List.cons_append, List.nil_append, List.eraseIdx_cons_zero, List.eraseIdx_cons_succ] at hs
    refine Ls_run (run_assign rfl) rfl ?_
    refine Ls_nil ?_
    refine Jm_seq ?_
    refine St_seq ?_
    refine St_region ?_
    refine Ls_run (run_move rfl) rfl ?_
    refine Ls_run (run_assign rfl) rfl ?_
    refine Ls_nil ?_
    refine Jm_seq ?_
    refine St_ret ?_
    refine Jm_ret1 rfl rfl ?_
    rw [pb_small (n := x) (by omega)] at hp hl
    have e : IntKind.u8.wrap (x : Int) = (x : Int) := wu8 (by omega)
    rw [e] at hs
    have e2 : m + 1 = (pb x0).length := by simpa using hl
    rw [e2] at hs
    have e3 : bytesV (pb x0) = bytesV ys ++ bytesV [(x : Int)] := by rw [← hp, bytesV_append]
    rw [e2, e3]
    exact ⟨_, rfl, _, _, rfl, hs⟩

theorem or_shl8 (i : Nat) (hi : i < 8) (acc c : Nat) (ha : acc < 256 ^ i) (hc : c < 256) :
    Go.bits .or .u64 (acc : Int) (IntKind.u64.wrap (IntKind.u64.wrap (c : Int) * 2 ^ min (8 * (i : Int)).toNat IntKind.u64.bits)) = ((acc + c * 256 ^ i : Nat) : Int) := by
  have hp : (256 : Nat) ^ i = 2 ^ (8 * i) := by rw [Nat.pow_mul]
  have hb : c * 256 ^ i < 18446744073709551616 ∧ 256 ^ i ≤ 9223372036854775808 := by
    have : i = 0 ∨ i = 1 ∨ i = 2 ∨ i = 3 ∨ i = 4 ∨ i = 5 ∨ i = 6 ∨ i = 7 := by omega
    rcases this with rfl | rfl | rfl | rfl | rfl | rfl | rfl | rfl <;> simp only [Nat.reducePow] <;> omega
  have hm : min (8 * (i : Int)).toNat IntKind.u64.bits = 8 * i := by
    have : IntKind.u64.bits = 64 := rfl
    omega
  rw [wu64 (n := (c : Int)) (by omega), hm]
  have hs : (c : Int) * 2 ^ (8 * i) = ((c * 256 ^ i : Nat) : Int) := by rw [hp]; simp
  rw [hs, wu64 (by omega), u64_or_nat _ _ (by omega) hb.1, hp]
  rw [hp] at ha
  congr 1
  rw [Nat.or_comm, ← Nat.shiftLeft_eq, ← Nat.shiftLeft_add_eq_or_of_lt ha, Nat.add_comm]
theorem getD_mem' {l : List Int} {i : Nat} (h : i < l.length) : l.getD i 0 ∈ l := by
  rw [List.getD_eq_getElem?_getD, List.getElem?_eq_getElem h]; exact List.getElem_mem _
theorem take_snoc' {l : List Int} {i : Nat} (h : i < l.length) : l.take (i + 1) = l.take i ++ [l.getD i 0] := by
  rw [List.take_succ_eq_append_getElem h, List.getD_eq_getElem?_getD, List.getElem?_eq_getElem h]; rfl
theorem drop_cons' {l : List Int} {i : Nat} (h : i < l.length) : l.drop i = l.getD i 0 :: l.drop (i + 1) := by
  rw [List.drop_eq_getElem_cons h, List.getD_eq_getElem?_getD, List.getElem?_eq_getElem h]; rfl
end Go.Proofs.Ytpmkedgennnekaa.Lg
