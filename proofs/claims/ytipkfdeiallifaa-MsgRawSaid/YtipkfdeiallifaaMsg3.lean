/-
  Encode, and the reference's Encode. By program (gen/msg3.py).
-/
import Derived.Test.YtipkfdeiallifaaMsg2s
import Derived.Test.YtipkfdeiallifaaWire4
set_option linter.unusedVariables false
set_option linter.unusedSimpArgs false
namespace Go.Proofs.Ytipkfdeiallifaa.Lg
open Go Go.RowKit Go.Proofs.Ytipkfdeiallifaa.WirePure
theorem wuI {a : Int} (h : 0 ≤ a ∧ a < 18446744073709551616) : IntKind.u64.wrap a = ((a.toNat : Nat) : Int) := by rw [wu64 (by omega)]; omega
theorem pairsB_snoc {l : List Pr} {i : Nat} {y : Pr} (hi : i < l.length) (h : l.getD i (0, false, 0) = y) : pairsB (l.take (i + 1)) = pairsB (l.take i) ++ (pb y.1.toNat ++ wd 8 y.2.2.toNat) := by
  rw [take_snoc3 (d := (0, false, 0)) hi, h]; simp [pairsB]
theorem body_1 {x : MC} (h : mof x.k = 1) : bodyB x = nm x.es := by unfold bodyB; rw [if_pos h]
theorem body_2 {x : MC} (h : mof x.k = 2) : bodyB x = pb x.ks.length ++ nmB x.ks := by unfold bodyB; rw [if_neg (by omega), if_pos h]
theorem body_3 {x : MC} (h : mof x.k = 3) : bodyB x = pb x.ps.length ++ pairsB x.ps := by unfold bodyB; rw [if_neg (by omega), if_neg (by omega), if_pos h]
theorem body_4 {x : MC} (h : mof x.k = 4) : bodyB x = pb x.c.toNat := by unfold bodyB; rw [if_neg (by omega), if_neg (by omega), if_neg (by omega), if_pos h]
theorem nms_neg {x : MC} (h : Msound x) (h1 : mof x.k = 1) : ¬ anyNeg x.es := fun ⟨y, hy, h0⟩ => by have := (h.2.2.2.2.2.1 h1).1 y hy; omega
theorem h5_at {a b c d e : Int} {i : Nat} (h : i < 5) : ([.int .i64 a, .int .i64 b, .int .i64 c, .int .i64 d, .int .i64 e] : List Value)[i]? = some (.int .i64 ([a, b, c, d, e].getD i 0)) := by
  have : i = 0 ∨ i = 1 ∨ i = 2 ∨ i = 3 ∨ i = 4 := by omega
  rcases this with rfl | rfl | rfl | rfl | rfl <;> rfl
set_option maxRecDepth 100000 in
set_option maxHeartbeats 1000000 in
theorem put1_c (B w : World) (L : List Assn) (g : Nat) (v0 : Value) (m : Nat) (bs : List Int) (k : Int) (hs : Sat B w (Blk g [v0] 28 :: Own 5 1 v0 m (bytesV bs) :: L)) (hk : 0 ≤ k ∧ k < 9223372036854775808) (hm : m + 10 ≤ 140737488355328) :
    Calls Try.prog 61 [.int .i64 k, .pointer (some ⟨g, 0, none⟩)].toArray w (Ret (fun v' w' => v' = .tuple #[] ∧ ∃ A c, Sat B w' (Blk g [.slice A (m + (pb k.toNat).length) c] 28 :: Own 5 1 (.slice A (m + (pb k.toNat).length) c) (m + (pb k.toNat).length) (bytesV (bs ++ pb k.toNat)) :: L))) := by
  refine Calls_body Try.func61 rfl rfl rfl (envE_cons (i := 0) (v := .int .i64 k) rfl (envE_cons (i := 1) (v := .pointer (some ⟨g, 0, none⟩)) rfl envE_nil)) ?_
  refine St_holdC 5 (Hold.of (Ls := [_]) hs) mixed ?_
  intro w1 q2
  replace hs := hs.quiet q2
  have hH := Hold.of (Ls := [_]) hs
  refine AnC_take 0 [5, 0] rfl (by kernel_rfl) (by kernel_rfl) (by kernel_rfl) (by kernel_rfl) (fun _ _ _ h => h) hH (fun x hx => run_load sc28 rfl (hx.choose_spec.blk_at 0 rfl 0 rfl)) rfl ?_
  refine AnC_takeP 1 (by kernel_rfl) rfl (by kernel_rfl) (by kernel_rfl) (by kernel_rfl) (fun _ _ _ h => h) (fun _ => hH) (fun x => run_move rfl) rfl ?_
  refine AnC_takeP 2 (by kernel_rfl) rfl (by kernel_rfl) (by kernel_rfl) (by kernel_rfl) (fun _ _ _ h => h) (fun _ => hH) (fun x => run_conv_int Try.underlying38 us3 rfl (wuI (by omega))) rfl ?_
  refine AnC_only 3 (by kernel_rfl) rfl ?_
  have h10P := pb_len10 (n := k.toNat) (by omega)
  refine Ls_call Try.func62 nm62 rfl rfl (Put_c w1 (k.toNat) (by omega)) rfl ?_
  rintro v3 w4 ⟨AP, cP, rfl, hsP⟩
  replace hs := hs.trans hsP
  simp only [List.nil_append, List.cons_append] at hs
  replace hs := hs.front 1 rfl
  simp only [List.cons_append, List.nil_append, List.eraseIdx_cons_zero, List.eraseIdx_cons_succ] at hs
  replace hH := Hold.of (Ls := [_]) hs
  refine Ls_nil (Jm_AnC (fun _ => hH) ?_)
  refine AnC_only 4 (by kernel_rfl) rfl ?_
  replace hs := hs.front 2 rfl
  simp only [List.cons_append, List.nil_append, List.eraseIdx_cons_zero, List.eraseIdx_cons_succ] at hs
  refine Ls_append hs Try.underlying28 inf5 rfl (by decide) (by decide) rfl rfl (hs.rd_at 2 rfl) (bytesV_one' _) (by omega) rfl ?_
  intro A5 c6 w7 hs
  replace hs := hs.front 1 rfl
  simp only [List.cons_append, List.nil_append, List.eraseIdx_cons_zero, List.eraseIdx_cons_succ] at hs
  replace hH := Hold.of (Ls := [_]) hs
  refine Ls_nil (Jm_AnC (fun _ => hH) ?_)
  refine AnC_only 5 (by kernel_rfl) rfl ?_
  refine Ls_store hs inf28 rfl rfl rfl rfl ?_
  intro w9 hs
  try simp only [List.set_cons_zero, List.set_cons_succ] at hs
  refine Ls_nil (Jm_AnC_closed (by kernel_rfl) ?_)
  refine AnC_done (by kernel_rfl) ?_
  refine Jm_end0 rfl ?_
  replace hs := hs.erase 2
  simp only [List.cons_append, List.nil_append, List.eraseIdx_cons_zero, List.eraseIdx_cons_succ] at hs
  rw [bytesV_append]
  exact ⟨_, rfl, rfl, _, _, hs⟩
set_option maxRecDepth 100000 in
set_option maxHeartbeats 1000000 in
theorem Encode_c (w : World) (x : MC) (p : MP) (hm : MRd w x p) (hze : p.en ≤ 9223372036854775807) (hzk : p.kn ≤ 9223372036854775807) (hzp : p.pn ≤ 9223372036854775807) (hin : MIn x) :
    Calls Try.prog 16 [.agg #[.int .i64 x.k, .int .i64 x.f, .int .i64 x.t, .int .i64 x.b, .int .i64 x.a, .int .i64 x.c, .slice p.eA p.en p.ec, .slice p.kA p.kn p.kc, .slice p.pA p.pn p.pc]].toArray w (Ret (fun v' w' => (¬ Msound x ∧ v' = .tuple #[.slice none 0 0, .int .i64 150] ∧ Sat w w' []) ∨ (Msound x ∧ ∃ A c, v' = .tuple #[.slice A (Menc x).length c, .int .i64 0] ∧ Sat w w' [Own 5 1 (.slice A (Menc x).length c) (Menc x).length (bytesV (Menc x))]))) := by
  have hs := Sat.start w
  have hen := hm.en
  have hkn := hm.kn
  have hpn := hm.pn
  have hmr := mof_range x.k
  obtain ⟨h5, hh5⟩ : ∃ l, l = [x.k, x.f, x.t, x.b, x.a] := ⟨_, rfl⟩
  have h5n : h5.length = 5 := by rw [hh5]; rfl
  refine Calls_body Try.func16 rfl rfl rfl (envE_cons (i := 0) (v := .agg #[.int .i64 x.k, .int .i64 x.f, .int .i64 x.t, .int .i64 x.b, .int .i64 x.a, .int .i64 x.c, .slice p.eA p.en p.ec, .slice p.kA p.kn p.kc, .slice p.pA p.pn p.pc]) rfl envE_nil) ?_
  refine St_seq ?_
  refine St_region ?_
  refine Ls_box hs rfl rfl ?_
  intro b2 w1 hs
  refine Ls_run (run_assign rfl) rfl ?_
  refine Ls_run (run_assign rfl) rfl ?_
  refine Ls_nil ?_
  refine Jm_seq ?_
  refine St_seq ?_
  refine St_seq ?_
  refine St_region ?_
  refine Ls_run (run_load_agg agg26 inf26 rfl rfl (hs.blk_cells 0 rfl 0 9)) rfl ?_
  refine Ls_call Try.func18 nm18 rfl rfl (Sound_c w1 x p (hm.inB hs) hze hzk hzp) rfl ?_
  rintro v3 w4 ⟨rfl, hsQ5⟩
  replace hs := hs.trans hsQ5
  refine Ls_run (run_not rfl) rfl ?_
  refine Ls_nil ?_
  refine Jm_seq ?_
  refine St_ifN rfl (fun h6 => ?_) (fun h6 => ?_)
  · skip
    refine St_seq ?_
    refine St_region ?_
    refine Ls_run (run_assign rfl) rfl ?_
    refine Ls_run (run_assign rfl) rfl ?_
    refine Ls_nil ?_
    refine Jm_seq ?_
    refine St_ret ?_
    refine Jm_then_ret  ?_
    refine Jm_ret2 rfl rfl rfl ?_
    exact ⟨_, rfl, .inl ⟨by assumption, rfl, hs.forget⟩⟩
  · skip
    have hso : Msound x := by assumption
    have hsn := sound_num hso
    have hkr : 0 ≤ x.k ∧ x.k < 9223372036854775808 := by have h0 := hsn.1; unfold mof at h0; repeat (first | omega | split at h0)
    have h5r : ∀ y ∈ h5, 0 ≤ y ∧ y < 9223372036854775808 := by
      rw [hh5]; intro y hy; simp only [List.mem_cons, List.not_mem_nil, or_false] at hy; rcases hy with rfl | rfl | rfl | rfl | rfl <;> omega
    refine St_skip ?_
    refine Jm_seq ?_
    refine St_seq ?_
    refine St_region ?_
    refine Ls_alloc hs inf28 rfl ?_
    intro b8 w7 hs
    refine Ls_nil ?_
    refine Jm_seq ?_
    refine St_seq ?_
    refine St_region ?_
    replace hs := hs.own_nil 5 1
    refine Ls_run (run_func (cap := [_]) rfl) rfl ?_
    refine Ls_run (run_assign rfl) rfl ?_
    refine Ls_nil ?_
    refine Jm_seq ?_
    refine St_seq ?_
    refine St_seq ?_
    refine St_region ?_
    refine Ls_run (run_as (run_field Try.underlying26 rfl inf3 (by decide) rfl) (show _ = Value.pointer (some ⟨b2, 0, none⟩) from rfl)) rfl ?_
    refine Ls_run (run_load sc3 rfl (hs.blk_at 2 rfl 0 rfl)) rfl ?_
    refine Ls_run (run_as (run_field Try.underlying26 rfl inf3 (by decide) rfl) (show _ = Value.pointer (some ⟨b2, 1, none⟩) from rfl)) rfl ?_
    refine Ls_run (run_load sc3 rfl (hs.blk_at 2 rfl 1 rfl)) rfl ?_
    refine Ls_run (run_as (run_field Try.underlying26 rfl inf3 (by decide) rfl) (show _ = Value.pointer (some ⟨b2, 2, none⟩) from rfl)) rfl ?_
    refine Ls_run (run_load sc3 rfl (hs.blk_at 2 rfl 2 rfl)) rfl ?_
    refine Ls_run (run_as (run_field Try.underlying26 rfl inf3 (by decide) rfl) (show _ = Value.pointer (some ⟨b2, 3, none⟩) from rfl)) rfl ?_
    refine Ls_run (run_load sc3 rfl (hs.blk_at 2 rfl 3 rfl)) rfl ?_
    refine Ls_run (run_as (run_field Try.underlying26 rfl inf3 (by decide) rfl) (show _ = Value.pointer (some ⟨b2, 4, none⟩) from rfl)) rfl ?_
    refine Ls_run (run_load sc3 rfl (hs.blk_at 2 rfl 4 rfl)) rfl ?_
    refine Ls_literal [_, _, _, _, _] hs Try.underlying22 inf3 rfl rfl rfl rfl rfl rfl ?_
    intro b9 w10 hs
    simp only [List.flatMap_cons, List.flatMap_nil, Value.cells, List.cons_append, List.nil_append] at hs
    refine Ls_run (run_len Try.underlying22 rfl) rfl ?_
    refine Ls_run (run_move rfl) rfl ?_
    refine Ls_nil ?_
    refine Jm_seq ?_
    refine St_block ?_
    replace hs := hs.front 3 rfl
    simp only [List.cons_append, List.nil_append, List.eraseIdx_cons_zero, List.eraseIdx_cons_succ] at hs
    replace hs := hs.front 1 rfl
    simp only [List.cons_append, List.nil_append, List.eraseIdx_cons_zero, List.eraseIdx_cons_succ] at hs
    replace hs := hs.front 2 rfl
    simp only [List.cons_append, List.nil_append, List.eraseIdx_cons_zero, List.eraseIdx_cons_succ] at hs
    replace hs := hs.front 3 rfl
    simp only [List.cons_append, List.nil_append, List.eraseIdx_cons_zero, List.eraseIdx_cons_succ] at hs
    obtain ⟨En11, hEn11⟩ : ∃ F : Nat × Value × Nat → Env, ∀ (i : Nat) (v : Value) (m : Nat), F (i, v, m) = [(1, .pointer (some ⟨b2, 0, none⟩)), (4, .pointer (some ⟨b8, 0, none⟩)), (5, .func (.func 61) #[] [.pointer (some ⟨b8, 0, none⟩)].toArray), (28, .slice (some ⟨b9, 0, none⟩) 5 5), (29, .int .i64 5), (30, .int .i64 (i : Int))] := ⟨(fun (s : Nat × Value × Nat) => match s with | (i, v, m) => [(1, .pointer (some ⟨b2, 0, none⟩)), (4, .pointer (some ⟨b8, 0, none⟩)), (5, .func (.func 61) #[] [.pointer (some ⟨b8, 0, none⟩)].toArray), (28, .slice (some ⟨b9, 0, none⟩) 5 5), (29, .int .i64 5), (30, .int .i64 (i : Int))]), fun _ _ _ => rfl⟩
    obtain ⟨Iv12, hIv12⟩ : ∃ F : Nat × Value × Nat → World → Prop, ∀ (i : Nat) (v : Value) (m : Nat) (wr : World), F (i, v, m) wr = (Sat w wr [Blk b8 [v] 28, Own 5 1 v m (bytesV (nmB (h5.take i))), Blk b9 [.int .i64 x.k, .int .i64 x.f, .int .i64 x.t, .int .i64 x.b, .int .i64 x.a] 3, Blk b2 [.int .i64 x.k, .int .i64 x.f, .int .i64 x.t, .int .i64 x.b, .int .i64 x.a, .int .i64 x.c, .slice p.eA p.en p.ec, .slice p.kA p.kn p.kc, .slice p.pA p.pn p.pc] 26] ∧ i ≤ 5 ∧ m ≤ 10 * i) := ⟨(fun (s : Nat × Value × Nat) => match s with | (i, v, m) => fun (wr : World) => Sat w wr [Blk b8 [v] 28, Own 5 1 v m (bytesV (nmB (h5.take i))), Blk b9 [.int .i64 x.k, .int .i64 x.f, .int .i64 x.t, .int .i64 x.b, .int .i64 x.a] 3, Blk b2 [.int .i64 x.k, .int .i64 x.f, .int .i64 x.t, .int .i64 x.b, .int .i64 x.a, .int .i64 x.c, .slice p.eA p.en p.ec, .slice p.kA p.kn p.kc, .slice p.pA p.pn p.pc] 26] ∧ i ≤ 5 ∧ m ≤ 10 * i), fun _ _ _ _ => rfl⟩
    obtain ⟨ms13, hms13⟩ : ∃ F : Nat × Value × Nat → Nat, ∀ (i : Nat) (v : Value) (m : Nat), F (i, v, m) = (5 - i) := ⟨(fun (s : Nat × Value × Nat) => match s with | (i, v, m) => 5 - i), fun _ _ _ => rfl⟩
    refine St_loop En11 Iv12 ms13 (0, Value.slice none 0 0, 0) ?_ ?_ ?_
    · skip
      rw [hIv12]
      exact ⟨hs, by omega, by omega⟩
    · rw [hEn11]; exact (subE_cons rfl (subE_cons rfl (subE_cons rfl (subE_cons rfl (subE_cons rfl (subE_cons rfl subE_nil))))))
    rintro ⟨i, v, m⟩ wr hI14
    rw [hIv12] at hI14
    obtain ⟨hs, hi, hm10⟩ := hI14
    refine St_eqE (hEn11 _ _ _) ?_
    refine St_seq ?_
    refine St_region ?_
    refine Ls_run (run_lss rfl rfl) rfl ?_
    refine Ls_nil ?_
    refine Jm_seq ?_
    refine St_seq ?_
    refine St_ifP rfl (fun h15 => ?_) (fun h15 => ?_)
    · skip
      refine St_skip ?_
      refine Jm_seq ?_
      refine St_seq ?_
      refine St_block ?_
      refine St_seq ?_
      refine St_region ?_
      have h5m : h5.getD i 0 ∈ h5 := getD_mem3 (by omega)
      have h5b := h5r _ h5m
      have h5s := nmB_take_succ h5 i (by omega)
      refine Ls_index (El.int .i64) (by rw [hh5]; exact rd_block (hs.is_at 2 rfl).2 1 5 rfl) Try.underlying22 inf3 rfl rfl (by omega) (by omega) (show _ = h5.getD i 0 from rfl) rfl ?_
      intro b16 o17 hc18
      refine Ls_run (run_load sc3 rfl (hc18 0 _ rfl)) rfl ?_
      refine Ls_run (run_assign rfl) rfl ?_
      refine Ls_nil ?_
      refine Jm_seq ?_
      refine St_region ?_
      refine Ls_run (run_move rfl) rfl ?_
      refine Ls_run (run_move rfl) rfl ?_
      replace hs := hs.front 1 rfl
      simp only [List.cons_append, List.nil_append, List.eraseIdx_cons_zero, List.eraseIdx_cons_succ] at hs
      replace hs := hs.front 1 rfl
      simp only [List.cons_append, List.nil_append, List.eraseIdx_cons_zero, List.eraseIdx_cons_succ] at hs
      have h10_21 := pb_len10 (n := (h5.getD i 0).toNat) (by omega)
      refine Ls_callv (cap := [.pointer (some ⟨b8, 0, none⟩)]) Try.func61 nm61 rfl rfl rfl (put1_c w wr _ _ v (m) (nmB (h5.take i)) (h5.getD i 0) hs (by omega) (by omega)) rfl ?_
      rintro v19 w20 ⟨rfl, Ap21, cp21, hs⟩
      refine Ls_nil ?_
      refine Jm_block_normal (Jm_seq ?_)
      refine St_region ?_
      refine Ls_run (run_add rfl rfl (w64 (by omega))) rfl ?_
      refine Ls_run (run_move rfl) rfl ?_
      refine Ls_nil ?_
      refine Jm_round (i + 1, (Value.slice Ap21 (m + (pb (h5.getD i 0).toNat).length) cp21), m + (pb (h5.getD i 0).toNat).length) ?_ ?_ ?_
      · rw [hEn11]; exact (subE_cons rfl (subE_cons rfl (subE_cons rfl (subE_cons rfl (subE_cons rfl (subE_cons rfl subE_nil))))))
      · skip
        rw [hIv12]
        rw [h5s]
        exact ⟨hs, by omega, by omega⟩
      · skip
        rw [hms13, hms13]
        omega
    · skip
      have hi9 : i = 5 := by omega
      rw [hi9, List.take_of_length_le (by omega)] at hs
      have hm50 : m ≤ 50 := by omega
      clear hm10 hi
      refine St_exit ?_
      refine Jm_then_exit (Jm_then_exit (Jm_block_same (Jm_seq ?_)))
      refine St_seq ?_
      refine St_seq ?_
      refine St_region ?_
      refine Ls_run (run_as (run_field Try.underlying26 rfl inf3 (by decide) rfl) (show _ = Value.pointer (some ⟨b2, 0, none⟩) from rfl)) rfl ?_
      refine Ls_run (run_load sc3 rfl (hs.blk_at 3 rfl 0 rfl)) rfl ?_
      refine Ls_call Try.func63 nm63 rfl rfl (of_c wr x.k) rfl ?_
      rintro v22 w23 ⟨rfl, rfl⟩
      refine Ls_nil ?_
      refine Jm_seq ?_
      refine St_block ?_
      refine St_seq ?_
      refine St_region ?_
      refine Ls_run (run_eql rfl rfl) rfl ?_
      refine Ls_run (run_assign rfl) rfl ?_
      refine Ls_nil ?_
      refine Jm_seq ?_
      refine St_ifP rfl (fun h24 => ?_) (fun h24 => ?_)
      · skip
        refine St_seq ?_
        refine St_region ?_
        refine Ls_run (run_as (run_field Try.underlying26 rfl inf22 (by decide) rfl) (show _ = Value.pointer (some ⟨b2, 6, none⟩) from rfl)) rfl ?_
        refine Ls_run (run_load sc22 rfl (hs.blk_at 3 rfl 6 rfl)) rfl ?_
        refine Ls_call Try.func64 nm64 rfl rfl (Nums_c wr _ _ _ x.es (hm.e.inB hs) (by omega) (fun y hy => by have := ((hso.2.2.2.2.2.1 (by assumption)).1 y hy).2; omega)) rfl ?_
        rintro v25 w26 (⟨hneg, _⟩ | ⟨_, An, cn, rfl, hsN⟩)
        · exact absurd hneg (nms_neg hso (by assumption))
        replace hs := hs.trans hsN
        simp only [List.nil_append, List.cons_append] at hs
        have hnl := nmB_len (list := x.es) (fun y hy => by have := ((hso.2.2.2.2.2.1 (by assumption)).1 y hy).2; omega)
        have hnl2 : (nm x.es).length ≤ 60 := by unfold nm; rw [List.length_append]; have := pb_len10 (n := x.es.length) (by omega); omega
        refine Ls_run (run_move rfl) rfl ?_
        refine Ls_run (run_extract rfl rfl) rfl ?_
        refine Ls_run (run_extract rfl rfl) rfl ?_
        refine Ls_run (run_assign rfl) rfl ?_
        refine Ls_run (run_assign rfl) rfl ?_
        refine Ls_nil ?_
        refine Jm_seq ?_
        refine St_region ?_
        refine Ls_run (run_load sc28 rfl (hs.blk_at 1 rfl 0 rfl)) rfl ?_
        refine Ls_run (run_move rfl) rfl ?_
        replace hs := hs.front 2 rfl
        simp only [List.cons_append, List.nil_append, List.eraseIdx_cons_zero, List.eraseIdx_cons_succ] at hs
        refine Ls_append hs Try.underlying28 inf5 rfl (by decide) (by decide) rfl rfl (hs.rd_at 1 rfl) (bytesV_one' _) (by omega) rfl ?_
        intro A27 c28 w29 hs
        rw [← bytesV_append] at hs
        replace hs := hs.front 2 rfl
        simp only [List.cons_append, List.nil_append, List.eraseIdx_cons_zero, List.eraseIdx_cons_succ] at hs
        refine Ls_store hs inf28 rfl rfl rfl rfl ?_
        intro w30 hs
        try simp only [List.set_cons_zero, List.set_cons_succ] at hs
        refine Ls_nil ?_
        refine Jm_block_normal (Jm_seq ?_)
        refine St_seq ?_
        refine St_region ?_
        refine Ls_run (run_load sc28 rfl (hs.blk_at 0 rfl 0 rfl)) rfl ?_
        refine Ls_run (run_assign rfl) rfl ?_
        refine Ls_run (run_assign rfl) rfl ?_
        refine Ls_nil ?_
        refine Jm_seq ?_
        refine St_ret ?_
        refine Jm_ret2 rfl rfl rfl ?_
        replace hs := hs.front 1 rfl
        simp only [List.cons_append, List.nil_append, List.eraseIdx_cons_zero, List.eraseIdx_cons_succ] at hs
        replace hs := hs.erase 1
        simp only [List.cons_append, List.nil_append, List.eraseIdx_cons_zero, List.eraseIdx_cons_succ] at hs
        replace hs := hs.erase 1
        simp only [List.cons_append, List.nil_append, List.eraseIdx_cons_zero, List.eraseIdx_cons_succ] at hs
        replace hs := hs.erase 1
        simp only [List.cons_append, List.nil_append, List.eraseIdx_cons_zero, List.eraseIdx_cons_succ] at hs
        replace hs := hs.erase 1
        simp only [List.cons_append, List.nil_append, List.eraseIdx_cons_zero, List.eraseIdx_cons_succ] at hs
        have hE : Menc x = nmB h5 ++ nm x.es := by
          show nmB _ ++ bodyB x = _
          rw [← hh5]
          first
          | (rw [body_1 (by assumption)])
          | (rw [body_2 (by assumption)]; have hz9 : i2 = p.kn := by omega
             rw [hz9, List.take_of_length_le (by omega), hkn, List.append_assoc, Int.toNat_natCast])
          | (rw [body_3 (by assumption)]; have hz9 : i2 = p.pn := by omega
             rw [hz9, List.take_of_length_le (by omega), hpn, List.append_assoc, Int.toNat_natCast])
          | (rw [body_4 (by assumption)])
          | (exfalso; omega)
        obtain ⟨A9, c9, hv9, _, _, _⟩ := hs.own_form
        have hs9 := hs
        rw [hv9] at hs9
        have hln := rdB_len (hs9.rd_at 0 rfl)
        refine ⟨_, rfl, .inr ⟨hso, A9, c9, ?_, ?_⟩⟩
        · rw [hE, hln, hv9]
        · rw [hE, hln]; exact hs9
      · skip
        refine St_seq ?_
        refine St_region ?_
        refine Ls_run (run_eql rfl rfl) rfl ?_
        refine Ls_run (run_assign rfl) rfl ?_
        refine Ls_nil ?_
        refine Jm_seq ?_
        refine St_ifP rfl (fun h31 => ?_) (fun h31 => ?_)
        · skip
          refine St_seq ?_
          refine St_region ?_
          refine Ls_run (run_move rfl) rfl ?_
          refine Ls_run (run_as (run_field Try.underlying26 rfl inf23 (by decide) rfl) (show _ = Value.pointer (some ⟨b2, 7, none⟩) from rfl)) rfl ?_
          refine Ls_run (run_load sc23 rfl (hs.blk_at 3 rfl 7 rfl)) rfl ?_
          refine Ls_run (run_len Try.underlying23 rfl) rfl ?_
          replace hs := hs.front 1 rfl
          simp only [List.cons_append, List.nil_append, List.eraseIdx_cons_zero, List.eraseIdx_cons_succ] at hs
          replace hs := hs.front 1 rfl
          simp only [List.cons_append, List.nil_append, List.eraseIdx_cons_zero, List.eraseIdx_cons_succ] at hs
          have h10_34 := pb_len10 (n := ((p.kn : Int)).toNat) (by omega)
          refine Ls_callv (cap := [.pointer (some ⟨b8, 0, none⟩)]) Try.func61 nm61 rfl rfl rfl (put1_c w wr _ _ v (m) (nmB h5) ((p.kn : Int)) hs (by omega) (by omega)) rfl ?_
          rintro v32 w33 ⟨rfl, Ap34, cp34, hs⟩
          refine Ls_nil ?_
          refine Jm_seq ?_
          refine St_seq ?_
          refine St_region ?_
          refine Ls_run (run_as (run_field Try.underlying26 rfl inf23 (by decide) rfl) (show _ = Value.pointer (some ⟨b2, 7, none⟩) from rfl)) rfl ?_
          refine Ls_run (run_load sc23 rfl (hs.blk_at 3 rfl 7 rfl)) rfl ?_
          refine Ls_run (run_len Try.underlying23 rfl) rfl ?_
          refine Ls_run (run_move rfl) rfl ?_
          refine Ls_nil ?_
          refine Jm_seq ?_
          refine St_block ?_
          replace hs := hs.erase 2
          simp only [List.cons_append, List.nil_append, List.eraseIdx_cons_zero, List.eraseIdx_cons_succ] at hs
          obtain ⟨En35, hEn35⟩ : ∃ F : Nat × Value × Nat → Env, ∀ (i2 : Nat) (v2 : Value) (m2 : Nat), F (i2, v2, m2) = [(1, .pointer (some ⟨b2, 0, none⟩)), (4, .pointer (some ⟨b8, 0, none⟩)), (60, .slice p.kA p.kn p.kc), (61, .int .i64 (p.kn : Int)), (62, .int .i64 (i2 : Int))] := ⟨(fun (s : Nat × Value × Nat) => match s with | (i2, v2, m2) => [(1, .pointer (some ⟨b2, 0, none⟩)), (4, .pointer (some ⟨b8, 0, none⟩)), (60, .slice p.kA p.kn p.kc), (61, .int .i64 (p.kn : Int)), (62, .int .i64 (i2 : Int))]), fun _ _ _ => rfl⟩
          obtain ⟨Iv36, hIv36⟩ : ∃ F : Nat × Value × Nat → World → Prop, ∀ (i2 : Nat) (v2 : Value) (m2 : Nat) (wq : World), F (i2, v2, m2) wq = (Sat w wq [Blk b8 [v2] 28, Own 5 1 v2 m2 (bytesV (nmB h5 ++ pb (p.kn : Int).toNat ++ nmB (x.ks.take i2))), Blk b2 [.int .i64 x.k, .int .i64 x.f, .int .i64 x.t, .int .i64 x.b, .int .i64 x.a, .int .i64 x.c, .slice p.eA p.en p.ec, .slice p.kA p.kn p.kc, .slice p.pA p.pn p.pc] 26] ∧ i2 ≤ p.kn ∧ m2 ≤ 60 + 10 * i2) := ⟨(fun (s : Nat × Value × Nat) => match s with | (i2, v2, m2) => fun (wq : World) => Sat w wq [Blk b8 [v2] 28, Own 5 1 v2 m2 (bytesV (nmB h5 ++ pb (p.kn : Int).toNat ++ nmB (x.ks.take i2))), Blk b2 [.int .i64 x.k, .int .i64 x.f, .int .i64 x.t, .int .i64 x.b, .int .i64 x.a, .int .i64 x.c, .slice p.eA p.en p.ec, .slice p.kA p.kn p.kc, .slice p.pA p.pn p.pc] 26] ∧ i2 ≤ p.kn ∧ m2 ≤ 60 + 10 * i2), fun _ _ _ _ => rfl⟩
          obtain ⟨ms37, hms37⟩ : ∃ F : Nat × Value × Nat → Nat, ∀ (i2 : Nat) (v2 : Value) (m2 : Nat), F (i2, v2, m2) = (p.kn - i2) := ⟨(fun (s : Nat × Value × Nat) => match s with | (i2, v2, m2) => p.kn - i2), fun _ _ _ => rfl⟩
          refine St_loop En35 Iv36 ms37 (0, (Value.slice Ap34 (m + (pb ((p.kn : Int)).toNat).length) cp34), m + (pb ((p.kn : Int)).toNat).length) ?_ ?_ ?_
          · skip
            rw [hIv36]
            exact ⟨by simpa [nmB, pairsB] using hs, by omega, by omega⟩
          · rw [hEn35]; exact (subE_cons rfl (subE_cons rfl (subE_cons rfl (subE_cons rfl (subE_cons rfl subE_nil)))))
          rintro ⟨i2, v2, m2⟩ wq hI38
          rw [hIv36] at hI38
          obtain ⟨hs, hi2, hm2⟩ := hI38
          refine St_eqE (hEn35 _ _ _) ?_
          refine St_seq ?_
          refine St_region ?_
          refine Ls_run (run_lss rfl rfl) rfl ?_
          refine Ls_nil ?_
          refine Jm_seq ?_
          refine St_seq ?_
          refine St_ifP rfl (fun h39 => ?_) (fun h39 => ?_)
          · skip
            refine St_skip ?_
            refine Jm_seq ?_
            refine St_seq ?_
            refine St_block ?_
            refine St_seq ?_
            refine St_region ?_
            have hkmem : x.ks.getD i2 0 ∈ x.ks := getD_mem3 (by omega)
            have hkb := hin.ks _ hkmem
            have h10k := pb_len10 (n := (x.ks.getD i2 0).toNat) (by omega)
            refine Ls_index (El.int .u64) (hm.k.inB hs) Try.underlying23 inf38 rfl rfl (by omega) (by omega) (show _ = x.ks.getD i2 0 from rfl) rfl ?_
            intro b40 o41 hc42
            refine Ls_run (run_as (run_load sc38 rfl (hc42 0 _ rfl)) (show _ = Value.int .u64 (((x.ks.getD i2 0).toNat : Nat) : Int) from congrArg (Value.int .u64) (Int.toNat_of_nonneg hkb.1).symm)) rfl ?_
            refine Ls_run (run_assign rfl) rfl ?_
            refine Ls_nil ?_
            refine Jm_seq ?_
            refine St_holdC 4 (Hold.of (Ls := [_]) hs) mixed ?_
            intro w43 q44
            replace hs := hs.quiet q44
            have hH := Hold.of (Ls := [_]) hs
            refine AnC_take 0 [4, 0] rfl (by kernel_rfl) (by kernel_rfl) (by kernel_rfl) (by kernel_rfl) (fun _ _ _ h => h) hH (fun x hx => run_load sc28 rfl (hx.choose_spec.blk_at 0 rfl 0 rfl)) rfl ?_
            refine AnC_takeP 1 (by kernel_rfl) rfl (by kernel_rfl) (by kernel_rfl) (by kernel_rfl) (fun _ _ _ h => h) (fun _ => hH) (fun x => run_move rfl) rfl ?_
            refine AnC_only 2 (by kernel_rfl) rfl ?_
            have h10P := pb_len10 (n := (x.ks.getD i2 0).toNat) (by omega)
            refine Ls_call Try.func62 nm62 rfl rfl (Put_c w43 ((x.ks.getD i2 0).toNat) (by omega)) rfl ?_
            rintro v45 w46 ⟨AP, cP, rfl, hsP⟩
            replace hs := hs.trans hsP
            simp only [List.nil_append, List.cons_append] at hs
            replace hs := hs.front 1 rfl
            simp only [List.cons_append, List.nil_append, List.eraseIdx_cons_zero, List.eraseIdx_cons_succ] at hs
            replace hH := Hold.of (Ls := [_]) hs
            refine Ls_nil (Jm_AnC (fun _ => hH) ?_)
            refine AnC_only 3 (by kernel_rfl) rfl ?_
            replace hs := hs.front 2 rfl
            simp only [List.cons_append, List.nil_append, List.eraseIdx_cons_zero, List.eraseIdx_cons_succ] at hs
            refine Ls_append hs Try.underlying28 inf5 rfl (by decide) (by decide) rfl rfl (hs.rd_at 2 rfl) (bytesV_one' _) (by omega) rfl ?_
            intro A47 c48 w49 hs
            rw [← bytesV_append] at hs
            replace hs := hs.front 1 rfl
            simp only [List.cons_append, List.nil_append, List.eraseIdx_cons_zero, List.eraseIdx_cons_succ] at hs
            replace hH := Hold.of (Ls := [_]) hs
            refine Ls_nil (Jm_AnC (fun _ => hH) ?_)
            refine AnC_only 4 (by kernel_rfl) rfl ?_
            refine Ls_store hs inf28 rfl rfl rfl rfl ?_
            intro w50 hs
            try simp only [List.set_cons_zero, List.set_cons_succ] at hs
            refine Ls_nil (Jm_AnC_closed (by kernel_rfl) ?_)
            refine AnC_done (by kernel_rfl) ?_
            refine Jm_block_normal (Jm_seq ?_)
            refine St_region ?_
            refine Ls_run (run_add rfl rfl (w64 (by omega))) rfl ?_
            refine Ls_run (run_move rfl) rfl ?_
            refine Ls_nil ?_
            replace hs := hs.erase 2
            simp only [List.cons_append, List.nil_append, List.eraseIdx_cons_zero, List.eraseIdx_cons_succ] at hs
            refine Jm_round (i2 + 1, (Value.slice A47 (m2 + (pb (x.ks.getD i2 0).toNat).length) c48), m2 + (pb (x.ks.getD i2 0).toNat).length) ?_ ?_ ?_
            · rw [hEn35]; exact (subE_cons rfl (subE_cons rfl (subE_cons rfl (subE_cons rfl (subE_cons rfl subE_nil)))))
            · skip
              rw [hIv36]
              rw [nmB_take_succ x.ks i2 (by omega), ← List.append_assoc]
              exact ⟨hs, by omega, by omega⟩
            · skip
              rw [hms37, hms37]
              omega
          · skip
            refine St_exit ?_
            refine Jm_then_exit (Jm_then_exit (Jm_block_same (Jm_block_normal (Jm_seq ?_))))
            refine St_seq ?_
            refine St_region ?_
            refine Ls_run (run_load sc28 rfl (hs.blk_at 0 rfl 0 rfl)) rfl ?_
            refine Ls_run (run_assign rfl) rfl ?_
            refine Ls_run (run_assign rfl) rfl ?_
            refine Ls_nil ?_
            refine Jm_seq ?_
            refine St_ret ?_
            refine Jm_ret2 rfl rfl rfl ?_
            replace hs := hs.front 1 rfl
            simp only [List.cons_append, List.nil_append, List.eraseIdx_cons_zero, List.eraseIdx_cons_succ] at hs
            replace hs := hs.erase 1
            simp only [List.cons_append, List.nil_append, List.eraseIdx_cons_zero, List.eraseIdx_cons_succ] at hs
            replace hs := hs.erase 1
            simp only [List.cons_append, List.nil_append, List.eraseIdx_cons_zero, List.eraseIdx_cons_succ] at hs
            have hE : Menc x = nmB h5 ++ pb (p.kn : Int).toNat ++ nmB (x.ks.take i2) := by
              show nmB _ ++ bodyB x = _
              rw [← hh5]
              first
              | (rw [body_1 (by assumption)])
              | (rw [body_2 (by assumption)]; have hz9 : i2 = p.kn := by omega
                 rw [hz9, List.take_of_length_le (by omega), hkn, List.append_assoc, Int.toNat_natCast])
              | (rw [body_3 (by assumption)]; have hz9 : i2 = p.pn := by omega
                 rw [hz9, List.take_of_length_le (by omega), hpn, List.append_assoc, Int.toNat_natCast])
              | (rw [body_4 (by assumption)])
              | (exfalso; omega)
            obtain ⟨A9, c9, hv9, _, _, _⟩ := hs.own_form
            have hs9 := hs
            rw [hv9] at hs9
            have hln := rdB_len (hs9.rd_at 0 rfl)
            refine ⟨_, rfl, .inr ⟨hso, A9, c9, ?_, ?_⟩⟩
            · rw [hE, hln, hv9]
            · rw [hE, hln]; exact hs9
        · skip
          refine St_seq ?_
          refine St_region ?_
          refine Ls_run (run_eql rfl rfl) rfl ?_
          refine Ls_run (run_assign rfl) rfl ?_
          refine Ls_nil ?_
          refine Jm_seq ?_
          refine St_ifP rfl (fun h51 => ?_) (fun h51 => ?_)
          · skip
            refine St_seq ?_
            refine St_region ?_
            refine Ls_run (run_move rfl) rfl ?_
            refine Ls_run (run_as (run_field Try.underlying26 rfl inf24 (by decide) rfl) (show _ = Value.pointer (some ⟨b2, 8, none⟩) from rfl)) rfl ?_
            refine Ls_run (run_load sc24 rfl (hs.blk_at 3 rfl 8 rfl)) rfl ?_
            refine Ls_run (run_len Try.underlying24 rfl) rfl ?_
            replace hs := hs.front 1 rfl
            simp only [List.cons_append, List.nil_append, List.eraseIdx_cons_zero, List.eraseIdx_cons_succ] at hs
            replace hs := hs.front 1 rfl
            simp only [List.cons_append, List.nil_append, List.eraseIdx_cons_zero, List.eraseIdx_cons_succ] at hs
            have h10_54 := pb_len10 (n := ((p.pn : Int)).toNat) (by omega)
            refine Ls_callv (cap := [.pointer (some ⟨b8, 0, none⟩)]) Try.func61 nm61 rfl rfl rfl (put1_c w wr _ _ v (m) (nmB h5) ((p.pn : Int)) hs (by omega) (by omega)) rfl ?_
            rintro v52 w53 ⟨rfl, Ap54, cp54, hs⟩
            refine Ls_nil ?_
            refine Jm_seq ?_
            refine St_seq ?_
            refine St_region ?_
            refine Ls_run (run_as (run_field Try.underlying26 rfl inf24 (by decide) rfl) (show _ = Value.pointer (some ⟨b2, 8, none⟩) from rfl)) rfl ?_
            refine Ls_run (run_load sc24 rfl (hs.blk_at 3 rfl 8 rfl)) rfl ?_
            refine Ls_run (run_len Try.underlying24 rfl) rfl ?_
            refine Ls_run (run_move rfl) rfl ?_
            refine Ls_nil ?_
            refine Jm_seq ?_
            refine St_block ?_
            replace hs := hs.erase 2
            simp only [List.cons_append, List.nil_append, List.eraseIdx_cons_zero, List.eraseIdx_cons_succ] at hs
            obtain ⟨En55, hEn55⟩ : ∃ F : Nat × Value × Nat → Env, ∀ (i2 : Nat) (v2 : Value) (m2 : Nat), F (i2, v2, m2) = [(1, .pointer (some ⟨b2, 0, none⟩)), (4, .pointer (some ⟨b8, 0, none⟩)), (79, .slice p.pA p.pn p.pc), (80, .int .i64 (p.pn : Int)), (81, .int .i64 (i2 : Int))] := ⟨(fun (s : Nat × Value × Nat) => match s with | (i2, v2, m2) => [(1, .pointer (some ⟨b2, 0, none⟩)), (4, .pointer (some ⟨b8, 0, none⟩)), (79, .slice p.pA p.pn p.pc), (80, .int .i64 (p.pn : Int)), (81, .int .i64 (i2 : Int))]), fun _ _ _ => rfl⟩
            obtain ⟨Iv56, hIv56⟩ : ∃ F : Nat × Value × Nat → World → Prop, ∀ (i2 : Nat) (v2 : Value) (m2 : Nat) (wq : World), F (i2, v2, m2) wq = (Sat w wq [Blk b8 [v2] 28, Own 5 1 v2 m2 (bytesV (nmB h5 ++ pb (p.pn : Int).toNat ++ pairsB (x.ps.take i2))), Blk b2 [.int .i64 x.k, .int .i64 x.f, .int .i64 x.t, .int .i64 x.b, .int .i64 x.a, .int .i64 x.c, .slice p.eA p.en p.ec, .slice p.kA p.kn p.kc, .slice p.pA p.pn p.pc] 26] ∧ i2 ≤ p.pn ∧ m2 ≤ 60 + 18 * i2) := ⟨(fun (s : Nat × Value × Nat) => match s with | (i2, v2, m2) => fun (wq : World) => Sat w wq [Blk b8 [v2] 28, Own 5 1 v2 m2 (bytesV (nmB h5 ++ pb (p.pn : Int).toNat ++ pairsB (x.ps.take i2))), Blk b2 [.int .i64 x.k, .int .i64 x.f, .int .i64 x.t, .int .i64 x.b, .int .i64 x.a, .int .i64 x.c, .slice p.eA p.en p.ec, .slice p.kA p.kn p.kc, .slice p.pA p.pn p.pc] 26] ∧ i2 ≤ p.pn ∧ m2 ≤ 60 + 18 * i2), fun _ _ _ _ => rfl⟩
            obtain ⟨ms57, hms57⟩ : ∃ F : Nat × Value × Nat → Nat, ∀ (i2 : Nat) (v2 : Value) (m2 : Nat), F (i2, v2, m2) = (p.pn - i2) := ⟨(fun (s : Nat × Value × Nat) => match s with | (i2, v2, m2) => p.pn - i2), fun _ _ _ => rfl⟩
            refine St_loop En55 Iv56 ms57 (0, (Value.slice Ap54 (m + (pb ((p.pn : Int)).toNat).length) cp54), m + (pb ((p.pn : Int)).toNat).length) ?_ ?_ ?_
            · skip
              rw [hIv56]
              exact ⟨by simpa [nmB, pairsB] using hs, by omega, by omega⟩
            · rw [hEn55]; exact (subE_cons rfl (subE_cons rfl (subE_cons rfl (subE_cons rfl (subE_cons rfl subE_nil)))))
            rintro ⟨i2, v2, m2⟩ wq hI58
            rw [hIv56] at hI58
            obtain ⟨hs, hi2, hm2⟩ := hI58
            refine St_eqE (hEn55 _ _ _) ?_
            refine St_seq ?_
            refine St_region ?_
            refine Ls_run (run_lss rfl rfl) rfl ?_
            refine Ls_nil ?_
            refine Jm_seq ?_
            refine St_seq ?_
            refine St_ifP rfl (fun h59 => ?_) (fun h59 => ?_)
            · skip
              refine St_skip ?_
              refine Jm_seq ?_
              refine St_seq ?_
              refine St_block ?_
              refine St_seq ?_
              refine St_region ?_
              obtain ⟨⟨ka, ha, ba⟩, ho0⟩ : ∃ o, x.ps.getD i2 (0, false, 0) = o := ⟨_, rfl⟩
              have hmem : (ka, ha, ba) ∈ x.ps := by rw [← ho0]; exact getD_mem3 (by omega)
              have hbb := hin.ps _ hmem
              simp only at hbb
              obtain ⟨kn, hkn9⟩ : ∃ q : Nat, ka = (q : Int) := ⟨ka.toNat, by omega⟩
              obtain ⟨bn, hbn9⟩ : ∃ q : Nat, ba = (q : Int) := ⟨ba.toNat, by omega⟩
              have ho : x.ps.getD i2 (0, false, 0) = ((kn : Int), ha, (bn : Int)) := by rw [ho0, hkn9, hbn9]
              refine Ls_index (KP) (hm.p.inB hs) Try.underlying24 inf42 rfl rfl (by omega) (by omega) ho rfl ?_
              intro b60 o61 hc62
              refine Ls_run (run_as (run_load_agg agg42 inf42 rfl rfl hc62) (show _ = Value.agg #[.int .u64 (kn : Int), .bool ha, .int .u64 (bn : Int)] from rfl)) rfl ?_
              refine Ls_alloc hs inf42 rfl ?_
              intro b64 w63 hs
              refine Ls_storeAgg hs inf42 rfl rfl rfl rfl (by simp [KP, Value.oneCell']) ?_
              intro w65 hs
              refine Ls_nil ?_
              refine Jm_seq ?_
              replace hs := hs.front 1 rfl
              simp only [List.cons_append, List.nil_append, List.eraseIdx_cons_zero, List.eraseIdx_cons_succ] at hs
              refine St_holdC 11 (Hold.of (Ls := [_, _]) hs) mixed ?_
              intro w66 q67
              replace hs := hs.quiet q67
              have hH := Hold.of (Ls := [_, _]) hs
              refine AnC_take 0 [11, 0] rfl (by kernel_rfl) (by kernel_rfl) (by kernel_rfl) (by kernel_rfl) (fun _ _ _ h => h) hH (fun x hx => run_load sc28 rfl (hx.choose_spec.blk_at 0 rfl 0 rfl)) rfl ?_
              refine AnC_takeP 1 (by kernel_rfl) rfl (by kernel_rfl) (by kernel_rfl) (by kernel_rfl) (fun _ _ _ h => h) (fun _ => hH) (fun x => run_as (run_field Try.underlying42 rfl inf38 (by decide) rfl) (show _ = Value.pointer (some ⟨b64, 0, none⟩) from rfl)) rfl ?_
              refine AnC_take 2 [11, 2] rfl (by kernel_rfl) (by kernel_rfl) (by kernel_rfl) (by kernel_rfl) (fun _ _ _ h => h) hH (fun x hx => run_load sc38 rfl (hx.choose_spec.blk_at 1 rfl 0 rfl)) rfl ?_
              refine AnC_takeP 4 (by kernel_rfl) rfl (by kernel_rfl) (by kernel_rfl) (by kernel_rfl) (fun _ _ _ h => h) (fun _ => hH) (fun x => run_as (run_field Try.underlying42 rfl inf40 (by decide) rfl) (show _ = Value.pointer (some ⟨b64, 1, none⟩) from rfl)) rfl ?_
              refine AnC_takeP 5 (by kernel_rfl) rfl (by kernel_rfl) (by kernel_rfl) (by kernel_rfl) (fun _ _ _ h => h) (fun _ => hH) (fun x => run_as (run_field Try.underlying40 rfl inf38 (by decide) rfl) (show _ = Value.pointer (some ⟨b64, 2, none⟩) from rfl)) rfl ?_
              refine AnC_take 6 [11, 6] rfl (by kernel_rfl) (by kernel_rfl) (by kernel_rfl) (by kernel_rfl) (fun _ _ _ h => h) hH (fun x hx => run_load sc38 rfl (hx.choose_spec.blk_at 1 rfl 2 rfl)) rfl ?_
              refine AnC_only 3 (by kernel_rfl) rfl ?_
              have h10P := pb_len10 (n := kn) (by omega)
              refine Ls_call Try.func62 nm62 rfl rfl (Put_c w66 (kn) (by omega)) rfl ?_
              rintro v68 w69 ⟨AP, cP, rfl, hsP⟩
              replace hs := hs.trans hsP
              simp only [List.nil_append, List.cons_append] at hs
              replace hs := hs.front 2 rfl
              simp only [List.cons_append, List.nil_append, List.eraseIdx_cons_zero, List.eraseIdx_cons_succ] at hs
              replace hs := hs.front 2 rfl
              simp only [List.cons_append, List.nil_append, List.eraseIdx_cons_zero, List.eraseIdx_cons_succ] at hs
              replace hH := Hold.of (Ls := [_, _]) hs
              refine Ls_nil (Jm_AnC (fun _ => hH) ?_)
              refine AnC_only 7 (by kernel_rfl) rfl ?_
              refine Ls_call Try.func66 nm66 rfl rfl (Word_c w69 bn (by omega)) rfl ?_
              rintro v70 w71 ⟨Aw, cw, rfl, hsW⟩
              replace hs := hs.trans hsW
              simp only [List.nil_append, List.cons_append] at hs
              replace hs := hs.front 2 rfl
              simp only [List.cons_append, List.nil_append, List.eraseIdx_cons_zero, List.eraseIdx_cons_succ] at hs
              replace hs := hs.front 2 rfl
              simp only [List.cons_append, List.nil_append, List.eraseIdx_cons_zero, List.eraseIdx_cons_succ] at hs
              replace hH := Hold.of (Ls := [_, _]) hs
              refine Ls_nil (Jm_AnC (fun _ => hH) ?_)
              refine AnC_only 8 (by kernel_rfl) rfl ?_
              refine Ls_literal [_, _] hs Try.underlying55 inf28 rfl rfl rfl rfl rfl rfl ?_
              intro b72 w73 hs
              simp only [List.flatMap_cons, List.flatMap_nil, Value.cells, List.cons_append, List.nil_append] at hs
              replace hs := hs.front 2 rfl
              simp only [List.cons_append, List.nil_append, List.eraseIdx_cons_zero, List.eraseIdx_cons_succ] at hs
              replace hs := hs.front 2 rfl
              simp only [List.cons_append, List.nil_append, List.eraseIdx_cons_zero, List.eraseIdx_cons_succ] at hs
              replace hH := Hold.of (Ls := [_, _]) hs
              refine Ls_nil (Jm_AnC (fun _ => hH) ?_)
              refine AnC_only 9 (by kernel_rfl) rfl ?_
              refine Ls_call Try.func65 nm65 rfl rfl (Join_c w73 _ _ _ [Value.slice AP (pb kn).length cP, Value.slice Aw 8 cw] [pb kn, wd 8 bn] (rd_block (hs.is_at 2 rfl).2 1 2 rfl) (Parts.cons (hs.rd_at 4 rfl) (Parts.cons (hs.rd_at 3 rfl) (Parts.nil _))) (by simp [wd_len]; omega) (by omega)) rfl ?_
              rintro v74 w75 ⟨Aj, cj, rfl, hsJ⟩
              replace hs := hs.trans hsJ
              simp only [List.nil_append, List.cons_append] at hs
              replace hs := hs.front 2 rfl
              simp only [List.cons_append, List.nil_append, List.eraseIdx_cons_zero, List.eraseIdx_cons_succ] at hs
              replace hs := hs.front 2 rfl
              simp only [List.cons_append, List.nil_append, List.eraseIdx_cons_zero, List.eraseIdx_cons_succ] at hs
              replace hH := Hold.of (Ls := [_, _]) hs
              refine Ls_nil (Jm_AnC (fun _ => hH) ?_)
              refine AnC_only 10 (by kernel_rfl) rfl ?_
              replace hs := hs.front 6 rfl
              simp only [List.cons_append, List.nil_append, List.eraseIdx_cons_zero, List.eraseIdx_cons_succ] at hs
              refine Ls_append hs Try.underlying28 inf5 rfl (by decide) (by decide) rfl rfl (hs.rd_at 3 rfl) (bytesV_one' _) (by simp only [List.flatten_cons, List.flatten_nil, List.append_nil, List.length_append, wd_len]; omega) rfl ?_
              intro A76 c77 w78 hs
              rw [← bytesV_append] at hs
              replace hs := hs.front 2 rfl
              simp only [List.cons_append, List.nil_append, List.eraseIdx_cons_zero, List.eraseIdx_cons_succ] at hs
              replace hs := hs.front 2 rfl
              simp only [List.cons_append, List.nil_append, List.eraseIdx_cons_zero, List.eraseIdx_cons_succ] at hs
              replace hH := Hold.of (Ls := [_, _]) hs
              refine Ls_nil (Jm_AnC (fun _ => hH) ?_)
              refine AnC_only 11 (by kernel_rfl) rfl ?_
              refine Ls_store hs inf28 rfl rfl rfl rfl ?_
              intro w79 hs
              try simp only [List.set_cons_zero, List.set_cons_succ] at hs
              refine Ls_nil (Jm_AnC_closed (by kernel_rfl) ?_)
              refine AnC_done (by kernel_rfl) ?_
              refine Jm_block_normal (Jm_seq ?_)
              refine St_region ?_
              refine Ls_run (run_add rfl rfl (w64 (by omega))) rfl ?_
              refine Ls_run (run_move rfl) rfl ?_
              refine Ls_nil ?_
              replace hs := hs.erase 1
              simp only [List.cons_append, List.nil_append, List.eraseIdx_cons_zero, List.eraseIdx_cons_succ] at hs
              replace hs := hs.erase 2
              simp only [List.cons_append, List.nil_append, List.eraseIdx_cons_zero, List.eraseIdx_cons_succ] at hs
              replace hs := hs.erase 2
              simp only [List.cons_append, List.nil_append, List.eraseIdx_cons_zero, List.eraseIdx_cons_succ] at hs
              replace hs := hs.erase 2
              simp only [List.cons_append, List.nil_append, List.eraseIdx_cons_zero, List.eraseIdx_cons_succ] at hs
              replace hs := hs.erase 2
              simp only [List.cons_append, List.nil_append, List.eraseIdx_cons_zero, List.eraseIdx_cons_succ] at hs
              refine Jm_round (i2 + 1, (Value.slice A76 (m2 + [pb kn, wd 8 bn].flatten.length) c77), m2 + [pb kn, wd 8 bn].flatten.length) ?_ ?_ ?_
              · rw [hEn55]; exact (subE_cons rfl (subE_cons rfl (subE_cons rfl (subE_cons rfl (subE_cons rfl subE_nil)))))
              · skip
                rw [hIv56]
                rw [pairsB_snoc (by omega) ho, ← List.append_assoc]
                simp only [Int.toNat_natCast]
                simp only [List.flatten_cons, List.flatten_nil, List.append_nil] at hs
                exact ⟨hs, by omega, by simp only [List.flatten_cons, List.flatten_nil, List.append_nil, List.length_append, wd_len]; omega⟩
              · skip
                rw [hms57, hms57]
                omega
            · skip
              refine St_exit ?_
              refine Jm_then_exit (Jm_then_exit (Jm_block_same (Jm_block_normal (Jm_seq ?_))))
              refine St_seq ?_
              refine St_region ?_
              refine Ls_run (run_load sc28 rfl (hs.blk_at 0 rfl 0 rfl)) rfl ?_
              refine Ls_run (run_assign rfl) rfl ?_
              refine Ls_run (run_assign rfl) rfl ?_
              refine Ls_nil ?_
              refine Jm_seq ?_
              refine St_ret ?_
              refine Jm_ret2 rfl rfl rfl ?_
              replace hs := hs.front 1 rfl
              simp only [List.cons_append, List.nil_append, List.eraseIdx_cons_zero, List.eraseIdx_cons_succ] at hs
              replace hs := hs.erase 1
              simp only [List.cons_append, List.nil_append, List.eraseIdx_cons_zero, List.eraseIdx_cons_succ] at hs
              replace hs := hs.erase 1
              simp only [List.cons_append, List.nil_append, List.eraseIdx_cons_zero, List.eraseIdx_cons_succ] at hs
              have hE : Menc x = nmB h5 ++ pb (p.pn : Int).toNat ++ pairsB (x.ps.take i2) := by
                show nmB _ ++ bodyB x = _
                rw [← hh5]
                first
                | (rw [body_1 (by assumption)])
                | (rw [body_2 (by assumption)]; have hz9 : i2 = p.kn := by omega
                   rw [hz9, List.take_of_length_le (by omega), hkn, List.append_assoc, Int.toNat_natCast])
                | (rw [body_3 (by assumption)]; have hz9 : i2 = p.pn := by omega
                   rw [hz9, List.take_of_length_le (by omega), hpn, List.append_assoc, Int.toNat_natCast])
                | (rw [body_4 (by assumption)])
                | (exfalso; omega)
              obtain ⟨A9, c9, hv9, _, _, _⟩ := hs.own_form
              have hs9 := hs
              rw [hv9] at hs9
              have hln := rdB_len (hs9.rd_at 0 rfl)
              refine ⟨_, rfl, .inr ⟨hso, A9, c9, ?_, ?_⟩⟩
              · rw [hE, hln, hv9]
              · rw [hE, hln]; exact hs9
          · skip
            refine St_seq ?_
            refine St_region ?_
            refine Ls_run (run_eql rfl rfl) rfl ?_
            refine Ls_run (run_assign rfl) rfl ?_
            refine Ls_nil ?_
            refine Jm_seq ?_
            refine St_ifP rfl (fun h80 => ?_) (fun h80 => ?_)
            · skip
              refine St_region ?_
              refine Ls_run (run_move rfl) rfl ?_
              refine Ls_run (run_as (run_field Try.underlying26 rfl inf3 (by decide) rfl) (show _ = Value.pointer (some ⟨b2, 5, none⟩) from rfl)) rfl ?_
              refine Ls_run (run_load sc3 rfl (hs.blk_at 3 rfl 5 rfl)) rfl ?_
              replace hs := hs.front 1 rfl
              simp only [List.cons_append, List.nil_append, List.eraseIdx_cons_zero, List.eraseIdx_cons_succ] at hs
              replace hs := hs.front 1 rfl
              simp only [List.cons_append, List.nil_append, List.eraseIdx_cons_zero, List.eraseIdx_cons_succ] at hs
              have h10_83 := pb_len10 (n := (x.c).toNat) (by omega)
              refine Ls_callv (cap := [.pointer (some ⟨b8, 0, none⟩)]) Try.func61 nm61 rfl rfl rfl (put1_c w wr _ _ v (m) (nmB h5) (x.c) hs (by omega) (by omega)) rfl ?_
              rintro v81 w82 ⟨rfl, Ap83, cp83, hs⟩
              refine Ls_nil ?_
              refine Jm_block_normal (Jm_seq ?_)
              refine St_seq ?_
              refine St_region ?_
              refine Ls_run (run_load sc28 rfl (hs.blk_at 0 rfl 0 rfl)) rfl ?_
              refine Ls_run (run_assign rfl) rfl ?_
              refine Ls_run (run_assign rfl) rfl ?_
              refine Ls_nil ?_
              refine Jm_seq ?_
              refine St_ret ?_
              refine Jm_ret2 rfl rfl rfl ?_
              replace hs := hs.front 1 rfl
              simp only [List.cons_append, List.nil_append, List.eraseIdx_cons_zero, List.eraseIdx_cons_succ] at hs
              replace hs := hs.erase 1
              simp only [List.cons_append, List.nil_append, List.eraseIdx_cons_zero, List.eraseIdx_cons_succ] at hs
              replace hs := hs.erase 1
              simp only [List.cons_append, List.nil_append, List.eraseIdx_cons_zero, List.eraseIdx_cons_succ] at hs
              replace hs := hs.erase 1
              simp only [List.cons_append, List.nil_append, List.eraseIdx_cons_zero, List.eraseIdx_cons_succ] at hs
              have hE : Menc x = nmB h5 ++ pb (x.c).toNat := by
                show nmB _ ++ bodyB x = _
                rw [← hh5]
                first
                | (rw [body_1 (by assumption)])
                | (rw [body_2 (by assumption)]; have hz9 : i2 = p.kn := by omega
                   rw [hz9, List.take_of_length_le (by omega), hkn, List.append_assoc, Int.toNat_natCast])
                | (rw [body_3 (by assumption)]; have hz9 : i2 = p.pn := by omega
                   rw [hz9, List.take_of_length_le (by omega), hpn, List.append_assoc, Int.toNat_natCast])
                | (rw [body_4 (by assumption)])
                | (exfalso; omega)
              obtain ⟨A9, c9, hv9, _, _, _⟩ := hs.own_form
              have hs9 := hs
              rw [hv9] at hs9
              have hln := rdB_len (hs9.rd_at 0 rfl)
              refine ⟨_, rfl, .inr ⟨hso, A9, c9, ?_, ?_⟩⟩
              · rw [hE, hln, hv9]
              · rw [hE, hln]; exact hs9
            · skip
              refine St_skip ?_
              refine Jm_block_normal (Jm_seq ?_)
              refine St_seq ?_
              refine St_region ?_
              refine Ls_run (run_load sc28 rfl (hs.blk_at 0 rfl 0 rfl)) rfl ?_
              refine Ls_run (run_assign rfl) rfl ?_
              refine Ls_run (run_assign rfl) rfl ?_
              refine Ls_nil ?_
              refine Jm_seq ?_
              refine St_ret ?_
              refine Jm_ret2 rfl rfl rfl ?_
              replace hs := hs.front 1 rfl
              simp only [List.cons_append, List.nil_append, List.eraseIdx_cons_zero, List.eraseIdx_cons_succ] at hs
              replace hs := hs.erase 1
              simp only [List.cons_append, List.nil_append, List.eraseIdx_cons_zero, List.eraseIdx_cons_succ] at hs
              replace hs := hs.erase 1
              simp only [List.cons_append, List.nil_append, List.eraseIdx_cons_zero, List.eraseIdx_cons_succ] at hs
              replace hs := hs.erase 1
              simp only [List.cons_append, List.nil_append, List.eraseIdx_cons_zero, List.eraseIdx_cons_succ] at hs
              have hE : Menc x = nmB h5 := by
                show nmB _ ++ bodyB x = _
                rw [← hh5]
                first
                | (rw [body_1 (by assumption)])
                | (rw [body_2 (by assumption)]; have hz9 : i2 = p.kn := by omega
                   rw [hz9, List.take_of_length_le (by omega), hkn, List.append_assoc, Int.toNat_natCast])
                | (rw [body_3 (by assumption)]; have hz9 : i2 = p.pn := by omega
                   rw [hz9, List.take_of_length_le (by omega), hpn, List.append_assoc, Int.toNat_natCast])
                | (rw [body_4 (by assumption)])
                | (exfalso; omega)
              obtain ⟨A9, c9, hv9, _, _, _⟩ := hs.own_form
              have hs9 := hs
              rw [hv9] at hs9
              have hln := rdB_len (hs9.rd_at 0 rfl)
              refine ⟨_, rfl, .inr ⟨hso, A9, c9, ?_, ?_⟩⟩
              · rw [hE, hln, hv9]
              · rw [hE, hln]; exact hs9
set_option maxRecDepth 100000 in
set_option maxHeartbeats 1000000 in
theorem rEncode_c (w : World) (x : MC) (p : MP) (hm : MRd w x p) (hze : p.en ≤ 9223372036854775807) (hzk : p.kn ≤ 9223372036854775807) (hzp : p.pn ≤ 9223372036854775807) (hin : MIn x) :
    Calls Try.prog 17 [.agg #[.int .i64 x.k, .int .i64 x.f, .int .i64 x.t, .int .i64 x.b, .int .i64 x.a, .int .i64 x.c, .slice p.eA p.en p.ec, .slice p.kA p.kn p.kc, .slice p.pA p.pn p.pc]].toArray w (Ret (fun v' w' => (¬ Msound x ∧ v' = .tuple #[.slice none 0 0, .int .i64 150] ∧ Sat w w' []) ∨ (Msound x ∧ ∃ A c, v' = .tuple #[.slice A (Menc x).length c, .int .i64 0] ∧ Sat w w' [Own 5 1 (.slice A (Menc x).length c) (Menc x).length (bytesV (Menc x))]))) := by
  have hs := Sat.start w
  have hen := hm.en
  have hkn := hm.kn
  have hpn := hm.pn
  have hmr := mof_range x.k
  obtain ⟨h5, hh5⟩ : ∃ l, l = [x.k, x.f, x.t, x.b, x.a] := ⟨_, rfl⟩
  have h5n : h5.length = 5 := by rw [hh5]; rfl
  refine Calls_body Try.func17 rfl rfl rfl (envE_cons (i := 0) (v := .agg #[.int .i64 x.k, .int .i64 x.f, .int .i64 x.t, .int .i64 x.b, .int .i64 x.a, .int .i64 x.c, .slice p.eA p.en p.ec, .slice p.kA p.kn p.kc, .slice p.pA p.pn p.pc]) rfl envE_nil) ?_
  refine St_seq ?_
  refine St_region ?_
  refine Ls_box hs rfl rfl ?_
  intro b2 w1 hs
  refine Ls_run (run_assign rfl) rfl ?_
  refine Ls_run (run_assign rfl) rfl ?_
  refine Ls_nil ?_
  refine Jm_seq ?_
  refine St_seq ?_
  refine St_seq ?_
  refine St_region ?_
  refine Ls_run (run_load_agg agg26 inf26 rfl rfl (hs.blk_cells 0 rfl 0 9)) rfl ?_
  refine Ls_call Try.func19 nm19 rfl rfl (rSound_c w1 x p (hm.inB hs) hze hzk hzp) rfl ?_
  rintro v3 w4 ⟨rfl, hsQ5⟩
  replace hs := hs.trans hsQ5
  refine Ls_run (run_not rfl) rfl ?_
  refine Ls_nil ?_
  refine Jm_seq ?_
  refine St_ifN rfl (fun h6 => ?_) (fun h6 => ?_)
  · skip
    refine St_seq ?_
    refine St_region ?_
    refine Ls_run (run_assign rfl) rfl ?_
    refine Ls_run (run_assign rfl) rfl ?_
    refine Ls_nil ?_
    refine Jm_seq ?_
    refine St_ret ?_
    refine Jm_then_ret  ?_
    refine Jm_ret2 rfl rfl rfl ?_
    exact ⟨_, rfl, .inl ⟨by assumption, rfl, hs.forget⟩⟩
  · skip
    have hso : Msound x := by assumption
    have hsn := sound_num hso
    have hkr : 0 ≤ x.k ∧ x.k < 9223372036854775808 := by have h0 := hsn.1; unfold mof at h0; repeat (first | omega | split at h0)
    have h5r : ∀ y ∈ h5, 0 ≤ y ∧ y < 9223372036854775808 := by
      rw [hh5]; intro y hy; simp only [List.mem_cons, List.not_mem_nil, or_false] at hy; rcases hy with rfl | rfl | rfl | rfl | rfl <;> omega
    refine St_skip ?_
    refine Jm_seq ?_
    refine St_seq ?_
    refine St_region ?_
    refine Ls_literal [] hs Try.underlying28 inf5 rfl rfl rfl rfl rfl rfl ?_
    intro b7 w9 hs
    simp only [List.flatMap_cons, List.flatMap_nil, Value.cells, List.cons_append, List.nil_append] at hs
    replace hs := Sat.own_block hs 1 0 rfl (by decide)
    refine Ls_run (run_assign rfl) rfl ?_
    refine Ls_nil ?_
    refine Jm_seq ?_
    refine St_seq ?_
    refine St_region ?_
    refine Ls_run (run_as (run_field Try.underlying26 rfl inf3 (by decide) rfl) (show _ = Value.pointer (some ⟨b2, 0, none⟩) from rfl)) rfl ?_
    refine Ls_run (run_load sc3 rfl (hs.blk_at 1 rfl 0 rfl)) rfl ?_
    refine Ls_run (run_as (run_field Try.underlying26 rfl inf3 (by decide) rfl) (show _ = Value.pointer (some ⟨b2, 1, none⟩) from rfl)) rfl ?_
    refine Ls_run (run_load sc3 rfl (hs.blk_at 1 rfl 1 rfl)) rfl ?_
    refine Ls_run (run_as (run_field Try.underlying26 rfl inf3 (by decide) rfl) (show _ = Value.pointer (some ⟨b2, 2, none⟩) from rfl)) rfl ?_
    refine Ls_run (run_load sc3 rfl (hs.blk_at 1 rfl 2 rfl)) rfl ?_
    refine Ls_run (run_as (run_field Try.underlying26 rfl inf3 (by decide) rfl) (show _ = Value.pointer (some ⟨b2, 3, none⟩) from rfl)) rfl ?_
    refine Ls_run (run_load sc3 rfl (hs.blk_at 1 rfl 3 rfl)) rfl ?_
    refine Ls_run (run_as (run_field Try.underlying26 rfl inf3 (by decide) rfl) (show _ = Value.pointer (some ⟨b2, 4, none⟩) from rfl)) rfl ?_
    refine Ls_run (run_load sc3 rfl (hs.blk_at 1 rfl 4 rfl)) rfl ?_
    refine Ls_run (run_buildO (pv := [(0, _), (1, _), (2, _), (3, _), (4, _)]) rfl (bld92_0_1_2_3_4 _ _ _ _ _)) rfl ?_
    refine Ls_alloc hs inf92 rfl ?_
    intro b11 w10 hs
    refine Ls_storeAgg hs inf92 rfl rfl rfl rfl (by simp [KP, Value.oneCell']) ?_
    intro w12 hs
    refine Ls_nil ?_
    refine Jm_seq ?_
    refine St_seq ?_
    refine St_seq ?_
    refine St_region ?_
    refine Ls_run (run_assign rfl) rfl ?_
    refine Ls_nil ?_
    refine Jm_seq ?_
    refine St_block ?_
    replace hs := hs.front 2 rfl
    simp only [List.cons_append, List.nil_append, List.eraseIdx_cons_zero, List.eraseIdx_cons_succ] at hs
    replace hs := hs.front 1 rfl
    simp only [List.cons_append, List.nil_append, List.eraseIdx_cons_zero, List.eraseIdx_cons_succ] at hs
    replace hs := hs.front 2 rfl
    simp only [List.cons_append, List.nil_append, List.eraseIdx_cons_zero, List.eraseIdx_cons_succ] at hs
    obtain ⟨En13, hEn13⟩ : ∃ F : Nat × Value × Nat → Env, ∀ (i : Nat) (v : Value) (m : Nat), F (i, v, m) = [(1, .pointer (some ⟨b2, 0, none⟩)), (5, .pointer (some ⟨b11, 0, none⟩)), (4, v), (6, .int .i64 (i : Int))] := ⟨(fun (s : Nat × Value × Nat) => match s with | (i, v, m) => [(1, .pointer (some ⟨b2, 0, none⟩)), (5, .pointer (some ⟨b11, 0, none⟩)), (4, v), (6, .int .i64 (i : Int))]), fun _ _ _ => rfl⟩
    obtain ⟨Iv14, hIv14⟩ : ∃ F : Nat × Value × Nat → World → Prop, ∀ (i : Nat) (v : Value) (m : Nat) (wr : World), F (i, v, m) wr = (Sat w wr [Own 5 1 v m (bytesV (nmB (h5.take i))), Blk b11 [.int .i64 x.k, .int .i64 x.f, .int .i64 x.t, .int .i64 x.b, .int .i64 x.a] 92, Blk b2 [.int .i64 x.k, .int .i64 x.f, .int .i64 x.t, .int .i64 x.b, .int .i64 x.a, .int .i64 x.c, .slice p.eA p.en p.ec, .slice p.kA p.kn p.kc, .slice p.pA p.pn p.pc] 26] ∧ i ≤ 5 ∧ m ≤ 10 * i) := ⟨(fun (s : Nat × Value × Nat) => match s with | (i, v, m) => fun (wr : World) => Sat w wr [Own 5 1 v m (bytesV (nmB (h5.take i))), Blk b11 [.int .i64 x.k, .int .i64 x.f, .int .i64 x.t, .int .i64 x.b, .int .i64 x.a] 92, Blk b2 [.int .i64 x.k, .int .i64 x.f, .int .i64 x.t, .int .i64 x.b, .int .i64 x.a, .int .i64 x.c, .slice p.eA p.en p.ec, .slice p.kA p.kn p.kc, .slice p.pA p.pn p.pc] 26] ∧ i ≤ 5 ∧ m ≤ 10 * i), fun _ _ _ _ => rfl⟩
    obtain ⟨ms15, hms15⟩ : ∃ F : Nat × Value × Nat → Nat, ∀ (i : Nat) (v : Value) (m : Nat), F (i, v, m) = (5 - i) := ⟨(fun (s : Nat × Value × Nat) => match s with | (i, v, m) => 5 - i), fun _ _ _ => rfl⟩
    refine St_loop En13 Iv14 ms15 (0, (Value.slice (some ⟨b7, 0, none⟩) 0 0), 0) ?_ ?_ ?_
    · skip
      rw [hIv14]
      exact ⟨hs, by omega, by omega⟩
    · rw [hEn13]; exact (subE_cons rfl (subE_cons rfl (subE_cons rfl (subE_cons rfl subE_nil))))
    rintro ⟨i, v, m⟩ wr hI16
    rw [hIv14] at hI16
    obtain ⟨hs, hi, hm10⟩ := hI16
    refine St_eqE (hEn13 _ _ _) ?_
    refine St_seq ?_
    refine St_seq ?_
    refine St_region ?_
    refine Ls_run (run_move rfl) rfl ?_
    refine Ls_run (run_lss rfl rfl) rfl ?_
    refine Ls_nil ?_
    refine Jm_seq ?_
    refine St_ifP rfl (fun h17 => ?_) (fun h17 => ?_)
    · skip
      refine St_skip ?_
      refine Jm_seq ?_
      refine St_seq ?_
      refine St_block ?_
      refine St_region ?_
      refine Ls_run (run_move rfl) rfl ?_
      have h5m : h5.getD i 0 ∈ h5 := getD_mem3 (by omega)
      have h5b := h5r _ h5m
      have h5s := nmB_take_succ h5 i (by omega)
      refine Ls_run (run_move rfl) rfl ?_
      refine Ls_run (run_as (run_index_arr Try.underlying92 inf3 rfl rfl (by omega) (by omega)) (show _ = Value.pointer (some ⟨b11, i, none⟩) from by simp)) rfl ?_
      refine Ls_run (run_as (run_load sc3 rfl (hs.blk_at 1 rfl i (h5_at (by omega)))) (show _ = Value.int .i64 (h5.getD i 0) from by rw [hh5])) rfl ?_
      refine Ls_run (run_conv_int Try.underlying38 us3 rfl (wuI (by omega))) rfl ?_
      have h10P := pb_len10 (n := (h5.getD i 0).toNat) (by omega)
      refine Ls_call Try.func67 nm67 rfl rfl (rPut_c wr ((h5.getD i 0).toNat) (by omega)) rfl ?_
      rintro v18 w19 ⟨AP, cP, rfl, hsP⟩
      replace hs := hs.trans hsP
      simp only [List.nil_append, List.cons_append] at hs
      replace hs := hs.front 1 rfl
      simp only [List.cons_append, List.nil_append, List.eraseIdx_cons_zero, List.eraseIdx_cons_succ] at hs
      refine Ls_append hs Try.underlying28 inf5 rfl (by decide) (by decide) rfl rfl (hs.rd_at 1 rfl) (bytesV_one' _) (by omega) rfl ?_
      intro A20 c21 w22 hs
      rw [← bytesV_append] at hs
      refine Ls_run (run_assign rfl) rfl ?_
      refine Ls_nil ?_
      refine Jm_block_normal (Jm_seq ?_)
      refine St_region ?_
      refine Ls_run (run_move rfl) rfl ?_
      refine Ls_run (run_add rfl rfl (w64 (by omega))) rfl ?_
      refine Ls_run (run_assign rfl) rfl ?_
      refine Ls_nil ?_
      replace hs := hs.erase 1
      simp only [List.cons_append, List.nil_append, List.eraseIdx_cons_zero, List.eraseIdx_cons_succ] at hs
      refine Jm_round (i + 1, (Value.slice A20 (m + (pb (h5.getD i 0).toNat).length) c21), m + (pb (h5.getD i 0).toNat).length) ?_ ?_ ?_
      · rw [hEn13]; exact (subE_cons rfl (subE_cons rfl (subE_cons rfl (subE_cons rfl subE_nil))))
      · skip
        rw [hIv14]
        rw [h5s]
        exact ⟨hs, by omega, by omega⟩
      · skip
        rw [hms15, hms15]
        omega
    · skip
      have hi9 : i = 5 := by omega
      rw [hi9, List.take_of_length_le (by omega)] at hs
      have hm50 : m ≤ 50 := by omega
      clear hm10 hi
      refine St_exit ?_
      refine Jm_then_exit (Jm_then_exit (Jm_block_same (Jm_seq ?_)))
      refine St_seq ?_
      refine St_seq ?_
      refine St_region ?_
      refine Ls_run (run_as (run_field Try.underlying26 rfl inf3 (by decide) rfl) (show _ = Value.pointer (some ⟨b2, 0, none⟩) from rfl)) rfl ?_
      refine Ls_run (run_load sc3 rfl (hs.blk_at 2 rfl 0 rfl)) rfl ?_
      refine Ls_call Try.func68 nm68 rfl rfl (Field_c wr x.k) rfl ?_
      rintro v23 w24 ⟨rfl, rfl⟩
      refine Ls_nil ?_
      refine Jm_seq ?_
      refine St_block ?_
      refine St_seq ?_
      refine St_region ?_
      refine Ls_run (run_eql rfl rfl) rfl ?_
      refine Ls_run (run_assign rfl) rfl ?_
      refine Ls_nil ?_
      refine Jm_seq ?_
      refine St_ifP rfl (fun h25 => ?_) (fun h25 => ?_)
      · skip
        refine St_seq ?_
        refine St_region ?_
        refine Ls_run (run_as (run_field Try.underlying26 rfl inf22 (by decide) rfl) (show _ = Value.pointer (some ⟨b2, 6, none⟩) from rfl)) rfl ?_
        refine Ls_run (run_load sc22 rfl (hs.blk_at 2 rfl 6 rfl)) rfl ?_
        refine Ls_call Try.func69 nm69 rfl rfl (rNums_c wr _ _ _ x.es (hm.e.inB hs) (by omega) (fun y hy => by have := ((hso.2.2.2.2.2.1 (by assumption)).1 y hy).2; omega)) rfl ?_
        rintro v26 w27 (⟨hneg, _⟩ | ⟨_, An, cn, rfl, hsN⟩)
        · exact absurd hneg (nms_neg hso (by assumption))
        replace hs := hs.trans hsN
        simp only [List.nil_append, List.cons_append] at hs
        have hnl := nmB_len (list := x.es) (fun y hy => by have := ((hso.2.2.2.2.2.1 (by assumption)).1 y hy).2; omega)
        have hnl2 : (nm x.es).length ≤ 60 := by unfold nm; rw [List.length_append]; have := pb_len10 (n := x.es.length) (by omega); omega
        refine Ls_run (run_move rfl) rfl ?_
        refine Ls_run (run_extract rfl rfl) rfl ?_
        refine Ls_run (run_extract rfl rfl) rfl ?_
        refine Ls_run (run_assign rfl) rfl ?_
        refine Ls_run (run_assign rfl) rfl ?_
        refine Ls_nil ?_
        refine Jm_seq ?_
        refine St_region ?_
        refine Ls_run (run_move rfl) rfl ?_
        refine Ls_run (run_move rfl) rfl ?_
        replace hs := hs.front 1 rfl
        simp only [List.cons_append, List.nil_append, List.eraseIdx_cons_zero, List.eraseIdx_cons_succ] at hs
        refine Ls_append hs Try.underlying28 inf5 rfl (by decide) (by decide) rfl rfl (hs.rd_at 1 rfl) (bytesV_one' _) (by omega) rfl ?_
        intro A28 c29 w30 hs
        rw [← bytesV_append] at hs
        refine Ls_run (run_assign rfl) rfl ?_
        refine Ls_nil ?_
        refine Jm_block_normal (Jm_seq ?_)
        refine St_seq ?_
        refine St_region ?_
        refine Ls_run (run_move rfl) rfl ?_
        refine Ls_run (run_assign rfl) rfl ?_
        refine Ls_run (run_assign rfl) rfl ?_
        refine Ls_nil ?_
        refine Jm_seq ?_
        refine St_ret ?_
        refine Jm_ret2 rfl rfl rfl ?_
        replace hs := hs.erase 1
        simp only [List.cons_append, List.nil_append, List.eraseIdx_cons_zero, List.eraseIdx_cons_succ] at hs
        replace hs := hs.erase 1
        simp only [List.cons_append, List.nil_append, List.eraseIdx_cons_zero, List.eraseIdx_cons_succ] at hs
        replace hs := hs.erase 1
        simp only [List.cons_append, List.nil_append, List.eraseIdx_cons_zero, List.eraseIdx_cons_succ] at hs
        have hE : Menc x = nmB h5 ++ nm x.es := by
          show nmB _ ++ bodyB x = _
          rw [← hh5]
          first
          | (rw [body_1 (by assumption)])
          | (rw [body_2 (by assumption)]; have hz9 : i2 = p.kn := by omega
             rw [hz9, List.take_of_length_le (by omega), hkn, List.append_assoc])
          | (rw [body_3 (by assumption)]; have hz9 : i2 = p.pn := by omega
             rw [hz9, List.take_of_length_le (by omega), hpn, List.append_assoc])
          | (rw [body_4 (by assumption)])
          | (exfalso; omega)
        obtain ⟨A9, c9, hv9, _, _, _⟩ := hs.own_form
        have hs9 := hs
        rw [hv9] at hs9
        have hln := rdB_len (hs9.rd_at 0 rfl)
        refine ⟨_, rfl, .inr ⟨hso, A9, c9, ?_, ?_⟩⟩
        · rw [hE, hln, hv9]
        · rw [hE, hln]; exact hs9
      · skip
        refine St_seq ?_
        refine St_region ?_
        refine Ls_run (run_eql rfl rfl) rfl ?_
        refine Ls_run (run_assign rfl) rfl ?_
        refine Ls_nil ?_
        refine Jm_seq ?_
        refine St_ifP rfl (fun h31 => ?_) (fun h31 => ?_)
        · skip
          refine St_seq ?_
          refine St_region ?_
          refine Ls_run (run_move rfl) rfl ?_
          refine Ls_run (run_as (run_field Try.underlying26 rfl inf23 (by decide) rfl) (show _ = Value.pointer (some ⟨b2, 7, none⟩) from rfl)) rfl ?_
          refine Ls_run (run_load sc23 rfl (hs.blk_at 2 rfl 7 rfl)) rfl ?_
          refine Ls_run (run_len Try.underlying23 rfl) rfl ?_
          refine Ls_run (run_conv_int Try.underlying38 us3 rfl (wu64 (by omega))) rfl ?_
          have h10P := pb_len10 (n := p.kn) (by omega)
          refine Ls_call Try.func67 nm67 rfl rfl (rPut_c wr (p.kn) (by omega)) rfl ?_
          rintro v32 w33 ⟨AP, cP, rfl, hsP⟩
          replace hs := hs.trans hsP
          simp only [List.nil_append, List.cons_append] at hs
          replace hs := hs.front 1 rfl
          simp only [List.cons_append, List.nil_append, List.eraseIdx_cons_zero, List.eraseIdx_cons_succ] at hs
          refine Ls_append hs Try.underlying28 inf5 rfl (by decide) (by decide) rfl rfl (hs.rd_at 1 rfl) (bytesV_one' _) (by omega) rfl ?_
          intro A34 c35 w36 hs
          rw [← bytesV_append] at hs
          refine Ls_run (run_assign rfl) rfl ?_
          refine Ls_nil ?_
          refine Jm_seq ?_
          refine St_seq ?_
          refine St_region ?_
          refine Ls_run (run_assign rfl) rfl ?_
          refine Ls_nil ?_
          refine Jm_seq ?_
          refine St_block ?_
          replace hs := hs.erase 1
          simp only [List.cons_append, List.nil_append, List.eraseIdx_cons_zero, List.eraseIdx_cons_succ] at hs
          replace hs := hs.erase 1
          simp only [List.cons_append, List.nil_append, List.eraseIdx_cons_zero, List.eraseIdx_cons_succ] at hs
          obtain ⟨En37, hEn37⟩ : ∃ F : Nat × Value × Nat → Env, ∀ (i2 : Nat) (v2 : Value) (m2 : Nat), F (i2, v2, m2) = [(1, .pointer (some ⟨b2, 0, none⟩)), (4, v2), (9, .int .i64 (i2 : Int))] := ⟨(fun (s : Nat × Value × Nat) => match s with | (i2, v2, m2) => [(1, .pointer (some ⟨b2, 0, none⟩)), (4, v2), (9, .int .i64 (i2 : Int))]), fun _ _ _ => rfl⟩
          obtain ⟨Iv38, hIv38⟩ : ∃ F : Nat × Value × Nat → World → Prop, ∀ (i2 : Nat) (v2 : Value) (m2 : Nat) (wq : World), F (i2, v2, m2) wq = (Sat w wq [Own 5 1 v2 m2 (bytesV (nmB h5 ++ pb p.kn ++ nmB (x.ks.take i2))), Blk b2 [.int .i64 x.k, .int .i64 x.f, .int .i64 x.t, .int .i64 x.b, .int .i64 x.a, .int .i64 x.c, .slice p.eA p.en p.ec, .slice p.kA p.kn p.kc, .slice p.pA p.pn p.pc] 26] ∧ i2 ≤ p.kn ∧ m2 ≤ 60 + 10 * i2) := ⟨(fun (s : Nat × Value × Nat) => match s with | (i2, v2, m2) => fun (wq : World) => Sat w wq [Own 5 1 v2 m2 (bytesV (nmB h5 ++ pb p.kn ++ nmB (x.ks.take i2))), Blk b2 [.int .i64 x.k, .int .i64 x.f, .int .i64 x.t, .int .i64 x.b, .int .i64 x.a, .int .i64 x.c, .slice p.eA p.en p.ec, .slice p.kA p.kn p.kc, .slice p.pA p.pn p.pc] 26] ∧ i2 ≤ p.kn ∧ m2 ≤ 60 + 10 * i2), fun _ _ _ _ => rfl⟩
          obtain ⟨ms39, hms39⟩ : ∃ F : Nat × Value × Nat → Nat, ∀ (i2 : Nat) (v2 : Value) (m2 : Nat), F (i2, v2, m2) = (p.kn - i2) := ⟨(fun (s : Nat × Value × Nat) => match s with | (i2, v2, m2) => p.kn - i2), fun _ _ _ => rfl⟩
          refine St_loop En37 Iv38 ms39 (0, (Value.slice A34 (m + (pb p.kn).length) c35), m + (pb p.kn).length) ?_ ?_ ?_
          · skip
            rw [hIv38]
            exact ⟨by simpa [nmB, pairsB] using hs, by omega, by omega⟩
          · rw [hEn37]; exact (subE_cons rfl (subE_cons rfl (subE_cons rfl subE_nil)))
          rintro ⟨i2, v2, m2⟩ wq hI40
          rw [hIv38] at hI40
          obtain ⟨hs, hi2, hm2⟩ := hI40
          refine St_eqE (hEn37 _ _ _) ?_
          refine St_seq ?_
          refine St_seq ?_
          refine St_region ?_
          refine Ls_run (run_move rfl) rfl ?_
          refine Ls_run (run_as (run_field Try.underlying26 rfl inf23 (by decide) rfl) (show _ = Value.pointer (some ⟨b2, 7, none⟩) from rfl)) rfl ?_
          refine Ls_run (run_load sc23 rfl (hs.blk_at 1 rfl 7 rfl)) rfl ?_
          refine Ls_run (run_len Try.underlying23 rfl) rfl ?_
          refine Ls_run (run_lss rfl rfl) rfl ?_
          refine Ls_nil ?_
          refine Jm_seq ?_
          refine St_ifP rfl (fun h41 => ?_) (fun h41 => ?_)
          · skip
            refine St_skip ?_
            refine Jm_seq ?_
            refine St_seq ?_
            refine St_block ?_
            refine St_region ?_
            refine Ls_run (run_move rfl) rfl ?_
            refine Ls_run (run_as (run_field Try.underlying26 rfl inf23 (by decide) rfl) (show _ = Value.pointer (some ⟨b2, 7, none⟩) from rfl)) rfl ?_
            refine Ls_run (run_load sc23 rfl (hs.blk_at 1 rfl 7 rfl)) rfl ?_
            refine Ls_run (run_move rfl) rfl ?_
            have hkmem : x.ks.getD i2 0 ∈ x.ks := getD_mem3 (by omega)
            have hkb := hin.ks _ hkmem
            have h10k := pb_len10 (n := (x.ks.getD i2 0).toNat) (by omega)
            refine Ls_index (El.int .u64) (hm.k.inB hs) Try.underlying23 inf38 rfl rfl (by omega) (by omega) (show _ = x.ks.getD i2 0 from rfl) rfl ?_
            intro b42 o43 hc44
            refine Ls_run (run_as (run_load sc38 rfl (hc44 0 _ rfl)) (show _ = Value.int .u64 (((x.ks.getD i2 0).toNat : Nat) : Int) from congrArg (Value.int .u64) (Int.toNat_of_nonneg hkb.1).symm)) rfl ?_
            have h10P := pb_len10 (n := (x.ks.getD i2 0).toNat) (by omega)
            refine Ls_call Try.func67 nm67 rfl rfl (rPut_c wq ((x.ks.getD i2 0).toNat) (by omega)) rfl ?_
            rintro v45 w46 ⟨AP, cP, rfl, hsP⟩
            replace hs := hs.trans hsP
            simp only [List.nil_append, List.cons_append] at hs
            replace hs := hs.front 1 rfl
            simp only [List.cons_append, List.nil_append, List.eraseIdx_cons_zero, List.eraseIdx_cons_succ] at hs
            refine Ls_append hs Try.underlying28 inf5 rfl (by decide) (by decide) rfl rfl (hs.rd_at 1 rfl) (bytesV_one' _) (by omega) rfl ?_
            intro A47 c48 w49 hs
            rw [← bytesV_append] at hs
            refine Ls_run (run_assign rfl) rfl ?_
            refine Ls_nil ?_
            refine Jm_block_normal (Jm_seq ?_)
            refine St_region ?_
            refine Ls_run (run_move rfl) rfl ?_
            refine Ls_run (run_add rfl rfl (w64 (by omega))) rfl ?_
            refine Ls_run (run_assign rfl) rfl ?_
            refine Ls_nil ?_
            replace hs := hs.erase 1
            simp only [List.cons_append, List.nil_append, List.eraseIdx_cons_zero, List.eraseIdx_cons_succ] at hs
            refine Jm_round (i2 + 1, (Value.slice A47 (m2 + (pb (x.ks.getD i2 0).toNat).length) c48), m2 + (pb (x.ks.getD i2 0).toNat).length) ?_ ?_ ?_
            · rw [hEn37]; exact (subE_cons rfl (subE_cons rfl (subE_cons rfl subE_nil)))
            · skip
              rw [hIv38]
              rw [nmB_take_succ x.ks i2 (by omega), ← List.append_assoc]
              exact ⟨hs, by omega, by omega⟩
            · skip
              rw [hms39, hms39]
              omega
          · skip
            refine St_exit ?_
            refine Jm_then_exit (Jm_then_exit (Jm_block_same (Jm_block_normal (Jm_seq ?_))))
            refine St_seq ?_
            refine St_region ?_
            refine Ls_run (run_move rfl) rfl ?_
            refine Ls_run (run_assign rfl) rfl ?_
            refine Ls_run (run_assign rfl) rfl ?_
            refine Ls_nil ?_
            refine Jm_seq ?_
            refine St_ret ?_
            refine Jm_ret2 rfl rfl rfl ?_
            replace hs := hs.erase 1
            simp only [List.cons_append, List.nil_append, List.eraseIdx_cons_zero, List.eraseIdx_cons_succ] at hs
            have hE : Menc x = nmB h5 ++ pb p.kn ++ nmB (x.ks.take i2) := by
              show nmB _ ++ bodyB x = _
              rw [← hh5]
              first
              | (rw [body_1 (by assumption)])
              | (rw [body_2 (by assumption)]; have hz9 : i2 = p.kn := by omega
                 rw [hz9, List.take_of_length_le (by omega), hkn, List.append_assoc])
              | (rw [body_3 (by assumption)]; have hz9 : i2 = p.pn := by omega
                 rw [hz9, List.take_of_length_le (by omega), hpn, List.append_assoc])
              | (rw [body_4 (by assumption)])
              | (exfalso; omega)
            obtain ⟨A9, c9, hv9, _, _, _⟩ := hs.own_form
            have hs9 := hs
            rw [hv9] at hs9
            have hln := rdB_len (hs9.rd_at 0 rfl)
            refine ⟨_, rfl, .inr ⟨hso, A9, c9, ?_, ?_⟩⟩
            · rw [hE, hln, hv9]
            · rw [hE, hln]; exact hs9
        · skip
          refine St_seq ?_
          refine St_region ?_
          refine Ls_run (run_eql rfl rfl) rfl ?_
          refine Ls_run (run_assign rfl) rfl ?_
          refine Ls_nil ?_
          refine Jm_seq ?_
          refine St_ifP rfl (fun h50 => ?_) (fun h50 => ?_)
          · skip
            refine St_seq ?_
            refine St_region ?_
            refine Ls_run (run_move rfl) rfl ?_
            refine Ls_run (run_as (run_field Try.underlying26 rfl inf24 (by decide) rfl) (show _ = Value.pointer (some ⟨b2, 8, none⟩) from rfl)) rfl ?_
            refine Ls_run (run_load sc24 rfl (hs.blk_at 2 rfl 8 rfl)) rfl ?_
            refine Ls_run (run_len Try.underlying24 rfl) rfl ?_
            refine Ls_run (run_conv_int Try.underlying38 us3 rfl (wu64 (by omega))) rfl ?_
            have h10P := pb_len10 (n := p.pn) (by omega)
            refine Ls_call Try.func67 nm67 rfl rfl (rPut_c wr (p.pn) (by omega)) rfl ?_
            rintro v51 w52 ⟨AP, cP, rfl, hsP⟩
            replace hs := hs.trans hsP
            simp only [List.nil_append, List.cons_append] at hs
            replace hs := hs.front 1 rfl
            simp only [List.cons_append, List.nil_append, List.eraseIdx_cons_zero, List.eraseIdx_cons_succ] at hs
            refine Ls_append hs Try.underlying28 inf5 rfl (by decide) (by decide) rfl rfl (hs.rd_at 1 rfl) (bytesV_one' _) (by omega) rfl ?_
            intro A53 c54 w55 hs
            rw [← bytesV_append] at hs
            refine Ls_run (run_assign rfl) rfl ?_
            refine Ls_nil ?_
            refine Jm_seq ?_
            refine St_seq ?_
            refine St_region ?_
            refine Ls_run (run_assign rfl) rfl ?_
            refine Ls_nil ?_
            refine Jm_seq ?_
            refine St_block ?_
            replace hs := hs.erase 1
            simp only [List.cons_append, List.nil_append, List.eraseIdx_cons_zero, List.eraseIdx_cons_succ] at hs
            replace hs := hs.erase 1
            simp only [List.cons_append, List.nil_append, List.eraseIdx_cons_zero, List.eraseIdx_cons_succ] at hs
            obtain ⟨En56, hEn56⟩ : ∃ F : Nat × Value × Nat → Env, ∀ (i2 : Nat) (v2 : Value) (m2 : Nat), F (i2, v2, m2) = [(1, .pointer (some ⟨b2, 0, none⟩)), (4, v2), (10, .int .i64 (i2 : Int))] := ⟨(fun (s : Nat × Value × Nat) => match s with | (i2, v2, m2) => [(1, .pointer (some ⟨b2, 0, none⟩)), (4, v2), (10, .int .i64 (i2 : Int))]), fun _ _ _ => rfl⟩
            obtain ⟨Iv57, hIv57⟩ : ∃ F : Nat × Value × Nat → World → Prop, ∀ (i2 : Nat) (v2 : Value) (m2 : Nat) (wq : World), F (i2, v2, m2) wq = (Sat w wq [Own 5 1 v2 m2 (bytesV (nmB h5 ++ pb p.pn ++ pairsB (x.ps.take i2))), Blk b2 [.int .i64 x.k, .int .i64 x.f, .int .i64 x.t, .int .i64 x.b, .int .i64 x.a, .int .i64 x.c, .slice p.eA p.en p.ec, .slice p.kA p.kn p.kc, .slice p.pA p.pn p.pc] 26] ∧ i2 ≤ p.pn ∧ m2 ≤ 60 + 18 * i2) := ⟨(fun (s : Nat × Value × Nat) => match s with | (i2, v2, m2) => fun (wq : World) => Sat w wq [Own 5 1 v2 m2 (bytesV (nmB h5 ++ pb p.pn ++ pairsB (x.ps.take i2))), Blk b2 [.int .i64 x.k, .int .i64 x.f, .int .i64 x.t, .int .i64 x.b, .int .i64 x.a, .int .i64 x.c, .slice p.eA p.en p.ec, .slice p.kA p.kn p.kc, .slice p.pA p.pn p.pc] 26] ∧ i2 ≤ p.pn ∧ m2 ≤ 60 + 18 * i2), fun _ _ _ _ => rfl⟩
            obtain ⟨ms58, hms58⟩ : ∃ F : Nat × Value × Nat → Nat, ∀ (i2 : Nat) (v2 : Value) (m2 : Nat), F (i2, v2, m2) = (p.pn - i2) := ⟨(fun (s : Nat × Value × Nat) => match s with | (i2, v2, m2) => p.pn - i2), fun _ _ _ => rfl⟩
            refine St_loop En56 Iv57 ms58 (0, (Value.slice A53 (m + (pb p.pn).length) c54), m + (pb p.pn).length) ?_ ?_ ?_
            · skip
              rw [hIv57]
              exact ⟨by simpa [nmB, pairsB] using hs, by omega, by omega⟩
            · rw [hEn56]; exact (subE_cons rfl (subE_cons rfl (subE_cons rfl subE_nil)))
            rintro ⟨i2, v2, m2⟩ wq hI59
            rw [hIv57] at hI59
            obtain ⟨hs, hi2, hm2⟩ := hI59
            refine St_eqE (hEn56 _ _ _) ?_
            refine St_seq ?_
            refine St_seq ?_
            refine St_region ?_
            refine Ls_run (run_move rfl) rfl ?_
            refine Ls_run (run_as (run_field Try.underlying26 rfl inf24 (by decide) rfl) (show _ = Value.pointer (some ⟨b2, 8, none⟩) from rfl)) rfl ?_
            refine Ls_run (run_load sc24 rfl (hs.blk_at 1 rfl 8 rfl)) rfl ?_
            refine Ls_run (run_len Try.underlying24 rfl) rfl ?_
            refine Ls_run (run_lss rfl rfl) rfl ?_
            refine Ls_nil ?_
            refine Jm_seq ?_
            refine St_ifP rfl (fun h60 => ?_) (fun h60 => ?_)
            · skip
              refine St_skip ?_
              refine Jm_seq ?_
              refine St_seq ?_
              refine St_block ?_
              refine St_seq ?_
              refine St_region ?_
              refine Ls_run (run_move rfl) rfl ?_
              refine Ls_run (run_as (run_field Try.underlying26 rfl inf24 (by decide) rfl) (show _ = Value.pointer (some ⟨b2, 8, none⟩) from rfl)) rfl ?_
              refine Ls_run (run_load sc24 rfl (hs.blk_at 1 rfl 8 rfl)) rfl ?_
              obtain ⟨⟨ka, ha, ba⟩, ho0⟩ : ∃ o, x.ps.getD i2 (0, false, 0) = o := ⟨_, rfl⟩
              have hmem : (ka, ha, ba) ∈ x.ps := by rw [← ho0]; exact getD_mem3 (by omega)
              have hbb := hin.ps _ hmem
              simp only at hbb
              obtain ⟨kn, hkn9⟩ : ∃ q : Nat, ka = (q : Int) := ⟨ka.toNat, by omega⟩
              obtain ⟨bn, hbn9⟩ : ∃ q : Nat, ba = (q : Int) := ⟨ba.toNat, by omega⟩
              have ho : x.ps.getD i2 (0, false, 0) = ((kn : Int), ha, (bn : Int)) := by rw [ho0, hkn9, hbn9]
              refine Ls_run (run_move rfl) rfl ?_
              refine Ls_index (KP) (hm.p.inB hs) Try.underlying24 inf42 rfl rfl (by omega) (by omega) ho rfl ?_
              intro b61 o62 hc63
              refine Ls_run (run_field Try.underlying42 rfl inf38 (by decide) rfl) rfl ?_
              refine Ls_run (run_load sc38 rfl (hc63 0 _ rfl)) rfl ?_
              have h10P := pb_len10 (n := kn) (by omega)
              refine Ls_call Try.func67 nm67 rfl rfl (rPut_c wq (kn) (by omega)) rfl ?_
              rintro v64 w65 ⟨AP, cP, rfl, hsP⟩
              replace hs := hs.trans hsP
              simp only [List.nil_append, List.cons_append] at hs
              replace hs := hs.front 1 rfl
              simp only [List.cons_append, List.nil_append, List.eraseIdx_cons_zero, List.eraseIdx_cons_succ] at hs
              refine Ls_append hs Try.underlying28 inf5 rfl (by decide) (by decide) rfl rfl (hs.rd_at 1 rfl) (bytesV_one' _) (by omega) rfl ?_
              intro A66 c67 w68 hs
              rw [← bytesV_append] at hs
              refine Ls_run (run_assign rfl) rfl ?_
              refine Ls_nil ?_
              refine Jm_seq ?_
              refine St_region ?_
              refine Ls_run (run_move rfl) rfl ?_
              refine Ls_run (run_as (run_field Try.underlying26 rfl inf24 (by decide) rfl) (show _ = Value.pointer (some ⟨b2, 8, none⟩) from rfl)) rfl ?_
              refine Ls_run (run_load sc24 rfl (hs.blk_at 2 rfl 8 rfl)) rfl ?_
              refine Ls_run (run_move rfl) rfl ?_
              refine Ls_index (KP) (hm.p.inB hs) Try.underlying24 inf42 rfl rfl (by omega) (by omega) ho rfl ?_
              intro b69 o70 hc71
              refine Ls_run (run_field Try.underlying42 rfl inf40 (by decide) rfl) rfl ?_
              refine Ls_run (run_field Try.underlying40 rfl inf38 (by decide) rfl) rfl ?_
              refine Ls_run (run_load sc38 rfl (hc71 2 _ rfl)) rfl ?_
              refine Ls_call Try.func70 nm70 rfl rfl (rWord_c w68 bn (by omega)) rfl ?_
              rintro v72 w73 ⟨Aw, cw, rfl, hsW⟩
              replace hs := hs.trans hsW
              simp only [List.nil_append, List.cons_append] at hs
              replace hs := hs.front 1 rfl
              simp only [List.cons_append, List.nil_append, List.eraseIdx_cons_zero, List.eraseIdx_cons_succ] at hs
              refine Ls_append hs Try.underlying28 inf5 rfl (by decide) (by decide) rfl rfl (hs.rd_at 1 rfl) (bytesV_one' _) (by omega) rfl ?_
              intro A74 c75 w76 hs
              rw [← bytesV_append] at hs
              refine Ls_run (run_assign rfl) rfl ?_
              refine Ls_nil ?_
              refine Jm_block_normal (Jm_seq ?_)
              refine St_region ?_
              refine Ls_run (run_move rfl) rfl ?_
              refine Ls_run (run_add rfl rfl (w64 (by omega))) rfl ?_
              refine Ls_run (run_assign rfl) rfl ?_
              refine Ls_nil ?_
              replace hs := hs.erase 1
              simp only [List.cons_append, List.nil_append, List.eraseIdx_cons_zero, List.eraseIdx_cons_succ] at hs
              replace hs := hs.erase 1
              simp only [List.cons_append, List.nil_append, List.eraseIdx_cons_zero, List.eraseIdx_cons_succ] at hs
              refine Jm_round (i2 + 1, (Value.slice A74 (m2 + (pb kn).length + 8) c75), m2 + (pb kn).length + 8) ?_ ?_ ?_
              · rw [hEn56]; exact (subE_cons rfl (subE_cons rfl (subE_cons rfl subE_nil)))
              · skip
                rw [hIv57]
                rw [pairsB_snoc (by omega) ho, ← List.append_assoc, ← List.append_assoc]
                simp only [Int.toNat_natCast]
                exact ⟨hs, by omega, by omega⟩
              · skip
                rw [hms58, hms58]
                omega
            · skip
              refine St_exit ?_
              refine Jm_then_exit (Jm_then_exit (Jm_block_same (Jm_block_normal (Jm_seq ?_))))
              refine St_seq ?_
              refine St_region ?_
              refine Ls_run (run_move rfl) rfl ?_
              refine Ls_run (run_assign rfl) rfl ?_
              refine Ls_run (run_assign rfl) rfl ?_
              refine Ls_nil ?_
              refine Jm_seq ?_
              refine St_ret ?_
              refine Jm_ret2 rfl rfl rfl ?_
              replace hs := hs.erase 1
              simp only [List.cons_append, List.nil_append, List.eraseIdx_cons_zero, List.eraseIdx_cons_succ] at hs
              have hE : Menc x = nmB h5 ++ pb p.pn ++ pairsB (x.ps.take i2) := by
                show nmB _ ++ bodyB x = _
                rw [← hh5]
                first
                | (rw [body_1 (by assumption)])
                | (rw [body_2 (by assumption)]; have hz9 : i2 = p.kn := by omega
                   rw [hz9, List.take_of_length_le (by omega), hkn, List.append_assoc])
                | (rw [body_3 (by assumption)]; have hz9 : i2 = p.pn := by omega
                   rw [hz9, List.take_of_length_le (by omega), hpn, List.append_assoc])
                | (rw [body_4 (by assumption)])
                | (exfalso; omega)
              obtain ⟨A9, c9, hv9, _, _, _⟩ := hs.own_form
              have hs9 := hs
              rw [hv9] at hs9
              have hln := rdB_len (hs9.rd_at 0 rfl)
              refine ⟨_, rfl, .inr ⟨hso, A9, c9, ?_, ?_⟩⟩
              · rw [hE, hln, hv9]
              · rw [hE, hln]; exact hs9
          · skip
            refine St_seq ?_
            refine St_region ?_
            refine Ls_run (run_eql rfl rfl) rfl ?_
            refine Ls_run (run_assign rfl) rfl ?_
            refine Ls_nil ?_
            refine Jm_seq ?_
            refine St_ifP rfl (fun h77 => ?_) (fun h77 => ?_)
            · skip
              refine St_region ?_
              refine Ls_run (run_move rfl) rfl ?_
              refine Ls_run (run_as (run_field Try.underlying26 rfl inf3 (by decide) rfl) (show _ = Value.pointer (some ⟨b2, 5, none⟩) from rfl)) rfl ?_
              refine Ls_run (run_load sc3 rfl (hs.blk_at 2 rfl 5 rfl)) rfl ?_
              refine Ls_run (run_conv_int Try.underlying38 us3 rfl (wuI (by omega))) rfl ?_
              have h10P := pb_len10 (n := x.c.toNat) (by omega)
              refine Ls_call Try.func67 nm67 rfl rfl (rPut_c wr (x.c.toNat) (by omega)) rfl ?_
              rintro v78 w79 ⟨AP, cP, rfl, hsP⟩
              replace hs := hs.trans hsP
              simp only [List.nil_append, List.cons_append] at hs
              replace hs := hs.front 1 rfl
              simp only [List.cons_append, List.nil_append, List.eraseIdx_cons_zero, List.eraseIdx_cons_succ] at hs
              refine Ls_append hs Try.underlying28 inf5 rfl (by decide) (by decide) rfl rfl (hs.rd_at 1 rfl) (bytesV_one' _) (by omega) rfl ?_
              intro A80 c81 w82 hs
              rw [← bytesV_append] at hs
              refine Ls_run (run_assign rfl) rfl ?_
              refine Ls_nil ?_
              refine Jm_block_normal (Jm_seq ?_)
              refine St_seq ?_
              refine St_region ?_
              refine Ls_run (run_move rfl) rfl ?_
              refine Ls_run (run_assign rfl) rfl ?_
              refine Ls_run (run_assign rfl) rfl ?_
              refine Ls_nil ?_
              refine Jm_seq ?_
              refine St_ret ?_
              refine Jm_ret2 rfl rfl rfl ?_
              replace hs := hs.erase 1
              simp only [List.cons_append, List.nil_append, List.eraseIdx_cons_zero, List.eraseIdx_cons_succ] at hs
              replace hs := hs.erase 1
              simp only [List.cons_append, List.nil_append, List.eraseIdx_cons_zero, List.eraseIdx_cons_succ] at hs
              replace hs := hs.erase 1
              simp only [List.cons_append, List.nil_append, List.eraseIdx_cons_zero, List.eraseIdx_cons_succ] at hs
              have hE : Menc x = nmB h5 ++ pb x.c.toNat := by
                show nmB _ ++ bodyB x = _
                rw [← hh5]
                first
                | (rw [body_1 (by assumption)])
                | (rw [body_2 (by assumption)]; have hz9 : i2 = p.kn := by omega
                   rw [hz9, List.take_of_length_le (by omega), hkn, List.append_assoc])
                | (rw [body_3 (by assumption)]; have hz9 : i2 = p.pn := by omega
                   rw [hz9, List.take_of_length_le (by omega), hpn, List.append_assoc])
                | (rw [body_4 (by assumption)])
                | (exfalso; omega)
              obtain ⟨A9, c9, hv9, _, _, _⟩ := hs.own_form
              have hs9 := hs
              rw [hv9] at hs9
              have hln := rdB_len (hs9.rd_at 0 rfl)
              refine ⟨_, rfl, .inr ⟨hso, A9, c9, ?_, ?_⟩⟩
              · rw [hE, hln, hv9]
              · rw [hE, hln]; exact hs9
            · skip
              refine St_skip ?_
              refine Jm_block_normal (Jm_seq ?_)
              refine St_seq ?_
              refine St_region ?_
              refine Ls_run (run_move rfl) rfl ?_
              refine Ls_run (run_assign rfl) rfl ?_
              refine Ls_run (run_assign rfl) rfl ?_
              refine Ls_nil ?_
              refine Jm_seq ?_
              refine St_ret ?_
              refine Jm_ret2 rfl rfl rfl ?_
              replace hs := hs.erase 1
              simp only [List.cons_append, List.nil_append, List.eraseIdx_cons_zero, List.eraseIdx_cons_succ] at hs
              replace hs := hs.erase 1
              simp only [List.cons_append, List.nil_append, List.eraseIdx_cons_zero, List.eraseIdx_cons_succ] at hs
              have hE : Menc x = nmB h5 := by
                show nmB _ ++ bodyB x = _
                rw [← hh5]
                first
                | (rw [body_1 (by assumption)])
                | (rw [body_2 (by assumption)]; have hz9 : i2 = p.kn := by omega
                   rw [hz9, List.take_of_length_le (by omega), hkn, List.append_assoc])
                | (rw [body_3 (by assumption)]; have hz9 : i2 = p.pn := by omega
                   rw [hz9, List.take_of_length_le (by omega), hpn, List.append_assoc])
                | (rw [body_4 (by assumption)])
                | (exfalso; omega)
              obtain ⟨A9, c9, hv9, _, _, _⟩ := hs.own_form
              have hs9 := hs
              rw [hv9] at hs9
              have hln := rdB_len (hs9.rd_at 0 rfl)
              refine ⟨_, rfl, .inr ⟨hso, A9, c9, ?_, ?_⟩⟩
              · rw [hE, hln, hv9]
              · rw [hE, hln]; exact hs9
end Go.Proofs.Ytipkfdeiallifaa.Lg
