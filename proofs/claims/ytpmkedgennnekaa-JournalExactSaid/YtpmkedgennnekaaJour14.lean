/-
  The reference's read and Open, walked. By program (gen/jour14.py).
-/
import Derived.Test.YtpmkedgennnekaaJour13
set_option linter.unusedVariables false
set_option linter.unusedSimpArgs false
namespace Go.Proofs.Ytpmkedgennnekaa.Lg
open Go Go.RowKit Go.Proofs.Ytpmkedgennnekaa.WirePure
theorem arr3b {k : Nat} (hk : k < 3) {a b c : Value} : Nat.blt k ([a, b, c]).length = true := by
  rcases three hk with rfl | rfl | rfl <;> rfl
theorem arr3s {k : Nat} (hk : k < 3) {x0 x1 x2 x : Int} : ([Value.int .i64 x0, .int .i64 x1, .int .i64 x2]).set k (.int .i64 x) = [.int .i64 (if k = 0 then x else x0), .int .i64 (if k = 1 then x else x1), .int .i64 (if k = 2 then x else x2)] := by
  rcases three hk with rfl | rfl | rfl <;> rfl
theorem rdN_0 {x0 x1 x2 parts : Int} {l b b' : List Int} (h : tn1 b = some (l, b')) : rdN 0 x0 x1 x2 [] [] b parts = rdN 1 x0 x1 x2 l [] b' parts := by rw [rdN_some (by decide) h]; rfl
theorem rdN_1 {x0 x1 x2 parts : Int} {l1 l b b' : List Int} (h : tn1 b = some (l, b')) : rdN 1 x0 x1 x2 l1 [] b parts = rdF x0 x1 x2 l1 l b' parts := by rw [rdN_some (by decide) h]; rfl
set_option maxRecDepth 100000 in
set_option maxHeartbeats 1000000 in
theorem rread_c (w : World) (A : Option Addr) (n c : Nat) (b : List Int) (hr : Rd w A n c 1 (bytesV b)) (hb : IsBytes b) (hn : n ≤ 1000000) (parts : Int) :
    Calls Try.prog 75 [.slice A n c, .int .i64 parts].toArray w (Ret (fun v' w' => ∃ (q : NSt) (g : Int) (Ap : Option Addr) (cp : Nat) (Ac : Option Addr) (cc : Nat), v' = .tuple #[.int .i64 g, .agg #[.int .i64 q.batch, .slice Ap q.prev.length cp, .slice Ac q.cur.length cc, .int .i64 q.att]] ∧ Sat w w' [Own 3 1 (.slice Ap q.prev.length cp) q.prev.length (KI.flat q.prev), Own 3 1 (.slice Ac q.cur.length cc) q.cur.length (KI.flat q.cur)] ∧ 0 ≤ g ∧ ((g ≠ 0 ∧ rentry b parts = some (q, g)) ∨ (g = 0 ∧ rentry b parts = none)))) := by
  have hs := Sat.start w
  refine Calls_body Try.func75 rfl rfl rfl (envE_cons (i := 0) (v := .slice A n c) rfl (envE_cons (i := 1) (v := .int .i64 parts) rfl envE_nil)) ?_
  refine St_seq ?_
  refine St_region ?_
  refine Ls_run (run_assign rfl) rfl ?_
  refine Ls_alloc hs inf66 rfl ?_
  intro b2 w1 hs
  refine Ls_nil ?_
  refine Jm_seq ?_
  refine St_seq ?_
  refine St_region ?_
  refine Ls_alloc hs inf126 rfl ?_
  intro b4 w3 hs
  refine Ls_nil ?_
  refine Jm_seq ?_
  refine St_seq ?_
  refine St_seq ?_
  refine St_region ?_
  refine Ls_run (run_assign rfl) rfl ?_
  refine Ls_nil ?_
  refine Jm_seq ?_
  refine St_block ?_
  obtain ⟨En5, hEn5⟩ : ∃ F : Nat × Int × Int × Int × Option Addr × Nat × Nat × List Int → Env, ∀ (k : Nat) (x0 : Int) (x1 : Int) (x2 : Int) (A1 : Option Addr) (n1 : Nat) (c1 : Nat) (b1 : List Int), F (k, x0, x1, x2, A1, n1, c1, b1) = [(0, .slice A1 n1 c1), (1, .int .i64 parts), (5, .pointer (some ⟨b2, 0, none⟩)), (6, .pointer (some ⟨b4, 0, none⟩)), (7, .int .i64 (k : Int))] := ⟨(fun (s : Nat × Int × Int × Int × Option Addr × Nat × Nat × List Int) => match s with | (k, x0, x1, x2, A1, n1, c1, b1) => [(0, .slice A1 n1 c1), (1, .int .i64 parts), (5, .pointer (some ⟨b2, 0, none⟩)), (6, .pointer (some ⟨b4, 0, none⟩)), (7, .int .i64 (k : Int))]), fun _ _ _ _ _ _ _ _ => rfl⟩
  obtain ⟨Iv6, hIv6⟩ : ∃ F : Nat × Int × Int × Int × Option Addr × Nat × Nat × List Int → World → Prop, ∀ (k : Nat) (x0 : Int) (x1 : Int) (x2 : Int) (A1 : Option Addr) (n1 : Nat) (c1 : Nat) (b1 : List Int) (wr : World), F (k, x0, x1, x2, A1, n1, c1, b1) wr = (Sat w wr [Blk b4 [.int .i64 x0, .int .i64 x1, .int .i64 x2] 126, Blk b2 [.int .i64 0, .slice none 0 0, .slice none 0 0, .int .i64 0] 66] ∧ k ≤ 3 ∧ rentry b parts = rdK k x0 x1 x2 b1 parts ∧ Rd w A1 n1 c1 1 (bytesV b1) ∧ IsBytes b1 ∧ n1 ≤ 1000000 ∧ 0 ≤ x0) := ⟨(fun (s : Nat × Int × Int × Int × Option Addr × Nat × Nat × List Int) => match s with | (k, x0, x1, x2, A1, n1, c1, b1) => fun (wr : World) => Sat w wr [Blk b4 [.int .i64 x0, .int .i64 x1, .int .i64 x2] 126, Blk b2 [.int .i64 0, .slice none 0 0, .slice none 0 0, .int .i64 0] 66] ∧ k ≤ 3 ∧ rentry b parts = rdK k x0 x1 x2 b1 parts ∧ Rd w A1 n1 c1 1 (bytesV b1) ∧ IsBytes b1 ∧ n1 ≤ 1000000 ∧ 0 ≤ x0), fun _ _ _ _ _ _ _ _ _ => rfl⟩
  obtain ⟨ms7, hms7⟩ : ∃ F : Nat × Int × Int × Int × Option Addr × Nat × Nat × List Int → Nat, ∀ (k : Nat) (x0 : Int) (x1 : Int) (x2 : Int) (A1 : Option Addr) (n1 : Nat) (c1 : Nat) (b1 : List Int), F (k, x0, x1, x2, A1, n1, c1, b1) = (3 - k) := ⟨(fun (s : Nat × Int × Int × Int × Option Addr × Nat × Nat × List Int) => match s with | (k, x0, x1, x2, A1, n1, c1, b1) => 3 - k), fun _ _ _ _ _ _ _ _ => rfl⟩
  refine St_loop En5 Iv6 ms7 (0, 0, 0, 0, A, n, c, b) ?_ ?_ ?_
  · skip
    rw [hIv6]
    exact ⟨hs, by omega, rfl, hr, hb, hn, by omega⟩
  · rw [hEn5]; exact (subE_cons rfl (subE_cons rfl (subE_cons rfl (subE_cons rfl (subE_cons rfl subE_nil)))))
  rintro ⟨k, x0, x1, x2, A1, n1, c1, b1⟩ wr hI8
  rw [hIv6] at hI8
  obtain ⟨hs, hk, hre, hr1, hb1, hn1, hx0⟩ := hI8
  refine St_eqE (hEn5 _ _ _ _ _ _ _ _) ?_
  refine St_seq ?_
  refine St_seq ?_
  refine St_region ?_
  refine Ls_run (run_move rfl) rfl ?_
  refine Ls_run (run_lss rfl rfl) rfl ?_
  refine Ls_nil ?_
  refine Jm_seq ?_
  refine St_ifP rfl (fun h9 => ?_) (fun h9 => ?_)
  · skip
    refine St_skip ?_
    refine Jm_seq ?_
    refine St_seq ?_
    refine St_block ?_
    refine St_seq ?_
    refine St_region ?_
    refine Ls_run (run_move rfl) rfl ?_
    refine Ls_call Try.func91 nm91 rfl rfl (rTake_c wr A1 n1 c1 b1 (hr1.inB hs) hb1 (by omega)) rfl ?_
    rintro v10 w11 ⟨rfl, rfl⟩
    obtain ⟨⟨xv, a, e⟩, htk⟩ : ∃ q, tk 0 0 b1 = q := ⟨_, rfl⟩
    rw [tkV_eq htk]
    refine Ls_run (run_move rfl) rfl ?_
    refine Ls_run (run_extract rfl rfl) rfl ?_
    refine Ls_run (run_extract rfl rfl) rfl ?_
    refine Ls_run (run_extract rfl rfl) rfl ?_
    refine Ls_run (run_assign rfl) rfl ?_
    refine Ls_run (run_assign rfl) rfl ?_
    refine Ls_run (run_assign rfl) rfl ?_
    refine Ls_nil ?_
    refine Jm_seq ?_
    refine St_seq ?_
    refine St_seq ?_
    refine St_region ?_
    refine Ls_run (run_move rfl) rfl ?_
    refine Ls_run (run_neq rfl rfl) rfl ?_
    refine Ls_run (run_move rfl) rfl ?_
    refine Ls_partP (t := 28) rfl (fun h12 => ?_) (fun h12 => ?_)
    · skip
      refine Ls_off rfl rfl rfl rfl ?_
      refine Ls_off rfl rfl rfl rfl ?_
      refine Ls_run (run_pick_t rfl rfl) rfl ?_
      refine Ls_nil ?_
      refine Jm_seq ?_
      refine St_ift rfl ?_
      refine St_seq ?_
      refine St_region ?_
      refine Ls_run (run_buildO (pv := []) rfl (bld66 )) rfl ?_
      refine Ls_run (run_assign rfl) rfl ?_
      replace hs := hs.front 1 rfl
      simp only [List.cons_append, List.nil_append, List.eraseIdx_cons_zero, List.eraseIdx_cons_succ] at hs
      refine Ls_storeAgg hs inf66 rfl rfl rfl rfl (by simp [Value.oneCell', Value.cells, jcells]) ?_
      intro w14 hs
      refine Ls_nil ?_
      refine Jm_seq ?_
      refine St_ret ?_
      refine Jm_then_ret (Jm_block_ret (Jm_then_ret (Jm_then_ret (Jm_block_ret (Jm_then_ret  ?_)))))
      refine Jm_retTC rfl agg66 inf66 rfl rfl rfl (hs.blk_cells 0 rfl 0 4) ?_
      first
      | exact ⟨_, rfl, ⟨0, [], [], 0⟩, 0, none, 0, none, 0, rfl, (hs.forget.own_nil 3 1).own_nil 3 1, Int.le_refl _, .inr ⟨rfl, by rw [hre, rdK_none (by omega) (tk1_none htk (by omega))]⟩⟩
      | exact ⟨_, rfl, ⟨0, [], [], 0⟩, 0, none, 0, none, 0, rfl, (hs.forget.own_nil 3 1).own_nil 3 1, Int.le_refl _, .inr ⟨rfl, by rw [hre, rdN_none (by decide) (tn1_none htn1 (by assumption))]⟩⟩
      | exact ⟨_, rfl, ⟨0, [], [], 0⟩, 0, none, 0, none, 0, rfl, (hs.forget.own_nil 3 1).own_nil 3 1, Int.le_refl _, .inr ⟨rfl, by rw [hre, rdN_none (by decide) (tn1_none htn2 (by assumption))]⟩⟩
      | (have he0 : e2 = 0 := by omega
         subst he0
         have hrg2 := tnum_at hbb3 htn2
         have hl3 := rdB_len hr3
         exact ⟨_, rfl, ⟨0, [], [], 0⟩, 0, none, 0, none, 0, rfl, (hs.forget.own_nil 3 1).own_nil 3 1, Int.le_refl _, .inr ⟨rfl, by rw [hre, rdN_1 (tn1_some htn2)]; unfold rdF; rw [if_pos (.inl (by rw [List.length_drop]; omega))]⟩⟩)
      | exact ⟨_, rfl, ⟨0, [], [], 0⟩, 0, none, 0, none, 0, rfl, (hs.forget.own_nil 3 1).own_nil 3 1, Int.le_refl _, .inr ⟨rfl, by rw [hre]; unfold rdF; rw [if_pos (.inr (.inr (by assumption)))]⟩⟩
    · skip
      refine Ls_on rfl rfl ?_
      refine Ls_run (run_move rfl) rfl ?_
      refine Ls_on rfl rfl ?_
      refine Ls_run (run_gtr rfl rfl) rfl ?_
      refine Ls_run (run_pick_f rfl rfl) rfl ?_
      refine Ls_nil ?_
      refine Jm_seq ?_
      refine St_ifP rfl (fun h15 => ?_) (fun h15 => ?_)
      · skip
        refine St_seq ?_
        refine St_region ?_
        refine Ls_run (run_buildO (pv := []) rfl (bld66 )) rfl ?_
        refine Ls_run (run_assign rfl) rfl ?_
        replace hs := hs.front 1 rfl
        simp only [List.cons_append, List.nil_append, List.eraseIdx_cons_zero, List.eraseIdx_cons_succ] at hs
        refine Ls_storeAgg hs inf66 rfl rfl rfl rfl (by simp [Value.oneCell', Value.cells, jcells]) ?_
        intro w16 hs
        refine Ls_nil ?_
        refine Jm_seq ?_
        refine St_ret ?_
        refine Jm_then_ret (Jm_block_ret (Jm_then_ret (Jm_then_ret (Jm_block_ret (Jm_then_ret  ?_)))))
        refine Jm_retTC rfl agg66 inf66 rfl rfl rfl (hs.blk_cells 0 rfl 0 4) ?_
        first
        | exact ⟨_, rfl, ⟨0, [], [], 0⟩, 0, none, 0, none, 0, rfl, (hs.forget.own_nil 3 1).own_nil 3 1, Int.le_refl _, .inr ⟨rfl, by rw [hre, rdK_none (by omega) (tk1_none htk (by omega))]⟩⟩
        | exact ⟨_, rfl, ⟨0, [], [], 0⟩, 0, none, 0, none, 0, rfl, (hs.forget.own_nil 3 1).own_nil 3 1, Int.le_refl _, .inr ⟨rfl, by rw [hre, rdN_none (by decide) (tn1_none htn1 (by assumption))]⟩⟩
        | exact ⟨_, rfl, ⟨0, [], [], 0⟩, 0, none, 0, none, 0, rfl, (hs.forget.own_nil 3 1).own_nil 3 1, Int.le_refl _, .inr ⟨rfl, by rw [hre, rdN_none (by decide) (tn1_none htn2 (by assumption))]⟩⟩
        | (have he0 : e2 = 0 := by omega
           subst he0
           have hrg2 := tnum_at hbb3 htn2
           have hl3 := rdB_len hr3
           exact ⟨_, rfl, ⟨0, [], [], 0⟩, 0, none, 0, none, 0, rfl, (hs.forget.own_nil 3 1).own_nil 3 1, Int.le_refl _, .inr ⟨rfl, by rw [hre, rdN_1 (tn1_some htn2)]; unfold rdF; rw [if_pos (.inl (by rw [List.length_drop]; omega))]⟩⟩)
        | exact ⟨_, rfl, ⟨0, [], [], 0⟩, 0, none, 0, none, 0, rfl, (hs.forget.own_nil 3 1).own_nil 3 1, Int.le_refl _, .inr ⟨rfl, by rw [hre]; unfold rdF; rw [if_pos (.inr (.inr (by assumption)))]⟩⟩
      · skip
        refine St_skip ?_
        refine Jm_seq ?_
        refine St_seq ?_
        refine St_region ?_
        have hk3 : k < 3 := by omega
        have he0 : e = 0 := by omega
        subst he0
        have hrg := tk_range hb1 htk
        obtain ⟨an, rfl⟩ : ∃ an : Nat, a = (an : Int) := ⟨a.toNat, by omega⟩
        have hl1 := rdB_len hr1
        have hc1 := hr1.cap
        refine Ls_run (run_move rfl) rfl ?_
        refine Ls_run (run_move rfl) rfl ?_
        refine Ls_run (run_conv_int Try.underlying3 us114 rfl (show _ = xv by rw [w64 (by omega)])) rfl ?_
        refine Ls_run (run_as (run_index_arr Try.underlying126 inf3 rfl rfl (by omega) (by omega)) (show _ = Value.pointer (some ⟨b4, k, none⟩) by simp)) rfl ?_
        refine Ls_store hs inf3 rfl rfl rfl (arr3b hk3) ?_
        intro w17 hs
        rw [arr3s hk3] at hs
        refine Ls_nil ?_
        refine Jm_seq ?_
        refine St_region ?_
        refine Ls_run (run_move rfl) rfl ?_
        refine Ls_run (run_move rfl) rfl ?_
        refine Ls_run (run_as (run_slice_l Try.underlying31 inf5 rfl rfl (by omega) (by omega)) (show _ = Value.slice (if c1 = an then A1 else A1.map (·.add (an * 1))) (n1 - an) (c1 - an) from rfl)) rfl ?_
        refine Ls_run (run_assign rfl) rfl ?_
        refine Ls_nil ?_
        refine Jm_block_normal (Jm_seq ?_)
        refine St_region ?_
        refine Ls_run (run_move rfl) rfl ?_
        refine Ls_run (run_add rfl rfl (w64 (by omega))) rfl ?_
        refine Ls_run (run_assign rfl) rfl ?_
        refine Ls_nil ?_
        refine Jm_round (k + 1, if k = 0 then xv else x0, if k = 1 then xv else x1, if k = 2 then xv else x2, (if c1 = an then A1 else A1.map (·.add (an * 1))), n1 - an, c1 - an, b1.drop an) ?_ ?_ ?_
        · rw [hEn5]; exact (subE_cons rfl (subE_cons rfl (subE_cons rfl (subE_cons rfl (subE_cons rfl subE_nil)))))
        · skip
          rw [hIv6]
          exact ⟨hs, by omega, by rw [hre, rdK_some hk3 (tk1_some htk (by omega))]; rfl, rdB_drop hr1 an (by omega), hb1.dropn an, by omega, by split <;> omega⟩
        · skip
          rw [hms7, hms7]
          omega
  · skip
    refine St_exit ?_
    refine Jm_then_exit (Jm_then_exit (Jm_block_same (Jm_seq ?_)))
    refine St_seq ?_
    refine St_region ?_
    have hk9 : k = 3 := by omega
    rw [hk9, rdK_3] at hre
    refine Ls_run (run_move rfl) rfl ?_
    refine Ls_call Try.func92 nm92 rfl rfl (rTakeNums_c wr A1 n1 c1 b1 4 (hr1.inB hs) hb1 (by omega) (by decide)) rfl ?_
    rintro v18 w19 ⟨AT1, cT1, rfl, hsT⟩
    obtain ⟨⟨l1, a1, e1⟩, htn1⟩ : ∃ q, tnum b1 4 = q := ⟨_, rfl⟩
    simp only [htn1] at hsT ⊢
    replace hs := hs.trans hsT
    simp only [List.cons_append, List.nil_append] at hs
    refine Ls_run (run_move rfl) rfl ?_
    refine Ls_run (run_extract rfl rfl) rfl ?_
    refine Ls_run (run_extract rfl rfl) rfl ?_
    refine Ls_run (run_extract rfl rfl) rfl ?_
    refine Ls_run (run_assign rfl) rfl ?_
    refine Ls_run (run_assign rfl) rfl ?_
    refine Ls_run (run_assign rfl) rfl ?_
    refine Ls_nil ?_
    refine Jm_seq ?_
    refine St_seq ?_
    refine St_seq ?_
    refine St_region ?_
    refine Ls_run (run_move rfl) rfl ?_
    refine Ls_run (run_neq rfl rfl) rfl ?_
    refine Ls_nil ?_
    refine Jm_seq ?_
    refine St_ifP rfl (fun h20 => ?_) (fun h20 => ?_)
    · skip
      refine St_seq ?_
      refine St_region ?_
      refine Ls_run (run_buildO (pv := []) rfl (bld66 )) rfl ?_
      refine Ls_run (run_assign rfl) rfl ?_
      replace hs := hs.front 2 rfl
      simp only [List.cons_append, List.nil_append, List.eraseIdx_cons_zero, List.eraseIdx_cons_succ] at hs
      refine Ls_storeAgg hs inf66 rfl rfl rfl rfl (by simp [Value.oneCell', Value.cells, jcells]) ?_
      intro w21 hs
      refine Ls_nil ?_
      refine Jm_seq ?_
      refine St_ret ?_
      refine Jm_then_ret  ?_
      refine Jm_retTC rfl agg66 inf66 rfl rfl rfl (hs.blk_cells 0 rfl 0 4) ?_
      first
      | exact ⟨_, rfl, ⟨0, [], [], 0⟩, 0, none, 0, none, 0, rfl, (hs.forget.own_nil 3 1).own_nil 3 1, Int.le_refl _, .inr ⟨rfl, by rw [hre, rdK_none (by omega) (tk1_none htk (by omega))]⟩⟩
      | exact ⟨_, rfl, ⟨0, [], [], 0⟩, 0, none, 0, none, 0, rfl, (hs.forget.own_nil 3 1).own_nil 3 1, Int.le_refl _, .inr ⟨rfl, by rw [hre, rdN_none (by decide) (tn1_none htn1 (by assumption))]⟩⟩
      | exact ⟨_, rfl, ⟨0, [], [], 0⟩, 0, none, 0, none, 0, rfl, (hs.forget.own_nil 3 1).own_nil 3 1, Int.le_refl _, .inr ⟨rfl, by rw [hre, rdN_none (by decide) (tn1_none htn2 (by assumption))]⟩⟩
      | (have he0 : e2 = 0 := by omega
         subst he0
         have hrg2 := tnum_at hbb3 htn2
         have hl3 := rdB_len hr3
         exact ⟨_, rfl, ⟨0, [], [], 0⟩, 0, none, 0, none, 0, rfl, (hs.forget.own_nil 3 1).own_nil 3 1, Int.le_refl _, .inr ⟨rfl, by rw [hre, rdN_1 (tn1_some htn2)]; unfold rdF; rw [if_pos (.inl (by rw [List.length_drop]; omega))]⟩⟩)
      | exact ⟨_, rfl, ⟨0, [], [], 0⟩, 0, none, 0, none, 0, rfl, (hs.forget.own_nil 3 1).own_nil 3 1, Int.le_refl _, .inr ⟨rfl, by rw [hre]; unfold rdF; rw [if_pos (.inr (.inr (by assumption)))]⟩⟩
    · skip
      refine St_skip ?_
      refine Jm_seq ?_
      refine St_seq ?_
      refine St_region ?_
      have he0 : e1 = 0 := by omega
      subst he0
      have hrg := tnum_at hb1 htn1
      obtain ⟨an, rfl⟩ : ∃ an : Nat, a1 = (an : Int) := ⟨a1.toNat, by omega⟩
      have hl1 := rdB_len hr1
      have hc1 := hr1.cap
      rw [rdN_0 (tn1_some htn1)] at hre
      simp only [Int.toNat_natCast] at hre
      have hr3 := rdB_drop hr1 an (by omega)
      obtain ⟨b3, hb3e⟩ : ∃ q, q = b1.drop an := ⟨_, rfl⟩
      have hbb3 : IsBytes b3 := by rw [hb3e]; exact hb1.dropn an
      rw [← hb3e] at hr3 hre
      obtain ⟨A3, hA3⟩ : ∃ q, q = (if c1 = an then A1 else A1.map (·.add (an * 1))) := ⟨_, rfl⟩
      rw [← hA3] at hr3
      refine Ls_run (run_move rfl) rfl ?_
      refine Ls_run (run_move rfl) rfl ?_
      refine Ls_run (run_as (run_slice_l Try.underlying31 inf5 rfl rfl (by omega) (by omega)) (show _ = Value.slice A3 (n1 - an) (c1 - an) by rw [hA3]; rfl)) rfl ?_
      refine Ls_run (run_assign rfl) rfl ?_
      refine Ls_nil ?_
      refine Jm_seq ?_
      refine St_seq ?_
      refine St_region ?_
      refine Ls_run (run_move rfl) rfl ?_
      refine Ls_call Try.func92 nm92 rfl rfl (rTakeNums_c w19 A3 (n1 - an) (c1 - an) b3 4 (hr3.inB hs) hbb3 (by omega) (by decide)) rfl ?_
      rintro v22 w23 ⟨AT2, cT2, rfl, hsT⟩
      obtain ⟨⟨l2, a2, e2⟩, htn2⟩ : ∃ q, tnum b3 4 = q := ⟨_, rfl⟩
      simp only [htn2] at hsT ⊢
      replace hs := hs.trans hsT
      simp only [List.cons_append, List.nil_append] at hs
      refine Ls_run (run_move rfl) rfl ?_
      refine Ls_run (run_extract rfl rfl) rfl ?_
      refine Ls_run (run_extract rfl rfl) rfl ?_
      refine Ls_run (run_extract rfl rfl) rfl ?_
      refine Ls_run (run_assign rfl) rfl ?_
      refine Ls_run (run_assign rfl) rfl ?_
      refine Ls_run (run_assign rfl) rfl ?_
      refine Ls_nil ?_
      refine Jm_seq ?_
      refine St_seq ?_
      refine St_seq ?_
      refine St_region ?_
      refine Ls_run (run_move rfl) rfl ?_
      refine Ls_run (run_neq rfl rfl) rfl ?_
      refine Ls_run (run_move rfl) rfl ?_
      refine Ls_partP (t := 60) rfl (fun h24 => ?_) (fun h24 => ?_)
      · skip
        refine Ls_off rfl rfl rfl rfl ?_
        refine Ls_off rfl rfl rfl rfl ?_
        refine Ls_off rfl rfl rfl rfl ?_
        refine Ls_off rfl rfl rfl rfl ?_
        refine Ls_run (run_pick_t rfl rfl) rfl ?_
        refine Ls_nil ?_
        refine Jm_seq ?_
        refine St_ift rfl ?_
        refine St_seq ?_
        refine St_region ?_
        refine Ls_run (run_buildO (pv := []) rfl (bld66 )) rfl ?_
        refine Ls_run (run_assign rfl) rfl ?_
        replace hs := hs.front 3 rfl
        simp only [List.cons_append, List.nil_append, List.eraseIdx_cons_zero, List.eraseIdx_cons_succ] at hs
        refine Ls_storeAgg hs inf66 rfl rfl rfl rfl (by simp [Value.oneCell', Value.cells, jcells]) ?_
        intro w26 hs
        refine Ls_nil ?_
        refine Jm_seq ?_
        refine St_ret ?_
        refine Jm_then_ret  ?_
        refine Jm_retTC rfl agg66 inf66 rfl rfl rfl (hs.blk_cells 0 rfl 0 4) ?_
        first
        | exact ⟨_, rfl, ⟨0, [], [], 0⟩, 0, none, 0, none, 0, rfl, (hs.forget.own_nil 3 1).own_nil 3 1, Int.le_refl _, .inr ⟨rfl, by rw [hre, rdK_none (by omega) (tk1_none htk (by omega))]⟩⟩
        | exact ⟨_, rfl, ⟨0, [], [], 0⟩, 0, none, 0, none, 0, rfl, (hs.forget.own_nil 3 1).own_nil 3 1, Int.le_refl _, .inr ⟨rfl, by rw [hre, rdN_none (by decide) (tn1_none htn1 (by assumption))]⟩⟩
        | exact ⟨_, rfl, ⟨0, [], [], 0⟩, 0, none, 0, none, 0, rfl, (hs.forget.own_nil 3 1).own_nil 3 1, Int.le_refl _, .inr ⟨rfl, by rw [hre, rdN_none (by decide) (tn1_none htn2 (by assumption))]⟩⟩
        | (have he0 : e2 = 0 := by omega
           subst he0
           have hrg2 := tnum_at hbb3 htn2
           have hl3 := rdB_len hr3
           exact ⟨_, rfl, ⟨0, [], [], 0⟩, 0, none, 0, none, 0, rfl, (hs.forget.own_nil 3 1).own_nil 3 1, Int.le_refl _, .inr ⟨rfl, by rw [hre, rdN_1 (tn1_some htn2)]; unfold rdF; rw [if_pos (.inl (by rw [List.length_drop]; omega))]⟩⟩)
        | exact ⟨_, rfl, ⟨0, [], [], 0⟩, 0, none, 0, none, 0, rfl, (hs.forget.own_nil 3 1).own_nil 3 1, Int.le_refl _, .inr ⟨rfl, by rw [hre]; unfold rdF; rw [if_pos (.inr (.inr (by assumption)))]⟩⟩
      · skip
        refine Ls_on rfl rfl ?_
        refine Ls_run (run_move rfl) rfl ?_
        refine Ls_on rfl rfl ?_
        refine Ls_run (run_move rfl) rfl ?_
        refine Ls_on rfl rfl ?_
        refine Ls_run (run_len Try.underlying31 rfl) rfl ?_
        refine Ls_on rfl rfl ?_
        refine Ls_run (run_neq rfl rfl) rfl ?_
        refine Ls_run (run_pick_f rfl rfl) rfl ?_
        refine Ls_nil ?_
        refine Jm_seq ?_
        refine St_ifP rfl (fun h27 => ?_) (fun h27 => ?_)
        · skip
          refine St_seq ?_
          refine St_region ?_
          refine Ls_run (run_buildO (pv := []) rfl (bld66 )) rfl ?_
          refine Ls_run (run_assign rfl) rfl ?_
          replace hs := hs.front 3 rfl
          simp only [List.cons_append, List.nil_append, List.eraseIdx_cons_zero, List.eraseIdx_cons_succ] at hs
          refine Ls_storeAgg hs inf66 rfl rfl rfl rfl (by simp [Value.oneCell', Value.cells, jcells]) ?_
          intro w28 hs
          refine Ls_nil ?_
          refine Jm_seq ?_
          refine St_ret ?_
          refine Jm_then_ret  ?_
          refine Jm_retTC rfl agg66 inf66 rfl rfl rfl (hs.blk_cells 0 rfl 0 4) ?_
          first
          | exact ⟨_, rfl, ⟨0, [], [], 0⟩, 0, none, 0, none, 0, rfl, (hs.forget.own_nil 3 1).own_nil 3 1, Int.le_refl _, .inr ⟨rfl, by rw [hre, rdK_none (by omega) (tk1_none htk (by omega))]⟩⟩
          | exact ⟨_, rfl, ⟨0, [], [], 0⟩, 0, none, 0, none, 0, rfl, (hs.forget.own_nil 3 1).own_nil 3 1, Int.le_refl _, .inr ⟨rfl, by rw [hre, rdN_none (by decide) (tn1_none htn1 (by assumption))]⟩⟩
          | exact ⟨_, rfl, ⟨0, [], [], 0⟩, 0, none, 0, none, 0, rfl, (hs.forget.own_nil 3 1).own_nil 3 1, Int.le_refl _, .inr ⟨rfl, by rw [hre, rdN_none (by decide) (tn1_none htn2 (by assumption))]⟩⟩
          | (have he0 : e2 = 0 := by omega
             subst he0
             have hrg2 := tnum_at hbb3 htn2
             have hl3 := rdB_len hr3
             exact ⟨_, rfl, ⟨0, [], [], 0⟩, 0, none, 0, none, 0, rfl, (hs.forget.own_nil 3 1).own_nil 3 1, Int.le_refl _, .inr ⟨rfl, by rw [hre, rdN_1 (tn1_some htn2)]; unfold rdF; rw [if_pos (.inl (by rw [List.length_drop]; omega))]⟩⟩)
          | exact ⟨_, rfl, ⟨0, [], [], 0⟩, 0, none, 0, none, 0, rfl, (hs.forget.own_nil 3 1).own_nil 3 1, Int.le_refl _, .inr ⟨rfl, by rw [hre]; unfold rdF; rw [if_pos (.inr (.inr (by assumption)))]⟩⟩
        · skip
          refine St_skip ?_
          refine Jm_seq ?_
          refine St_seq ?_
          refine St_region ?_
          have he0 : e2 = 0 := by omega
          subst he0
          have hrg2 := tnum_at hbb3 htn2
          have hl3 := rdB_len hr3
          have hre9 := hre
          rw [rdN_1 (tn1_some htn2)] at hre
          have hdl : (b3.drop a2.toNat).length = 0 := by rw [List.length_drop]; omega
          refine Ls_run (run_index_arr Try.underlying126 inf3 rfl rfl (by decide) (by decide)) rfl ?_
          refine Ls_run (run_load sc3 rfl (hs.blk_at 2 rfl 1 rfl)) rfl ?_
          refine Ls_run (run_move rfl) rfl ?_
          refine Ls_run (run_move rfl) rfl ?_
          refine Ls_run (run_buildO (pv := [(0, _), (1, _), (2, _)]) rfl (bld64_0_1_2 _ _ _ _ _ _ _)) rfl ?_
          refine Ls_run (run_index_arr Try.underlying126 inf3 rfl rfl (by decide) (by decide)) rfl ?_
          refine Ls_run (run_load sc3 rfl (hs.blk_at 2 rfl 2 rfl)) rfl ?_
          refine Ls_run (run_buildO (pv := [(0, _), (1, _)]) rfl (bld66_0_1 _ _ _ _ _ _ _ _)) rfl ?_
          refine Ls_alloc hs inf66 rfl ?_
          intro b30 w29 hs
          refine Ls_storeAgg hs inf66 rfl rfl rfl rfl (by simp [Value.oneCell', Value.cells, jcells]) ?_
          intro w31 hs
          refine Ls_nil ?_
          refine Jm_seq ?_
          refine St_seq ?_
          refine St_seq ?_
          refine St_region ?_
          refine Ls_run (run_load_agg agg66 inf66 rfl rfl (hs.blk_cells 0 rfl 0 4)) rfl ?_
          refine Ls_run (run_move rfl) rfl ?_
          refine Ls_call Try.func72 nm72 rfl rfl (rRight_c w31 ⟨x1, l1, l2, x2⟩ _ _ _ _ (hs.rd_at 2 rfl) (hs.rd_at 1 rfl) (show l1.length ≤ _ ∧ l2.length ≤ _ by omega) parts) rfl ?_
          rintro v32 w33 ⟨rfl, hsI⟩
          replace hs := hs.trans hsI
          simp only [List.cons_append, List.nil_append] at hs
          refine Ls_run (run_not rfl) rfl ?_
          refine Ls_nil ?_
          refine Jm_seq ?_
          refine St_ifN rfl (fun h34 => ?_) (fun h34 => ?_)
          · skip
            refine St_seq ?_
            refine St_region ?_
            refine Ls_run (run_buildO (pv := []) rfl (bld66 )) rfl ?_
            refine Ls_run (run_assign rfl) rfl ?_
            replace hs := hs.front 4 rfl
            simp only [List.cons_append, List.nil_append, List.eraseIdx_cons_zero, List.eraseIdx_cons_succ] at hs
            refine Ls_storeAgg hs inf66 rfl rfl rfl rfl (by simp [Value.oneCell', Value.cells, jcells]) ?_
            intro w35 hs
            refine Ls_nil ?_
            refine Jm_seq ?_
            refine St_ret ?_
            refine Jm_then_ret  ?_
            refine Jm_retTC rfl agg66 inf66 rfl rfl rfl (hs.blk_cells 0 rfl 0 4) ?_
            first
            | exact ⟨_, rfl, ⟨0, [], [], 0⟩, 0, none, 0, none, 0, rfl, (hs.forget.own_nil 3 1).own_nil 3 1, Int.le_refl _, .inr ⟨rfl, by rw [hre, rdK_none (by omega) (tk1_none htk (by omega))]⟩⟩
            | exact ⟨_, rfl, ⟨0, [], [], 0⟩, 0, none, 0, none, 0, rfl, (hs.forget.own_nil 3 1).own_nil 3 1, Int.le_refl _, .inr ⟨rfl, by rw [hre, rdN_none (by decide) (tn1_none htn1 (by assumption))]⟩⟩
            | exact ⟨_, rfl, ⟨0, [], [], 0⟩, 0, none, 0, none, 0, rfl, (hs.forget.own_nil 3 1).own_nil 3 1, Int.le_refl _, .inr ⟨rfl, by rw [hre, rdN_none (by decide) (tn1_none htn2 (by assumption))]⟩⟩
            | (have he0 : e2 = 0 := by omega
               subst he0
               have hrg2 := tnum_at hbb3 htn2
               have hl3 := rdB_len hr3
               exact ⟨_, rfl, ⟨0, [], [], 0⟩, 0, none, 0, none, 0, rfl, (hs.forget.own_nil 3 1).own_nil 3 1, Int.le_refl _, .inr ⟨rfl, by rw [hre, rdN_1 (tn1_some htn2)]; unfold rdF; rw [if_pos (.inl (by rw [List.length_drop]; omega))]⟩⟩)
            | exact ⟨_, rfl, ⟨0, [], [], 0⟩, 0, none, 0, none, 0, rfl, (hs.forget.own_nil 3 1).own_nil 3 1, Int.le_refl _, .inr ⟨rfl, by rw [hre]; unfold rdF; rw [if_pos (.inr (.inr (by assumption)))]⟩⟩
          · skip
            refine St_skip ?_
            refine Jm_seq ?_
            refine St_seq ?_
            refine St_drawC 4 (fun x => Below w33.heap.size w33 x) mixed ?_
            intro w36 q37
            have hH := q37.below
            replace hs := hs.quiet q37
            refine AnC_grow hH ?_
            replace hH := Below.refl w36.heap.size w36
            refine AnC_take 0 [4, 0] rfl (by kernel_rfl) (by kernel_rfl) (by kernel_rfl) (by kernel_rfl) (fun _ _ _ h => h) hH (fun x hx => run_index_arr Try.underlying126 inf3 rfl rfl (by decide) (by decide)) rfl ?_
            refine AnC_take 1 [4, 1] rfl (by kernel_rfl) (by kernel_rfl) (by kernel_rfl) (by kernel_rfl) (fun _ _ _ h => h) hH (fun x hx => run_load sc3 rfl ((hs.grow hx).blk_at 3 rfl 0 rfl)) rfl ?_
            refine AnC_take 2 [4, 2] rfl (by kernel_rfl) (by kernel_rfl) (by kernel_rfl) (by kernel_rfl) (fun _ _ _ h => h) hH (fun x hx => run_load_agg agg66 inf66 rfl rfl ((hs.grow hx).blk_cells 0 rfl 0 4)) rfl ?_
            refine AnC_takeP 3 (by kernel_rfl) rfl (by kernel_rfl) (by kernel_rfl) (by kernel_rfl) (fun _ _ _ h => h) (fun _ => hH) (fun x => run_assign rfl) rfl ?_
            refine AnC_only 4 (by kernel_rfl) rfl ?_
            replace hs := hs.front 4 rfl
            simp only [List.cons_append, List.nil_append, List.eraseIdx_cons_zero, List.eraseIdx_cons_succ] at hs
            refine Ls_storeAgg hs inf66 rfl rfl rfl rfl (by simp [Value.oneCell', Value.cells, jcells]) ?_
            intro w38 hs
            refine Ls_nil (Jm_AnC_closed (by kernel_rfl) ?_)
            refine AnC_switch (H' := fun x => Below w38.heap.size w38 x) 5 (by kernel_rfl) ?_
            replace hH := Below.refl w38.heap.size w38
            refine AnC_done (by kernel_rfl) ?_
            refine Jm_seq ?_
            refine St_ret ?_
            refine Jm_retTC rfl agg66 inf66 rfl rfl rfl (hs.blk_cells 0 rfl 0 4) ?_
            replace hs := hs.erase 0
            simp only [List.cons_append, List.nil_append, List.eraseIdx_cons_zero, List.eraseIdx_cons_succ] at hs
            replace hs := hs.erase 0
            simp only [List.cons_append, List.nil_append, List.eraseIdx_cons_zero, List.eraseIdx_cons_succ] at hs
            replace hs := hs.erase 2
            simp only [List.cons_append, List.nil_append, List.eraseIdx_cons_zero, List.eraseIdx_cons_succ] at hs
            replace hs := hs.front 1 rfl
            simp only [List.cons_append, List.nil_append, List.eraseIdx_cons_zero, List.eraseIdx_cons_succ] at hs
            refine ⟨_, rfl, ⟨x1, l1, l2, x2⟩, x0, AT1, cT1, AT2, cT2, rfl, hs, by omega, ?_⟩
            by_cases hx0 : x0 = 0
            · exact .inr ⟨hx0, by rw [hre]; unfold rdF; rw [if_pos (.inr (.inl hx0))]⟩
            · exact .inl ⟨hx0, by rw [hre]; unfold rdF; rw [if_neg (fun q => by rcases q with q | q | q; (· omega); (· exact hx0 q); (· exact absurd (by assumption) q))]⟩
set_option maxRecDepth 100000 in
set_option maxHeartbeats 1000000 in
theorem rOpen_bad (w : World) (b : Nat) (parts : Int) (h : parts < 1 ∨ 4 < parts) :
    Calls Try.prog 43 [.pointer (some ⟨b, 0, none⟩), .int .i64 parts].toArray w (Ret (fun v' w' => w = w' ∧ v' = .tuple #[.pointer none, .int .i64 1])) := by
  refine Calls_body Try.func43 rfl rfl rfl (envE_cons (i := 0) (v := .pointer (some ⟨b, 0, none⟩)) rfl (envE_cons (i := 1) (v := .int .i64 parts) rfl envE_nil)) ?_
  refine St_seq ?_
  refine St_region ?_
  refine Ls_run (run_assign rfl) rfl ?_
  refine Ls_run (run_assign rfl) rfl ?_
  refine Ls_nil ?_
  refine Jm_seq ?_
  refine St_seq ?_
  refine St_seq ?_
  refine St_region ?_
  refine Ls_run (run_move rfl) rfl ?_
  refine Ls_run (run_asB (c := false) (run_eql_ptr_nil Try.underlying47 rfl rfl) rfl) rfl ?_
  refine Ls_nil ?_
  refine Jm_seq ?_
  refine St_iff rfl ?_
  refine St_skip ?_
  refine Jm_seq ?_
  refine St_seq ?_
  refine St_seq ?_
  refine St_region ?_
  refine Ls_run (run_move rfl) rfl ?_
  refine Ls_run (run_lss rfl rfl) rfl ?_
  refine Ls_run (run_move rfl) rfl ?_
  refine Ls_partP (t := 17) rfl (fun h2 => ?_) (fun h2 => ?_)
  · skip
    refine Ls_off rfl rfl rfl rfl ?_
    refine Ls_off rfl rfl rfl rfl ?_
    refine Ls_run (run_pick_t rfl rfl) rfl ?_
    refine Ls_nil ?_
    refine Jm_seq ?_
    refine St_ift rfl ?_
    refine St_seq ?_
    refine St_region ?_
    refine Ls_run (run_assign rfl) rfl ?_
    refine Ls_run (run_assign rfl) rfl ?_
    refine Ls_nil ?_
    refine Jm_seq ?_
    refine St_ret ?_
    refine Jm_then_ret  ?_
    refine Jm_ret2 rfl rfl rfl ?_
    exact ⟨_, rfl, rfl, rfl⟩
  · skip
    refine Ls_on rfl rfl ?_
    refine Ls_run (run_move rfl) rfl ?_
    refine Ls_on rfl rfl ?_
    refine Ls_run (run_gtr rfl rfl) rfl ?_
    refine Ls_run (run_pick_f rfl rfl) rfl ?_
    refine Ls_nil ?_
    refine Jm_seq ?_
    refine St_ifP rfl (fun h4 => ?_) (fun h4 => ?_)
    · skip
      refine St_seq ?_
      refine St_region ?_
      refine Ls_run (run_assign rfl) rfl ?_
      refine Ls_run (run_assign rfl) rfl ?_
      refine Ls_nil ?_
      refine Jm_seq ?_
      refine St_ret ?_
      refine Jm_then_ret  ?_
      refine Jm_ret2 rfl rfl rfl ?_
      exact ⟨_, rfl, rfl, rfl⟩
    · skip
      exfalso; omega
set_option maxRecDepth 100000 in
set_option maxHeartbeats 1000000 in
theorem rOpen_nil (w : World) (parts : Int) :
    Calls Try.prog 43 [.pointer none, .int .i64 parts].toArray w (Ret (fun v' w' => w = w' ∧ v' = .tuple #[.pointer none, .int .i64 2])) := by
  refine Calls_body Try.func43 rfl rfl rfl (envE_cons (i := 0) (v := .pointer none) rfl (envE_cons (i := 1) (v := .int .i64 parts) rfl envE_nil)) ?_
  refine St_seq ?_
  refine St_region ?_
  refine Ls_run (run_assign rfl) rfl ?_
  refine Ls_run (run_assign rfl) rfl ?_
  refine Ls_nil ?_
  refine Jm_seq ?_
  refine St_seq ?_
  refine St_seq ?_
  refine St_region ?_
  refine Ls_run (run_move rfl) rfl ?_
  refine Ls_run (run_asB (c := true) (run_eql_ptr_nil Try.underlying47 rfl rfl) rfl) rfl ?_
  refine Ls_nil ?_
  refine Jm_seq ?_
  refine St_ift rfl ?_
  refine St_seq ?_
  refine St_region ?_
  refine Ls_run (run_assign rfl) rfl ?_
  refine Ls_run (run_assign rfl) rfl ?_
  refine Ls_nil ?_
  refine Jm_seq ?_
  refine St_ret ?_
  refine Jm_then_ret  ?_
  refine Jm_ret2 rfl rfl rfl ?_
  exact ⟨_, rfl, rfl, rfl⟩
set_option maxRecDepth 100000 in
set_option maxHeartbeats 1000000 in
theorem rOpen_g (B w : World) (L : List Assn) (b : Nat) (r : RSt) (hs : Sat B w (RefA 92 31 5 b r :: L)) (hok : ∀ x ∈ r.bl, IsBytes x ∧ x.length ≤ 1024) (hdl : 1 ≤ r.bl.length) (m : Nat) (hm1 : 1 ≤ m) (hm4 : m ≤ 4) :
    Calls Try.prog 43 [.pointer (some ⟨b, 0, none⟩), .int .i64 (m : Int)].toArray w (Ret (fun v' w' => ∃ q, v' = .tuple #[.pointer q, .int .i64 (rjopen r m).1] ∧ Sat B w' (JO 107 3 q (some ⟨b, 0, none⟩) (rjopen r m).2.1 :: RefA 92 31 5 b (rjopen r m).2.2 :: L))) := by
  refine Calls_body Try.func43 rfl rfl rfl (envE_cons (i := 0) (v := .pointer (some ⟨b, 0, none⟩)) rfl (envE_cons (i := 1) (v := .int .i64 (m : Int)) rfl envE_nil)) ?_
  refine St_seq ?_
  refine St_region ?_
  refine Ls_run (run_assign rfl) rfl ?_
  refine Ls_run (run_assign rfl) rfl ?_
  refine Ls_nil ?_
  refine Jm_seq ?_
  refine St_seq ?_
  refine St_seq ?_
  refine St_region ?_
  refine Ls_run (run_move rfl) rfl ?_
  refine Ls_run (run_asB (c := false) (run_eql_ptr_nil Try.underlying47 rfl rfl) rfl) rfl ?_
  refine Ls_nil ?_
  refine Jm_seq ?_
  refine St_iff rfl ?_
  refine St_skip ?_
  refine Jm_seq ?_
  refine St_seq ?_
  refine St_seq ?_
  refine St_region ?_
  refine Ls_run (run_move rfl) rfl ?_
  refine Ls_run (run_lss rfl rfl) rfl ?_
  refine Ls_run (run_move rfl) rfl ?_
  refine Ls_partP (t := 17) rfl (fun h2 => ?_) (fun h2 => ?_)
  · skip
    exfalso; omega
  · skip
    refine Ls_on rfl rfl ?_
    refine Ls_run (run_move rfl) rfl ?_
    refine Ls_on rfl rfl ?_
    refine Ls_run (run_gtr rfl rfl) rfl ?_
    refine Ls_run (run_pick_f rfl rfl) rfl ?_
    refine Ls_nil ?_
    refine Jm_seq ?_
    refine St_ifP rfl (fun h3 => ?_) (fun h3 => ?_)
    · skip
      exfalso; omega
    · skip
      refine St_skip ?_
      refine Jm_seq ?_
      refine St_seq ?_
      refine St_seq ?_
      refine St_region ?_
      refine Ls_run (run_move rfl) rfl ?_
      obtain ⟨A0, c0, hd0⟩ := hs.rhd
      refine Ls_call Try.func61 nm61 rfl rfl (rDown_c w b r A0 c0 hd0) rfl ?_
      rintro v4 w5 ⟨rfl, rfl⟩
      refine Ls_nil ?_
      refine Jm_seq ?_
      refine St_if rfl (fun h6 => ?_) (fun h6 => ?_)
      · skip
        refine St_seq ?_
        refine St_region ?_
        refine Ls_run (run_assign rfl) rfl ?_
        refine Ls_run (run_assign rfl) rfl ?_
        refine Ls_nil ?_
        refine Jm_seq ?_
        refine St_ret ?_
        refine Jm_then_ret  ?_
        refine Jm_ret2 rfl rfl rfl ?_
        have e : rjopen r m = (80, none, r) := by unfold rjopen; rw [if_neg (by omega), if_neg (by omega), if_pos (by assumption)]
        rw [e]
        exact ⟨_, rfl, none, rfl, hs.toJoNone⟩
      · skip
        have hdn : r.down = false := h6
        replace hs : Sat B _ (RefA 92 31 5 b (rread_k r 0) :: L) := hs
        refine St_skip ?_
        refine Jm_seq ?_
        refine St_seq ?_
        refine St_region ?_
        refine Ls_run (run_move rfl) rfl ?_
        have hsm0 := rread_k_same r 0
        have hrd0 : rread (rread_k r 0) ((0 : Nat) : Int) = (r.bl.getD 0 [], 0, rread_k r (0 + 1)) := by
          have hc0 : rcheck (rread_k r 0) ((0 : Nat) : Int) = 0 := by unfold rcheck; rw [hsm0.2.1, hsm0.1, if_neg (by simp [hdn]), if_neg (by omega)]
          show rread _ _ = (_, _, (rread (rread_k r 0) ((0 : Nat) : Int)).2.2)
          unfold rread; rw [if_pos hc0, hsm0.1]; rfl
        refine Ls_call Try.func60 nm60 rfl rfl (rRead_c B w _ b (rread_k r 0) hs (fun x hx => (hok x (by rw [← hsm0.1]; exact hx)).2) ((0 : Nat) : Int)) rfl ?_
        rintro v7 w9 ⟨Ar0, cr0, rfl, hs⟩
        rw [hrd0] at hs ⊢
        simp only at hs ⊢
        have hbk0 := hok _ (getD_mem_bl (i := 0) (ls := r.bl) (by omega))
        refine Ls_run (run_move rfl) rfl ?_
        refine Ls_run (run_extract rfl rfl) rfl ?_
        refine Ls_run (run_extract rfl rfl) rfl ?_
        refine Ls_run (run_assign rfl) rfl ?_
        refine Ls_run (run_assign rfl) rfl ?_
        refine Ls_nil ?_
        refine Jm_seq ?_
        refine St_seq ?_
        refine St_region ?_
        refine Ls_literal [] hs Try.underlying31 inf5 rfl rfl rfl rfl rfl rfl ?_
        intro b10 w11 hs
        simp only [List.flatMap_cons, List.flatMap_nil, Value.cells, List.cons_append, List.nil_append] at hs
        replace hs := Sat.own_block hs 1 0 rfl (by decide)
        refine Ls_run (run_assign rfl) rfl ?_
        refine Ls_nil ?_
        refine Jm_seq ?_
        refine St_seq ?_
        refine St_seq ?_
        refine St_region ?_
        refine Ls_run (run_move rfl) rfl ?_
        replace hs := hs.front 1 rfl
        simp only [List.cons_append, List.nil_append, List.eraseIdx_cons_zero, List.eraseIdx_cons_succ] at hs
        obtain ⟨A0, c0, hd0⟩ := hs.rhd
        refine Ls_call Try.func62 nm62 rfl rfl (rBlocks_c w11 b (rread_k r 1) A0 c0 hd0) rfl ?_
        rintro v12 w13 ⟨rfl, rfl⟩
        rw [(rread_k_same r 1).1]
        refine Ls_run (run_gtr rfl rfl) rfl ?_
        refine Ls_nil ?_
        refine Jm_seq ?_
        refine St_ifP rfl (fun h14 => ?_) (fun h14 => ?_)
        · skip
          refine St_region ?_
          refine Ls_run (run_move rfl) rfl ?_
          have hsm1 := rread_k_same r 1
          have hrd1 : rread (rread_k r 1) ((1 : Nat) : Int) = (r.bl.getD 1 [], 0, rread_k r (1 + 1)) := by
            have hc0 : rcheck (rread_k r 1) ((1 : Nat) : Int) = 0 := by unfold rcheck; rw [hsm1.2.1, hsm1.1, if_neg (by simp [hdn]), if_neg (by omega)]
            show rread _ _ = (_, _, (rread (rread_k r 1) ((1 : Nat) : Int)).2.2)
            unfold rread; rw [if_pos hc0, hsm1.1]; rfl
          refine Ls_call Try.func60 nm60 rfl rfl (rRead_c B w11 _ b (rread_k r 1) hs (fun x hx => (hok x (by rw [← hsm1.1]; exact hx)).2) ((1 : Nat) : Int)) rfl ?_
          rintro v15 w16 ⟨Ar1, cr1, rfl, hs⟩
          rw [hrd1] at hs ⊢
          simp only at hs ⊢
          have hbk1 := hok _ (getD_mem_bl (i := 1) (ls := r.bl) (by omega))
          refine Ls_run (run_move rfl) rfl ?_
          refine Ls_run (run_extract rfl rfl) rfl ?_
          refine Ls_run (run_extract rfl rfl) rfl ?_
          refine Ls_run (run_assign rfl) rfl ?_
          refine Ls_nil ?_
          refine Jm_seq ?_
          refine St_seq ?_
          refine St_region ?_
          refine Ls_run (run_move rfl) rfl ?_
          refine Ls_run (run_move rfl) rfl ?_
          refine Ls_call Try.func75 nm75 rfl rfl (rread_c w16 _ _ _ (r.bl.getD 0 []) (hs.rd_at 3 rfl) hbk0.1 (by omega) (m : Int)) rfl ?_
          rintro v17 w18 ⟨q0, g0, Ap0, cp0, Ac0, cc0, rfl, hsE, hg0, hok0⟩
          replace hs := hs.trans hsE
          simp only [List.cons_append, List.nil_append] at hs
          refine Ls_run (run_move rfl) rfl ?_
          refine Ls_run (run_extract rfl rfl) rfl ?_
          refine Ls_run (run_extract rfl rfl) rfl ?_
          refine Ls_alloc hs inf66 rfl ?_
          intro b20 w19 hs
          refine Ls_run (run_assign rfl) rfl ?_
          refine Ls_storeAgg hs inf66 rfl rfl rfl rfl (by simp [Value.oneCell', Value.cells, jcells]) ?_
          intro w21 hs
          refine Ls_nil ?_
          refine Jm_seq ?_
          refine St_seq ?_
          refine St_region ?_
          refine Ls_run (run_move rfl) rfl ?_
          refine Ls_run (run_move rfl) rfl ?_
          refine Ls_call Try.func75 nm75 rfl rfl (rread_c w21 _ _ _ (r.bl.getD 1 []) (hs.rd_at 4 rfl) hbk1.1 (by omega) (m : Int)) rfl ?_
          rintro v22 w23 ⟨q1, g1, Ap1, cp1, Ac1, cc1, rfl, hsE, hg1, hok1⟩
          replace hs := hs.trans hsE
          simp only [List.cons_append, List.nil_append] at hs
          refine Ls_run (run_move rfl) rfl ?_
          refine Ls_run (run_extract rfl rfl) rfl ?_
          refine Ls_run (run_extract rfl rfl) rfl ?_
          refine Ls_alloc hs inf66 rfl ?_
          intro b25 w24 hs
          refine Ls_run (run_assign rfl) rfl ?_
          refine Ls_storeAgg hs inf66 rfl rfl rfl rfl (by simp [Value.oneCell', Value.cells, jcells]) ?_
          intro w26 hs
          refine Ls_nil ?_
          refine Jm_seq ?_
          refine St_seq ?_
          refine St_seq ?_
          refine St_region ?_
          refine Ls_run (run_move rfl) rfl ?_
          refine Ls_run (run_eql rfl rfl) rfl ?_
          refine Ls_run (run_move rfl) rfl ?_
          refine Ls_partP (t := 51) rfl (fun h27 => ?_) (fun h27 => ?_)
          · skip
            refine Ls_on rfl rfl ?_
            refine Ls_run (run_move rfl) rfl ?_
            refine Ls_on rfl rfl ?_
            refine Ls_run (run_eql rfl rfl) rfl ?_
            refine Ls_run (run_pick_t rfl rfl) rfl ?_
            refine Ls_nil ?_
            refine Jm_seq ?_
            refine St_ifP rfl (fun h28 => ?_) (fun h28 => ?_)
            · skip
              refine St_seq ?_
              refine St_region ?_
              refine Ls_run (run_assign rfl) rfl ?_
              refine Ls_run (run_assign rfl) rfl ?_
              refine Ls_nil ?_
              refine Jm_seq ?_
              refine St_ret ?_
              refine Jm_then_ret  ?_
              refine Jm_ret2 rfl rfl rfl ?_
              replace hs := hs.erase 0
              simp only [List.cons_append, List.nil_append, List.eraseIdx_cons_zero, List.eraseIdx_cons_succ] at hs
              replace hs := hs.erase 0
              simp only [List.cons_append, List.nil_append, List.eraseIdx_cons_zero, List.eraseIdx_cons_succ] at hs
              replace hs := hs.erase 0
              simp only [List.cons_append, List.nil_append, List.eraseIdx_cons_zero, List.eraseIdx_cons_succ] at hs
              replace hs := hs.erase 0
              simp only [List.cons_append, List.nil_append, List.eraseIdx_cons_zero, List.eraseIdx_cons_succ] at hs
              replace hs := hs.erase 0
              simp only [List.cons_append, List.nil_append, List.eraseIdx_cons_zero, List.eraseIdx_cons_succ] at hs
              replace hs := hs.erase 0
              simp only [List.cons_append, List.nil_append, List.eraseIdx_cons_zero, List.eraseIdx_cons_succ] at hs
              replace hs := hs.erase 1
              simp only [List.cons_append, List.nil_append, List.eraseIdx_cons_zero, List.eraseIdx_cons_succ] at hs
              replace hs := hs.erase 1
              simp only [List.cons_append, List.nil_append, List.eraseIdx_cons_zero, List.eraseIdx_cons_succ] at hs
              replace hs := hs.erase 1
              simp only [List.cons_append, List.nil_append, List.eraseIdx_cons_zero, List.eraseIdx_cons_succ] at hs
              have hmin : min 2 r.bl.length = 2 := by omega
              have z0 : rentry (r.bl.getD 0 []) (m : Int) = none := by rcases hok0 with h | h; (· exact absurd (by assumption) h.1); (· exact h.2)
              have z1 : rentry (r.bl.getD 1 []) (m : Int) = none := by rcases hok1 with h | h; (· exact absurd (by assumption) h.1); (· exact h.2)
              have hp : jpick r.bl (m : Int) 2 = none := by rw [jpick_no z1, jpick_no z0]; rfl
              have e : rjopen r m = (180, none, rread_k r 2) := by unfold rjopen; rw [if_neg (by omega), if_neg (by omega), if_neg (by simp [hdn]), hmin, hp]
              rw [e]
              exact ⟨_, rfl, none, rfl, hs.toJoNone⟩
            · skip
              refine St_skip ?_
              refine Jm_seq ?_
              refine St_seq ?_
              refine St_seq ?_
              refine St_region ?_
              refine Ls_run (run_move rfl) rfl ?_
              refine Ls_run (run_move rfl) rfl ?_
              refine Ls_run (run_gtr rfl rfl) rfl ?_
              refine Ls_nil ?_
              refine Jm_seq ?_
              refine St_ifP rfl (fun h29 => ?_) (fun h29 => ?_)
              · skip
                refine St_seq ?_
                refine St_region ?_
                refine Ls_run (run_move rfl) rfl ?_
                refine Ls_run (run_move rfl) rfl ?_
                refine Ls_run (run_load_agg agg66 inf66 rfl rfl (hs.blk_cells 0 rfl 0 4)) rfl ?_
                refine Ls_run (run_move rfl) rfl ?_
                refine Ls_run (run_buildO (pv := [(0, _), (1, _), (2, _), (3, _), (4, _)]) rfl (bld107_0_1_2_3_4 _ _ _ _ _ _ _ _ _ _ _ _)) rfl ?_
                refine Ls_box hs rfl rfl ?_
                intro b31 w30 hs
                refine Ls_run (run_assign rfl) rfl ?_
                refine Ls_run (run_assign rfl) rfl ?_
                refine Ls_nil ?_
                refine Jm_seq ?_
                refine St_ret ?_
                refine Jm_then_ret  ?_
                refine Jm_ret2 rfl rfl rfl ?_
                replace hs := hs.erase 1
                simp only [List.cons_append, List.nil_append, List.eraseIdx_cons_zero, List.eraseIdx_cons_succ] at hs
                replace hs := hs.erase 3
                simp only [List.cons_append, List.nil_append, List.eraseIdx_cons_zero, List.eraseIdx_cons_succ] at hs
                replace hs := hs.erase 3
                simp only [List.cons_append, List.nil_append, List.eraseIdx_cons_zero, List.eraseIdx_cons_succ] at hs
                replace hs := hs.erase 3
                simp only [List.cons_append, List.nil_append, List.eraseIdx_cons_zero, List.eraseIdx_cons_succ] at hs
                replace hs := hs.erase 4
                simp only [List.cons_append, List.nil_append, List.eraseIdx_cons_zero, List.eraseIdx_cons_succ] at hs
                replace hs := hs.erase 4
                simp only [List.cons_append, List.nil_append, List.eraseIdx_cons_zero, List.eraseIdx_cons_succ] at hs
                replace hs := hs.erase 4
                simp only [List.cons_append, List.nil_append, List.eraseIdx_cons_zero, List.eraseIdx_cons_succ] at hs
                replace hs := hs.front 3 rfl
                simp only [List.cons_append, List.nil_append, List.eraseIdx_cons_zero, List.eraseIdx_cons_succ] at hs
                replace hs := hs.front 3 rfl
                simp only [List.cons_append, List.nil_append, List.eraseIdx_cons_zero, List.eraseIdx_cons_succ] at hs
                replace hs := hs.front 3 rfl
                simp only [List.cons_append, List.nil_append, List.eraseIdx_cons_zero, List.eraseIdx_cons_succ] at hs
                replace hs := hs.front 3 rfl
                simp only [List.cons_append, List.nil_append, List.eraseIdx_cons_zero, List.eraseIdx_cons_succ] at hs
                have hmin : min 2 r.bl.length = 2 := by omega
                have z1 : rentry (r.bl.getD 1 []) (m : Int) = some (q1, g1) := by rcases hok1 with h | h; (· exact h.2); (· exfalso; omega)
                have hp : jpick r.bl (m : Int) 2 = some ⟨(m : Int), q1, g1, 1, false⟩ := by
                  rcases hok0 with h | h
                  · exact jpick_more z1 (jpick_first h.2 rfl) (show g0 < g1 by omega)
                  · exact jpick_first z1 (by rw [jpick_no h.2]; rfl)
                have e : rjopen r m = (0, some ⟨(m : Int), q1, g1, 1, false⟩, rread_k r 2) := by unfold rjopen; rw [if_neg (by omega), if_neg (by omega), if_neg (by simp [hdn]), hmin, hp]
                rw [e]
                exact ⟨_, rfl, _, rfl, Sat.toJoSome (Sat.jshut (j := ⟨(m : Int), q1, g1, 1, false⟩) hs)⟩
              · skip
                refine St_skip ?_
                refine Jm_seq ?_
                refine St_seq ?_
                refine St_region ?_
                refine Ls_run (run_move rfl) rfl ?_
                refine Ls_run (run_move rfl) rfl ?_
                refine Ls_run (run_load_agg agg66 inf66 rfl rfl (hs.blk_cells 3 rfl 0 4)) rfl ?_
                refine Ls_run (run_move rfl) rfl ?_
                refine Ls_run (run_buildO (pv := [(0, _), (1, _), (2, _), (3, _)]) rfl (bld107_0_1_2_3 _ _ _ _ _ _ _ _ _ _ _)) rfl ?_
                refine Ls_box hs rfl rfl ?_
                intro b33 w32 hs
                refine Ls_run (run_assign rfl) rfl ?_
                refine Ls_run (run_assign rfl) rfl ?_
                refine Ls_nil ?_
                refine Jm_seq ?_
                refine St_ret ?_
                refine Jm_ret2 rfl rfl rfl ?_
                replace hs := hs.erase 1
                simp only [List.cons_append, List.nil_append, List.eraseIdx_cons_zero, List.eraseIdx_cons_succ] at hs
                replace hs := hs.erase 1
                simp only [List.cons_append, List.nil_append, List.eraseIdx_cons_zero, List.eraseIdx_cons_succ] at hs
                replace hs := hs.erase 1
                simp only [List.cons_append, List.nil_append, List.eraseIdx_cons_zero, List.eraseIdx_cons_succ] at hs
                replace hs := hs.erase 1
                simp only [List.cons_append, List.nil_append, List.eraseIdx_cons_zero, List.eraseIdx_cons_succ] at hs
                replace hs := hs.erase 4
                simp only [List.cons_append, List.nil_append, List.eraseIdx_cons_zero, List.eraseIdx_cons_succ] at hs
                replace hs := hs.erase 4
                simp only [List.cons_append, List.nil_append, List.eraseIdx_cons_zero, List.eraseIdx_cons_succ] at hs
                replace hs := hs.erase 4
                simp only [List.cons_append, List.nil_append, List.eraseIdx_cons_zero, List.eraseIdx_cons_succ] at hs
                replace hs := hs.front 3 rfl
                simp only [List.cons_append, List.nil_append, List.eraseIdx_cons_zero, List.eraseIdx_cons_succ] at hs
                replace hs := hs.front 3 rfl
                simp only [List.cons_append, List.nil_append, List.eraseIdx_cons_zero, List.eraseIdx_cons_succ] at hs
                replace hs := hs.front 3 rfl
                simp only [List.cons_append, List.nil_append, List.eraseIdx_cons_zero, List.eraseIdx_cons_succ] at hs
                replace hs := hs.front 3 rfl
                simp only [List.cons_append, List.nil_append, List.eraseIdx_cons_zero, List.eraseIdx_cons_succ] at hs
                have hmin : min 2 r.bl.length = 2 := by omega
                have z0 : rentry (r.bl.getD 0 []) (m : Int) = some (q0, g0) := by rcases hok0 with h | h; (· exact h.2); (· exfalso; have := h.1; omega)
                have p1 : jpick r.bl (m : Int) 1 = some ⟨(m : Int), q0, g0, 0, false⟩ := jpick_first z0 rfl
                have hp : jpick r.bl (m : Int) 2 = some ⟨(m : Int), q0, g0, 0, false⟩ := by
                  rcases hok1 with h | h
                  · exact jpick_less h.2 p1 (show ¬ g0 < g1 by omega)
                  · rw [jpick_no h.2]; exact p1
                have e : rjopen r m = (0, some ⟨(m : Int), q0, g0, 0, false⟩, rread_k r 2) := by unfold rjopen; rw [if_neg (by omega), if_neg (by omega), if_neg (by simp [hdn]), hmin, hp]
                rw [e]
                exact ⟨_, rfl, _, rfl, Sat.toJoSome (Sat.jshut (j := ⟨(m : Int), q0, g0, 0, false⟩) hs)⟩
          · skip
            refine Ls_off rfl rfl rfl rfl ?_
            refine Ls_off rfl rfl rfl rfl ?_
            refine Ls_run (run_pick_f rfl rfl) rfl ?_
            refine Ls_nil ?_
            refine Jm_seq ?_
            refine St_iff rfl ?_
            refine St_skip ?_
            refine Jm_seq ?_
            refine St_seq ?_
            refine St_seq ?_
            refine St_region ?_
            refine Ls_run (run_move rfl) rfl ?_
            refine Ls_run (run_move rfl) rfl ?_
            refine Ls_run (run_gtr rfl rfl) rfl ?_
            refine Ls_nil ?_
            refine Jm_seq ?_
            refine St_ifP rfl (fun h35 => ?_) (fun h35 => ?_)
            · skip
              refine St_seq ?_
              refine St_region ?_
              refine Ls_run (run_move rfl) rfl ?_
              refine Ls_run (run_move rfl) rfl ?_
              refine Ls_run (run_load_agg agg66 inf66 rfl rfl (hs.blk_cells 0 rfl 0 4)) rfl ?_
              refine Ls_run (run_move rfl) rfl ?_
              refine Ls_run (run_buildO (pv := [(0, _), (1, _), (2, _), (3, _), (4, _)]) rfl (bld107_0_1_2_3_4 _ _ _ _ _ _ _ _ _ _ _ _)) rfl ?_
              refine Ls_box hs rfl rfl ?_
              intro b37 w36 hs
              refine Ls_run (run_assign rfl) rfl ?_
              refine Ls_run (run_assign rfl) rfl ?_
              refine Ls_nil ?_
              refine Jm_seq ?_
              refine St_ret ?_
              refine Jm_then_ret  ?_
              refine Jm_ret2 rfl rfl rfl ?_
              replace hs := hs.erase 1
              simp only [List.cons_append, List.nil_append, List.eraseIdx_cons_zero, List.eraseIdx_cons_succ] at hs
              replace hs := hs.erase 3
              simp only [List.cons_append, List.nil_append, List.eraseIdx_cons_zero, List.eraseIdx_cons_succ] at hs
              replace hs := hs.erase 3
              simp only [List.cons_append, List.nil_append, List.eraseIdx_cons_zero, List.eraseIdx_cons_succ] at hs
              replace hs := hs.erase 3
              simp only [List.cons_append, List.nil_append, List.eraseIdx_cons_zero, List.eraseIdx_cons_succ] at hs
              replace hs := hs.erase 4
              simp only [List.cons_append, List.nil_append, List.eraseIdx_cons_zero, List.eraseIdx_cons_succ] at hs
              replace hs := hs.erase 4
              simp only [List.cons_append, List.nil_append, List.eraseIdx_cons_zero, List.eraseIdx_cons_succ] at hs
              replace hs := hs.erase 4
              simp only [List.cons_append, List.nil_append, List.eraseIdx_cons_zero, List.eraseIdx_cons_succ] at hs
              replace hs := hs.front 3 rfl
              simp only [List.cons_append, List.nil_append, List.eraseIdx_cons_zero, List.eraseIdx_cons_succ] at hs
              replace hs := hs.front 3 rfl
              simp only [List.cons_append, List.nil_append, List.eraseIdx_cons_zero, List.eraseIdx_cons_succ] at hs
              replace hs := hs.front 3 rfl
              simp only [List.cons_append, List.nil_append, List.eraseIdx_cons_zero, List.eraseIdx_cons_succ] at hs
              replace hs := hs.front 3 rfl
              simp only [List.cons_append, List.nil_append, List.eraseIdx_cons_zero, List.eraseIdx_cons_succ] at hs
              have hmin : min 2 r.bl.length = 2 := by omega
              have z1 : rentry (r.bl.getD 1 []) (m : Int) = some (q1, g1) := by rcases hok1 with h | h; (· exact h.2); (· exfalso; omega)
              have hp : jpick r.bl (m : Int) 2 = some ⟨(m : Int), q1, g1, 1, false⟩ := by
                rcases hok0 with h | h
                · exact jpick_more z1 (jpick_first h.2 rfl) (show g0 < g1 by omega)
                · exact jpick_first z1 (by rw [jpick_no h.2]; rfl)
              have e : rjopen r m = (0, some ⟨(m : Int), q1, g1, 1, false⟩, rread_k r 2) := by unfold rjopen; rw [if_neg (by omega), if_neg (by omega), if_neg (by simp [hdn]), hmin, hp]
              rw [e]
              exact ⟨_, rfl, _, rfl, Sat.toJoSome (Sat.jshut (j := ⟨(m : Int), q1, g1, 1, false⟩) hs)⟩
            · skip
              refine St_skip ?_
              refine Jm_seq ?_
              refine St_seq ?_
              refine St_region ?_
              refine Ls_run (run_move rfl) rfl ?_
              refine Ls_run (run_move rfl) rfl ?_
              refine Ls_run (run_load_agg agg66 inf66 rfl rfl (hs.blk_cells 3 rfl 0 4)) rfl ?_
              refine Ls_run (run_move rfl) rfl ?_
              refine Ls_run (run_buildO (pv := [(0, _), (1, _), (2, _), (3, _)]) rfl (bld107_0_1_2_3 _ _ _ _ _ _ _ _ _ _ _)) rfl ?_
              refine Ls_box hs rfl rfl ?_
              intro b39 w38 hs
              refine Ls_run (run_assign rfl) rfl ?_
              refine Ls_run (run_assign rfl) rfl ?_
              refine Ls_nil ?_
              refine Jm_seq ?_
              refine St_ret ?_
              refine Jm_ret2 rfl rfl rfl ?_
              replace hs := hs.erase 1
              simp only [List.cons_append, List.nil_append, List.eraseIdx_cons_zero, List.eraseIdx_cons_succ] at hs
              replace hs := hs.erase 1
              simp only [List.cons_append, List.nil_append, List.eraseIdx_cons_zero, List.eraseIdx_cons_succ] at hs
              replace hs := hs.erase 1
              simp only [List.cons_append, List.nil_append, List.eraseIdx_cons_zero, List.eraseIdx_cons_succ] at hs
              replace hs := hs.erase 1
              simp only [List.cons_append, List.nil_append, List.eraseIdx_cons_zero, List.eraseIdx_cons_succ] at hs
              replace hs := hs.erase 4
              simp only [List.cons_append, List.nil_append, List.eraseIdx_cons_zero, List.eraseIdx_cons_succ] at hs
              replace hs := hs.erase 4
              simp only [List.cons_append, List.nil_append, List.eraseIdx_cons_zero, List.eraseIdx_cons_succ] at hs
              replace hs := hs.erase 4
              simp only [List.cons_append, List.nil_append, List.eraseIdx_cons_zero, List.eraseIdx_cons_succ] at hs
              replace hs := hs.front 3 rfl
              simp only [List.cons_append, List.nil_append, List.eraseIdx_cons_zero, List.eraseIdx_cons_succ] at hs
              replace hs := hs.front 3 rfl
              simp only [List.cons_append, List.nil_append, List.eraseIdx_cons_zero, List.eraseIdx_cons_succ] at hs
              replace hs := hs.front 3 rfl
              simp only [List.cons_append, List.nil_append, List.eraseIdx_cons_zero, List.eraseIdx_cons_succ] at hs
              replace hs := hs.front 3 rfl
              simp only [List.cons_append, List.nil_append, List.eraseIdx_cons_zero, List.eraseIdx_cons_succ] at hs
              have hmin : min 2 r.bl.length = 2 := by omega
              have z0 : rentry (r.bl.getD 0 []) (m : Int) = some (q0, g0) := by rcases hok0 with h | h; (· exact h.2); (· exfalso; have := h.1; omega)
              have p1 : jpick r.bl (m : Int) 1 = some ⟨(m : Int), q0, g0, 0, false⟩ := jpick_first z0 rfl
              have hp : jpick r.bl (m : Int) 2 = some ⟨(m : Int), q0, g0, 0, false⟩ := by
                rcases hok1 with h | h
                · exact jpick_less h.2 p1 (show ¬ g0 < g1 by omega)
                · rw [jpick_no h.2]; exact p1
              have e : rjopen r m = (0, some ⟨(m : Int), q0, g0, 0, false⟩, rread_k r 2) := by unfold rjopen; rw [if_neg (by omega), if_neg (by omega), if_neg (by simp [hdn]), hmin, hp]
              rw [e]
              exact ⟨_, rfl, _, rfl, Sat.toJoSome (Sat.jshut (j := ⟨(m : Int), q0, g0, 0, false⟩) hs)⟩
        · skip
          refine St_skip ?_
          refine Jm_seq ?_
          refine St_seq ?_
          refine St_region ?_
          refine Ls_run (run_move rfl) rfl ?_
          refine Ls_run (run_move rfl) rfl ?_
          refine Ls_call Try.func75 nm75 rfl rfl (rread_c w11 _ _ _ (r.bl.getD 0 []) (hs.rd_at 2 rfl) hbk0.1 (by omega) (m : Int)) rfl ?_
          rintro v40 w41 ⟨q0, g0, Ap0, cp0, Ac0, cc0, rfl, hsE, hg0, hok0⟩
          replace hs := hs.trans hsE
          simp only [List.cons_append, List.nil_append] at hs
          refine Ls_run (run_move rfl) rfl ?_
          refine Ls_run (run_extract rfl rfl) rfl ?_
          refine Ls_run (run_extract rfl rfl) rfl ?_
          refine Ls_alloc hs inf66 rfl ?_
          intro b43 w42 hs
          refine Ls_run (run_assign rfl) rfl ?_
          refine Ls_storeAgg hs inf66 rfl rfl rfl rfl (by simp [Value.oneCell', Value.cells, jcells]) ?_
          intro w44 hs
          refine Ls_nil ?_
          refine Jm_seq ?_
          refine St_seq ?_
          refine St_region ?_
          refine Ls_run (run_move rfl) rfl ?_
          refine Ls_run (run_move rfl) rfl ?_
          refine Ls_call Try.func75 nm75 rfl rfl (rread_c w44 _ _ _ [] (hs.rd_at 4 rfl) (by simp [IsBytes]) (by omega) (m : Int)) rfl ?_
          rintro v45 w46 ⟨q1, g1, Ap1, cp1, Ac1, cc1, rfl, hsE, hg1, hok1⟩
          replace hs := hs.trans hsE
          simp only [List.cons_append, List.nil_append] at hs
          refine Ls_run (run_move rfl) rfl ?_
          refine Ls_run (run_extract rfl rfl) rfl ?_
          refine Ls_run (run_extract rfl rfl) rfl ?_
          refine Ls_alloc hs inf66 rfl ?_
          intro b48 w47 hs
          refine Ls_run (run_assign rfl) rfl ?_
          refine Ls_storeAgg hs inf66 rfl rfl rfl rfl (by simp [Value.oneCell', Value.cells, jcells]) ?_
          intro w49 hs
          refine Ls_nil ?_
          refine Jm_seq ?_
          refine St_seq ?_
          refine St_seq ?_
          refine St_region ?_
          refine Ls_run (run_move rfl) rfl ?_
          refine Ls_run (run_eql rfl rfl) rfl ?_
          refine Ls_run (run_move rfl) rfl ?_
          refine Ls_partP (t := 51) rfl (fun h50 => ?_) (fun h50 => ?_)
          · skip
            refine Ls_on rfl rfl ?_
            refine Ls_run (run_move rfl) rfl ?_
            refine Ls_on rfl rfl ?_
            refine Ls_run (run_eql rfl rfl) rfl ?_
            refine Ls_run (run_pick_t rfl rfl) rfl ?_
            refine Ls_nil ?_
            refine Jm_seq ?_
            refine St_ifP rfl (fun h51 => ?_) (fun h51 => ?_)
            · skip
              refine St_seq ?_
              refine St_region ?_
              refine Ls_run (run_assign rfl) rfl ?_
              refine Ls_run (run_assign rfl) rfl ?_
              refine Ls_nil ?_
              refine Jm_seq ?_
              refine St_ret ?_
              refine Jm_then_ret  ?_
              refine Jm_ret2 rfl rfl rfl ?_
              replace hs := hs.erase 0
              simp only [List.cons_append, List.nil_append, List.eraseIdx_cons_zero, List.eraseIdx_cons_succ] at hs
              replace hs := hs.erase 0
              simp only [List.cons_append, List.nil_append, List.eraseIdx_cons_zero, List.eraseIdx_cons_succ] at hs
              replace hs := hs.erase 0
              simp only [List.cons_append, List.nil_append, List.eraseIdx_cons_zero, List.eraseIdx_cons_succ] at hs
              replace hs := hs.erase 0
              simp only [List.cons_append, List.nil_append, List.eraseIdx_cons_zero, List.eraseIdx_cons_succ] at hs
              replace hs := hs.erase 0
              simp only [List.cons_append, List.nil_append, List.eraseIdx_cons_zero, List.eraseIdx_cons_succ] at hs
              replace hs := hs.erase 0
              simp only [List.cons_append, List.nil_append, List.eraseIdx_cons_zero, List.eraseIdx_cons_succ] at hs
              replace hs := hs.erase 1
              simp only [List.cons_append, List.nil_append, List.eraseIdx_cons_zero, List.eraseIdx_cons_succ] at hs
              replace hs := hs.erase 1
              simp only [List.cons_append, List.nil_append, List.eraseIdx_cons_zero, List.eraseIdx_cons_succ] at hs
              have hmin : min 2 r.bl.length = 1 := by omega
              have hg10 : g1 = 0 := by
                rcases hok1 with h | h
                · have := h.2; rw [rentry_nil] at this; cases this
                · exact h.1
              have z0 : rentry (r.bl.getD 0 []) (m : Int) = none := by rcases hok0 with h | h; (· exact absurd (by assumption) h.1); (· exact h.2)
              have hp : jpick r.bl (m : Int) 1 = none := by rw [jpick_no z0]; rfl
              have e : rjopen r m = (180, none, rread_k r 1) := by unfold rjopen; rw [if_neg (by omega), if_neg (by omega), if_neg (by simp [hdn]), hmin, hp]
              rw [e]
              exact ⟨_, rfl, none, rfl, hs.toJoNone⟩
            · skip
              refine St_skip ?_
              refine Jm_seq ?_
              refine St_seq ?_
              refine St_seq ?_
              refine St_region ?_
              refine Ls_run (run_move rfl) rfl ?_
              refine Ls_run (run_move rfl) rfl ?_
              refine Ls_run (run_gtr rfl rfl) rfl ?_
              refine Ls_nil ?_
              refine Jm_seq ?_
              refine St_ifP rfl (fun h52 => ?_) (fun h52 => ?_)
              · skip
                refine St_seq ?_
                refine St_region ?_
                refine Ls_run (run_move rfl) rfl ?_
                refine Ls_run (run_move rfl) rfl ?_
                refine Ls_run (run_load_agg agg66 inf66 rfl rfl (hs.blk_cells 0 rfl 0 4)) rfl ?_
                refine Ls_run (run_move rfl) rfl ?_
                refine Ls_run (run_buildO (pv := [(0, _), (1, _), (2, _), (3, _), (4, _)]) rfl (bld107_0_1_2_3_4 _ _ _ _ _ _ _ _ _ _ _ _)) rfl ?_
                refine Ls_box hs rfl rfl ?_
                intro b54 w53 hs
                refine Ls_run (run_assign rfl) rfl ?_
                refine Ls_run (run_assign rfl) rfl ?_
                refine Ls_nil ?_
                refine Jm_seq ?_
                refine St_ret ?_
                refine Jm_then_ret  ?_
                refine Jm_ret2 rfl rfl rfl ?_
                replace hs := hs.erase 1
                simp only [List.cons_append, List.nil_append, List.eraseIdx_cons_zero, List.eraseIdx_cons_succ] at hs
                replace hs := hs.erase 3
                simp only [List.cons_append, List.nil_append, List.eraseIdx_cons_zero, List.eraseIdx_cons_succ] at hs
                replace hs := hs.erase 3
                simp only [List.cons_append, List.nil_append, List.eraseIdx_cons_zero, List.eraseIdx_cons_succ] at hs
                replace hs := hs.erase 3
                simp only [List.cons_append, List.nil_append, List.eraseIdx_cons_zero, List.eraseIdx_cons_succ] at hs
                replace hs := hs.erase 4
                simp only [List.cons_append, List.nil_append, List.eraseIdx_cons_zero, List.eraseIdx_cons_succ] at hs
                replace hs := hs.erase 4
                simp only [List.cons_append, List.nil_append, List.eraseIdx_cons_zero, List.eraseIdx_cons_succ] at hs
                replace hs := hs.front 3 rfl
                simp only [List.cons_append, List.nil_append, List.eraseIdx_cons_zero, List.eraseIdx_cons_succ] at hs
                replace hs := hs.front 3 rfl
                simp only [List.cons_append, List.nil_append, List.eraseIdx_cons_zero, List.eraseIdx_cons_succ] at hs
                replace hs := hs.front 3 rfl
                simp only [List.cons_append, List.nil_append, List.eraseIdx_cons_zero, List.eraseIdx_cons_succ] at hs
                replace hs := hs.front 3 rfl
                simp only [List.cons_append, List.nil_append, List.eraseIdx_cons_zero, List.eraseIdx_cons_succ] at hs
                have hmin : min 2 r.bl.length = 1 := by omega
                have hg10 : g1 = 0 := by
                  rcases hok1 with h | h
                  · have := h.2; rw [rentry_nil] at this; cases this
                  · exact h.1
                exfalso
                omega
              · skip
                refine St_skip ?_
                refine Jm_seq ?_
                refine St_seq ?_
                refine St_region ?_
                refine Ls_run (run_move rfl) rfl ?_
                refine Ls_run (run_move rfl) rfl ?_
                refine Ls_run (run_load_agg agg66 inf66 rfl rfl (hs.blk_cells 3 rfl 0 4)) rfl ?_
                refine Ls_run (run_move rfl) rfl ?_
                refine Ls_run (run_buildO (pv := [(0, _), (1, _), (2, _), (3, _)]) rfl (bld107_0_1_2_3 _ _ _ _ _ _ _ _ _ _ _)) rfl ?_
                refine Ls_box hs rfl rfl ?_
                intro b56 w55 hs
                refine Ls_run (run_assign rfl) rfl ?_
                refine Ls_run (run_assign rfl) rfl ?_
                refine Ls_nil ?_
                refine Jm_seq ?_
                refine St_ret ?_
                refine Jm_ret2 rfl rfl rfl ?_
                replace hs := hs.erase 1
                simp only [List.cons_append, List.nil_append, List.eraseIdx_cons_zero, List.eraseIdx_cons_succ] at hs
                replace hs := hs.erase 1
                simp only [List.cons_append, List.nil_append, List.eraseIdx_cons_zero, List.eraseIdx_cons_succ] at hs
                replace hs := hs.erase 1
                simp only [List.cons_append, List.nil_append, List.eraseIdx_cons_zero, List.eraseIdx_cons_succ] at hs
                replace hs := hs.erase 1
                simp only [List.cons_append, List.nil_append, List.eraseIdx_cons_zero, List.eraseIdx_cons_succ] at hs
                replace hs := hs.erase 4
                simp only [List.cons_append, List.nil_append, List.eraseIdx_cons_zero, List.eraseIdx_cons_succ] at hs
                replace hs := hs.erase 4
                simp only [List.cons_append, List.nil_append, List.eraseIdx_cons_zero, List.eraseIdx_cons_succ] at hs
                replace hs := hs.front 3 rfl
                simp only [List.cons_append, List.nil_append, List.eraseIdx_cons_zero, List.eraseIdx_cons_succ] at hs
                replace hs := hs.front 3 rfl
                simp only [List.cons_append, List.nil_append, List.eraseIdx_cons_zero, List.eraseIdx_cons_succ] at hs
                replace hs := hs.front 3 rfl
                simp only [List.cons_append, List.nil_append, List.eraseIdx_cons_zero, List.eraseIdx_cons_succ] at hs
                replace hs := hs.front 3 rfl
                simp only [List.cons_append, List.nil_append, List.eraseIdx_cons_zero, List.eraseIdx_cons_succ] at hs
                have hmin : min 2 r.bl.length = 1 := by omega
                have hg10 : g1 = 0 := by
                  rcases hok1 with h | h
                  · have := h.2; rw [rentry_nil] at this; cases this
                  · exact h.1
                have z0 : rentry (r.bl.getD 0 []) (m : Int) = some (q0, g0) := by rcases hok0 with h | h; (· exact h.2); (· exfalso; have := h.1; omega)
                have p1 : jpick r.bl (m : Int) 1 = some ⟨(m : Int), q0, g0, 0, false⟩ := jpick_first z0 rfl
                have hp := p1
                have e : rjopen r m = (0, some ⟨(m : Int), q0, g0, 0, false⟩, rread_k r 1) := by unfold rjopen; rw [if_neg (by omega), if_neg (by omega), if_neg (by simp [hdn]), hmin, hp]
                rw [e]
                exact ⟨_, rfl, _, rfl, Sat.toJoSome (Sat.jshut (j := ⟨(m : Int), q0, g0, 0, false⟩) hs)⟩
          · skip
            refine Ls_off rfl rfl rfl rfl ?_
            refine Ls_off rfl rfl rfl rfl ?_
            refine Ls_run (run_pick_f rfl rfl) rfl ?_
            refine Ls_nil ?_
            refine Jm_seq ?_
            refine St_iff rfl ?_
            refine St_skip ?_
            refine Jm_seq ?_
            refine St_seq ?_
            refine St_seq ?_
            refine St_region ?_
            refine Ls_run (run_move rfl) rfl ?_
            refine Ls_run (run_move rfl) rfl ?_
            refine Ls_run (run_gtr rfl rfl) rfl ?_
            refine Ls_nil ?_
            refine Jm_seq ?_
            refine St_ifP rfl (fun h58 => ?_) (fun h58 => ?_)
            · skip
              refine St_seq ?_
              refine St_region ?_
              refine Ls_run (run_move rfl) rfl ?_
              refine Ls_run (run_move rfl) rfl ?_
              refine Ls_run (run_load_agg agg66 inf66 rfl rfl (hs.blk_cells 0 rfl 0 4)) rfl ?_
              refine Ls_run (run_move rfl) rfl ?_
              refine Ls_run (run_buildO (pv := [(0, _), (1, _), (2, _), (3, _), (4, _)]) rfl (bld107_0_1_2_3_4 _ _ _ _ _ _ _ _ _ _ _ _)) rfl ?_
              refine Ls_box hs rfl rfl ?_
              intro b60 w59 hs
              refine Ls_run (run_assign rfl) rfl ?_
              refine Ls_run (run_assign rfl) rfl ?_
              refine Ls_nil ?_
              refine Jm_seq ?_
              refine St_ret ?_
              refine Jm_then_ret  ?_
              refine Jm_ret2 rfl rfl rfl ?_
              replace hs := hs.erase 1
              simp only [List.cons_append, List.nil_append, List.eraseIdx_cons_zero, List.eraseIdx_cons_succ] at hs
              replace hs := hs.erase 3
              simp only [List.cons_append, List.nil_append, List.eraseIdx_cons_zero, List.eraseIdx_cons_succ] at hs
              replace hs := hs.erase 3
              simp only [List.cons_append, List.nil_append, List.eraseIdx_cons_zero, List.eraseIdx_cons_succ] at hs
              replace hs := hs.erase 3
              simp only [List.cons_append, List.nil_append, List.eraseIdx_cons_zero, List.eraseIdx_cons_succ] at hs
              replace hs := hs.erase 4
              simp only [List.cons_append, List.nil_append, List.eraseIdx_cons_zero, List.eraseIdx_cons_succ] at hs
              replace hs := hs.erase 4
              simp only [List.cons_append, List.nil_append, List.eraseIdx_cons_zero, List.eraseIdx_cons_succ] at hs
              replace hs := hs.front 3 rfl
              simp only [List.cons_append, List.nil_append, List.eraseIdx_cons_zero, List.eraseIdx_cons_succ] at hs
              replace hs := hs.front 3 rfl
              simp only [List.cons_append, List.nil_append, List.eraseIdx_cons_zero, List.eraseIdx_cons_succ] at hs
              replace hs := hs.front 3 rfl
              simp only [List.cons_append, List.nil_append, List.eraseIdx_cons_zero, List.eraseIdx_cons_succ] at hs
              replace hs := hs.front 3 rfl
              simp only [List.cons_append, List.nil_append, List.eraseIdx_cons_zero, List.eraseIdx_cons_succ] at hs
              have hmin : min 2 r.bl.length = 1 := by omega
              have hg10 : g1 = 0 := by
                rcases hok1 with h | h
                · have := h.2; rw [rentry_nil] at this; cases this
                · exact h.1
              exfalso
              omega
            · skip
              refine St_skip ?_
              refine Jm_seq ?_
              refine St_seq ?_
              refine St_region ?_
              refine Ls_run (run_move rfl) rfl ?_
              refine Ls_run (run_move rfl) rfl ?_
              refine Ls_run (run_load_agg agg66 inf66 rfl rfl (hs.blk_cells 3 rfl 0 4)) rfl ?_
              refine Ls_run (run_move rfl) rfl ?_
              refine Ls_run (run_buildO (pv := [(0, _), (1, _), (2, _), (3, _)]) rfl (bld107_0_1_2_3 _ _ _ _ _ _ _ _ _ _ _)) rfl ?_
              refine Ls_box hs rfl rfl ?_
              intro b62 w61 hs
              refine Ls_run (run_assign rfl) rfl ?_
              refine Ls_run (run_assign rfl) rfl ?_
              refine Ls_nil ?_
              refine Jm_seq ?_
              refine St_ret ?_
              refine Jm_ret2 rfl rfl rfl ?_
              replace hs := hs.erase 1
              simp only [List.cons_append, List.nil_append, List.eraseIdx_cons_zero, List.eraseIdx_cons_succ] at hs
              replace hs := hs.erase 1
              simp only [List.cons_append, List.nil_append, List.eraseIdx_cons_zero, List.eraseIdx_cons_succ] at hs
              replace hs := hs.erase 1
              simp only [List.cons_append, List.nil_append, List.eraseIdx_cons_zero, List.eraseIdx_cons_succ] at hs
              replace hs := hs.erase 1
              simp only [List.cons_append, List.nil_append, List.eraseIdx_cons_zero, List.eraseIdx_cons_succ] at hs
              replace hs := hs.erase 4
              simp only [List.cons_append, List.nil_append, List.eraseIdx_cons_zero, List.eraseIdx_cons_succ] at hs
              replace hs := hs.erase 4
              simp only [List.cons_append, List.nil_append, List.eraseIdx_cons_zero, List.eraseIdx_cons_succ] at hs
              replace hs := hs.front 3 rfl
              simp only [List.cons_append, List.nil_append, List.eraseIdx_cons_zero, List.eraseIdx_cons_succ] at hs
              replace hs := hs.front 3 rfl
              simp only [List.cons_append, List.nil_append, List.eraseIdx_cons_zero, List.eraseIdx_cons_succ] at hs
              replace hs := hs.front 3 rfl
              simp only [List.cons_append, List.nil_append, List.eraseIdx_cons_zero, List.eraseIdx_cons_succ] at hs
              replace hs := hs.front 3 rfl
              simp only [List.cons_append, List.nil_append, List.eraseIdx_cons_zero, List.eraseIdx_cons_succ] at hs
              have hmin : min 2 r.bl.length = 1 := by omega
              have hg10 : g1 = 0 := by
                rcases hok1 with h | h
                · have := h.2; rw [rentry_nil] at this; cases this
                · exact h.1
              have z0 : rentry (r.bl.getD 0 []) (m : Int) = some (q0, g0) := by rcases hok0 with h | h; (· exact h.2); (· exfalso; have := h.1; omega)
              have p1 : jpick r.bl (m : Int) 1 = some ⟨(m : Int), q0, g0, 0, false⟩ := jpick_first z0 rfl
              have hp := p1
              have e : rjopen r m = (0, some ⟨(m : Int), q0, g0, 0, false⟩, rread_k r 1) := by unfold rjopen; rw [if_neg (by omega), if_neg (by omega), if_neg (by simp [hdn]), hmin, hp]
              rw [e]
              exact ⟨_, rfl, _, rfl, Sat.toJoSome (Sat.jshut (j := ⟨(m : Int), q0, g0, 0, false⟩) hs)⟩
end Go.Proofs.Ytpmkedgennnekaa.Lg
