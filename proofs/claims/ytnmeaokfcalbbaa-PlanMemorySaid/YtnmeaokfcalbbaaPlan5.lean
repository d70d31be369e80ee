/-
  The law PlanShares, walked. By program (gen/plan5.py).
-/
import Derived.Test.YtnmeaokfcalbbaaPlan4
import Derived.Test.YtnmeaokfcalbbaaPlanP2
set_option linter.unusedVariables false
set_option linter.unusedSimpArgs false
namespace Go.Proofs.Ytnmeaokfcalbbaa.Lg
open Go Go.RowKit Go.Proofs.Ytnmeaokfcalbbaa.PlanPure
theorem Sat.rot {B w : World} {a b : Assn} {R : List Assn} (hs : Sat B w ((a :: R) ++ [b])) : Sat B w (a :: b :: R) := hs.perm (List.Perm.cons a (List.perm_append_singleton b R))
set_option maxRecDepth 100000 in
set_option maxHeartbeats 4000000 in
theorem PlanShares_c (w : World) (p : PlanA) (ops : List (Int × Int × Nat)) (hr : Rd w p.oA p.on p.oc 3 (KOp.flat ops)) (hn : p.on ≤ 9223372036854775807) (A : Option Addr) (n c : Nat) (l : List Pr) (hrl : Rd w A n c 3 (KP.flat l)) (hb : ∀ x ∈ l, 0 ≤ x.1 ∧ x.1 < 18446744073709551616) (hnl : n * 24 ≤ 140737488355300) (a : Int) (ha : a ≤ 9223372036854775807) :
    Calls Try.prog 8 [.agg #[.int .i64 p.pa, .int .i64 p.st, .int .i64 p.wo, .slice p.oA p.on p.oc, .int .i64 p.ag, .int .i64 p.ba, .int .i64 p.wi, .int .i64 p.gu], .slice A n c, .int .i64 a].toArray w (Ret (fun v' w' => v' = .bool true ∧ Below w.heap.size w w')) := by
  have hs := Sat.start w
  have hl : l.length = n := by have := hrl.len; rw [El.flat_length] at this; exact Nat.eq_of_mul_eq_mul_right (by decide) this
  refine Calls_body Try.func8 rfl rfl rfl (envE_cons (i := 0) (v := .agg #[.int .i64 p.pa, .int .i64 p.st, .int .i64 p.wo, .slice p.oA p.on p.oc, .int .i64 p.ag, .int .i64 p.ba, .int .i64 p.wi, .int .i64 p.gu]) rfl (envE_cons (i := 1) (v := .slice A n c) rfl (envE_cons (i := 2) (v := .int .i64 a) rfl envE_nil))) ?_
  refine St_seq ?_
  refine St_region ?_
  refine Ls_box hs rfl rfl ?_
  intro b2 w1 hs
  refine Ls_run (run_assign rfl) rfl ?_
  refine Ls_nil ?_
  refine Jm_seq ?_
  refine St_seq ?_
  refine St_seq ?_
  refine St_region ?_
  refine Ls_call Try.func18 nm18 rfl rfl (pawake_c w1) rfl ?_
  rintro v3 w4 ⟨rfl, hsA5⟩
  replace hs := hs.trans hsA5
  refine Ls_run (run_not rfl) rfl ?_
  refine Ls_nil ?_
  refine Jm_seq ?_
  refine St_iff rfl ?_
  refine St_skip ?_
  refine Jm_seq ?_
  refine St_seq ?_
  refine St_region ?_
  refine Ls_run (run_load_agg agg34 inf34 rfl rfl (hs.blk_cells 0 rfl 0 8)) rfl ?_
  refine Ls_run (run_move rfl) rfl ?_
  simp only [List.nil_append, List.cons_append] at hs
  refine Ls_call Try.func30 nm30 rfl rfl (Deal_c w4 p ops (hr.inB hs) hn A n c l (hrl.inB hs) hb hnl) rfl ?_
  rintro v7 w8 ⟨AD, cD, vsD, rfl, hlD, hsD⟩
  replace hs := (hs.trans hsD).rot
  obtain ⟨D, hDe⟩ : ∃ D, D = deal p ops l := ⟨_, rfl⟩
  rw [← hDe] at hs hlD ⊢
  refine Ls_run (run_assign rfl) rfl ?_
  refine Ls_nil ?_
  refine Jm_seq ?_
  refine St_seq ?_
  refine St_seq ?_
  refine St_region ?_
  refine Ls_run (run_load_agg agg34 inf34 rfl rfl (hs.blk_cells 1 rfl 0 8)) rfl ?_
  refine Ls_call Try.func19 nm19 rfl rfl (Check_c w8 p ops (hr.inB hs) hn) rfl ?_
  rintro v9 w10 ⟨rfl, hsQ11⟩
  replace hs := hs.trans hsQ11
  refine Ls_run (run_neq rfl rfl) rfl ?_
  refine Ls_nil ?_
  refine Jm_seq ?_
  refine St_ifP rfl (fun h12 => ?_) (fun h12 => ?_)
  · skip
    have hD0 : D = [] := by rw [hDe]; unfold deal; rw [if_neg h12]
    have hN0 : nodes p ops = 0 := by rw [nodes, if_neg h12]
    have hW0 : workerOf p ops a = -1 := by rw [workerOf, if_neg (fun q => h12 q.1)]
    have hS0 : storeOf p ops 5 = -1 := by rw [storeOf, if_neg h12]
    have hK0 : kindOf p ops 0 = 0 := by rw [kindOf, if_pos (by rw [hN0]; omega)]
    refine St_seq ?_
    refine St_region ?_
    refine Ls_run (run_move rfl) rfl ?_
    refine Ls_run (run_len Try.underlying43 rfl) rfl ?_
    refine Ls_run (run_asB (c := true) (run_eql rfl rfl) (by simp [hD0])) rfl ?_
    refine Ls_run (run_move rfl) rfl ?_
    refine Ls_on rfl rfl ?_
    refine Ls_run (run_load_agg agg34 inf34 rfl rfl (hs.blk_cells 1 rfl 0 8)) rfl ?_
    refine Ls_on rfl rfl ?_
    refine Ls_call Try.func23 nm23 rfl rfl (Nodes_c w10 p ops (hr.inB hs) hn) rfl ?_
    rintro v13 w14 ⟨rfl, hsQ15⟩
    replace hs := hs.trans hsQ15
    refine Ls_on rfl rfl ?_
    refine Ls_run (run_asB (c := true) (run_eql rfl rfl) (by simp [hN0])) rfl ?_
    refine Ls_run (run_pick_t rfl rfl) rfl ?_
    refine Ls_run (run_move rfl) rfl ?_
    refine Ls_on rfl rfl ?_
    refine Ls_run (run_load_agg agg34 inf34 rfl rfl (hs.blk_cells 1 rfl 0 8)) rfl ?_
    refine Ls_on rfl rfl ?_
    refine Ls_run (run_move rfl) rfl ?_
    refine Ls_on rfl rfl ?_
    refine Ls_call Try.func25 nm25 rfl rfl (WorkerOf_c w14 p ops (hr.inB hs) hn a ha) rfl ?_
    rintro v16 w17 ⟨rfl, hsQ18⟩
    replace hs := hs.trans hsQ18
    refine Ls_on rfl rfl ?_
    refine Ls_run (run_asB (c := true) (run_eql rfl rfl) (by simp [hW0])) rfl ?_
    refine Ls_run (run_pick_t rfl rfl) rfl ?_
    refine Ls_run (run_move rfl) rfl ?_
    refine Ls_on rfl rfl ?_
    refine Ls_run (run_load_agg agg34 inf34 rfl rfl (hs.blk_cells 1 rfl 0 8)) rfl ?_
    refine Ls_on rfl rfl ?_
    refine Ls_call Try.func27 nm27 rfl rfl (StoreOf_c w17 p ops (hr.inB hs) hn 5 (by decide)) rfl ?_
    rintro v19 w20 ⟨rfl, hsQ21⟩
    replace hs := hs.trans hsQ21
    refine Ls_on rfl rfl ?_
    refine Ls_run (run_asB (c := true) (run_eql rfl rfl) (by simp [hS0])) rfl ?_
    refine Ls_run (run_pick_t rfl rfl) rfl ?_
    refine Ls_run (run_move rfl) rfl ?_
    refine Ls_on rfl rfl ?_
    refine Ls_run (run_load_agg agg34 inf34 rfl rfl (hs.blk_cells 1 rfl 0 8)) rfl ?_
    refine Ls_on rfl rfl ?_
    refine Ls_call Try.func21 nm21 rfl rfl (Kind_c w20 p ops (hr.inB hs) hn 0) rfl ?_
    rintro v22 w23 ⟨rfl, hsQ24⟩
    replace hs := hs.trans hsQ24
    refine Ls_on rfl rfl ?_
    refine Ls_run (run_asB (c := true) (run_eql rfl rfl) (by simp [hK0])) rfl ?_
    refine Ls_run (run_pick_t rfl rfl) rfl ?_
    refine Ls_run (run_assign rfl) rfl ?_
    refine Ls_nil ?_
    refine Jm_seq ?_
    refine St_ret ?_
    refine Jm_then_ret  ?_
    refine Jm_ret1 rfl rfl ?_
    exact ⟨_, rfl, rfl, hs.below⟩
  · skip
    have hc : chk p ops = 0 := by omega
    have hk := chk_ok hc
    have hk2 := hk
    unfold numsOk at hk2
    obtain ⟨st, hst⟩ : ∃ q : Nat, p.st = (q : Int) := ⟨p.st.toNat, by omega⟩
    have hst2 : p.st.toNat = st := by omega
    have hD1 : D = dealt st l := by rw [hDe]; unfold deal; rw [if_pos hc, hst2]
    have hDn : D.length = st := by rw [hD1]; exact dealt_len st l
    have hDk : ∀ q, q < st → D.getD q [] = row st l q := fun q hq => by rw [hD1]; exact dealt_getD st l q hq
    have hN : nodes p ops = 1 + p.wo + p.st := by rw [nodes, if_pos hc]
    refine St_skip ?_
    refine Jm_seq ?_
    refine St_seq ?_
    refine St_seq ?_
    refine St_draw (fun x => Below w10.heap.size w10 x) mixed ?_
    intro w25 q26
    have hH := q26.below
    replace hs := hs.quiet q26
    refine An_grow hH ?_
    replace hH := Below.refl w25.heap.size w25
    refine An_take 0 rfl (by kernel_rfl) (by kernel_rfl) (by kernel_rfl) (fun _ _ _ h => h) hH (fun x hx => run_move rfl) rfl ?_
    refine An_take 1 rfl (by kernel_rfl) (by kernel_rfl) (by kernel_rfl) (fun _ _ _ h => h) hH (fun x hx => run_len Try.underlying43 rfl) rfl ?_
    refine An_take 2 rfl (by kernel_rfl) (by kernel_rfl) (by kernel_rfl) (fun _ _ _ h => h) hH (fun x hx => run_field Try.underlying34 rfl inf3 (by decide) rfl) rfl ?_
    refine An_take 3 rfl (by kernel_rfl) (by kernel_rfl) (by kernel_rfl) (fun _ _ _ h => h) hH (fun x hx => run_load sc3 rfl ((hs.grow hx).blk_at 1 rfl 1 rfl)) rfl ?_
    refine An_take 4 rfl (by kernel_rfl) (by kernel_rfl) (by kernel_rfl) (fun _ _ _ h => h) hH (fun x hx => run_asB (c := false) (run_neq rfl rfl) (decide_eq_false (by omega))) rfl ?_
    refine An_take 5 rfl (by kernel_rfl) (by kernel_rfl) (by kernel_rfl) (fun _ _ _ h => h) hH (fun x hx => run_move rfl) rfl ?_
    refine An_take_on 6 rfl (by kernel_rfl) (by kernel_rfl) (by kernel_rfl) rfl rfl (fun _ _ _ h => h) hH (fun x hx => run_load_agg agg34 inf34 rfl rfl ((hs.grow hx).blk_cells 1 rfl 0 8)) rfl ?_
    refine An_only 7 (by kernel_rfl) rfl ?_
    refine Ls_on rfl rfl ?_
    refine Ls_call Try.func23 nm23 rfl rfl (Nodes_c w25 p ops (hr.inB hs) hn) rfl ?_
    rintro v27 w28 ⟨rfl, hsQ29⟩
    replace hs := hs.trans hsQ29
    replace hH := (hsQ29.below : Below w25.heap.size w25 w28)
    refine Ls_nil (Jm_An hH ?_)
    refine An_grow hH ?_
    replace hH := Below.refl w28.heap.size w28
    refine An_take_on 8 rfl (by kernel_rfl) (by kernel_rfl) (by kernel_rfl) rfl rfl (fun _ _ _ h => h) hH (fun x hx => run_asB (c := false) (run_gtr rfl rfl) (decide_eq_false (by omega))) rfl ?_
    refine An_take 9 rfl (by kernel_rfl) (by kernel_rfl) (by kernel_rfl) (fun _ _ _ h => h) hH (fun x hx => run_pick_f rfl rfl) rfl ?_
    refine An_take 10 rfl (by kernel_rfl) (by kernel_rfl) (by kernel_rfl) (fun _ _ _ h => h) hH (fun x hx => run_move rfl) rfl ?_
    refine An_take_on 11 rfl (by kernel_rfl) (by kernel_rfl) (by kernel_rfl) rfl rfl (fun _ _ _ h => h) hH (fun x hx => run_load_agg agg34 inf34 rfl rfl ((hs.grow hx).blk_cells 1 rfl 0 8)) rfl ?_
    refine An_take_on 13 rfl (by kernel_rfl) (by kernel_rfl) (by kernel_rfl) rfl rfl (fun _ _ _ h => h) hH (fun x hx => run_field Try.underlying34 rfl inf3 (by decide) rfl) rfl ?_
    refine An_take_on 14 rfl (by kernel_rfl) (by kernel_rfl) (by kernel_rfl) rfl rfl (fun _ _ _ h => h) hH (fun x hx => run_load sc3 rfl ((hs.grow hx).blk_at 1 rfl 2 rfl)) rfl ?_
    refine An_take_on 15 rfl (by kernel_rfl) (by kernel_rfl) (by kernel_rfl) rfl rfl (fun _ _ _ h => h) hH (fun x hx => run_add rfl rfl (w64 (by omega))) rfl ?_
    refine An_take_on 16 rfl (by kernel_rfl) (by kernel_rfl) (by kernel_rfl) rfl rfl (fun _ _ _ h => h) hH (fun x hx => run_field Try.underlying34 rfl inf3 (by decide) rfl) rfl ?_
    refine An_take_on 17 rfl (by kernel_rfl) (by kernel_rfl) (by kernel_rfl) rfl rfl (fun _ _ _ h => h) hH (fun x hx => run_load sc3 rfl ((hs.grow hx).blk_at 1 rfl 1 rfl)) rfl ?_
    refine An_take_on 18 rfl (by kernel_rfl) (by kernel_rfl) (by kernel_rfl) rfl rfl (fun _ _ _ h => h) hH (fun x hx => run_add rfl rfl (w64 (by omega))) rfl ?_
    refine An_only 12 (by kernel_rfl) rfl ?_
    refine Ls_on rfl rfl ?_
    refine Ls_call Try.func23 nm23 rfl rfl (Nodes_c w28 p ops (hr.inB hs) hn) rfl ?_
    rintro v30 w31 ⟨rfl, hsQ32⟩
    replace hs := hs.trans hsQ32
    replace hH := (hsQ32.below : Below w28.heap.size w28 w31)
    refine Ls_nil (Jm_An hH ?_)
    refine An_grow hH ?_
    replace hH := Below.refl w31.heap.size w31
    refine An_take_on 19 rfl (by kernel_rfl) (by kernel_rfl) (by kernel_rfl) rfl rfl (fun _ _ _ h => h) hH (fun x hx => run_asB (c := false) (run_neq rfl rfl) (decide_eq_false (by omega))) rfl ?_
    refine An_take 20 rfl (by kernel_rfl) (by kernel_rfl) (by kernel_rfl) (fun _ _ _ h => h) hH (fun x hx => run_pick_f rfl rfl) rfl ?_
    refine An_done (by kernel_rfl) ?_
    refine Jm_seq ?_
    refine St_iff rfl ?_
    refine St_skip ?_
    refine Jm_seq ?_
    refine St_seq ?_
    refine St_region ?_
    refine Ls_run (run_field Try.underlying34 rfl inf3 (by decide) rfl) rfl ?_
    refine Ls_run (run_as (run_load sc3 rfl (hs.blk_at 1 rfl 1 rfl)) (show _ = Value.int .i64 (st : Int) by rw [hst])) rfl ?_
    refine Ls_make (m := st) hs Try.underlying46 infq3 rfl rfl rfl (by omega) (by omega) rfl ?_
    intro b34 w35 hs
    refine Ls_run (run_assign rfl) rfl ?_
    refine Ls_nil ?_
    refine Jm_seq ?_
    refine St_seq ?_
    refine St_seq ?_
    refine St_region ?_
    refine Ls_run (run_assign rfl) rfl ?_
    refine Ls_nil ?_
    refine Jm_seq ?_
    refine St_block ?_
    rw [show List.replicate st (Value.int .i64 0) = (El.int .i64).flat (cnts st (l.take 0)) from by rw [List.take_zero, cnts_nil, El.int_flat]; simp] at hs
    obtain ⟨En36, hEn36⟩ : ∃ F : Nat → Env, ∀ (i : Nat), F i = [(1, .slice A n c), (2, .int .i64 a), (3, .pointer (some ⟨b2, 0, none⟩)), (7, .slice AD D.length cD), (8, .slice (some ⟨b34, 0, none⟩) st st), (9, .int .i64 (i : Int))] := ⟨(fun (i : Nat) => [(1, .slice A n c), (2, .int .i64 a), (3, .pointer (some ⟨b2, 0, none⟩)), (7, .slice AD D.length cD), (8, .slice (some ⟨b34, 0, none⟩) st st), (9, .int .i64 (i : Int))]), fun _ => rfl⟩
    obtain ⟨Iv37, hIv37⟩ : ∃ F : Nat → World → Prop, ∀ (i : Nat) (wr : World), F i wr = (Sat w wr (Own 3 1 (.slice (some ⟨b34, 0, none⟩) st st) st ((El.int .i64).flat (cnts st (l.take i))) :: Own 41 1 (.slice AD D.length cD) D.length (El.val.flat vsD) :: Blk b2 [.int .i64 p.pa, .int .i64 p.st, .int .i64 p.wo, .slice p.oA p.on p.oc, .int .i64 p.ag, .int .i64 p.ba, .int .i64 p.wi, .int .i64 p.gu] 34 :: rowsA 50 KP vsD D) ∧ i ≤ n) := ⟨(fun (i : Nat) => fun (wr : World) => Sat w wr (Own 3 1 (.slice (some ⟨b34, 0, none⟩) st st) st ((El.int .i64).flat (cnts st (l.take i))) :: Own 41 1 (.slice AD D.length cD) D.length (El.val.flat vsD) :: Blk b2 [.int .i64 p.pa, .int .i64 p.st, .int .i64 p.wo, .slice p.oA p.on p.oc, .int .i64 p.ag, .int .i64 p.ba, .int .i64 p.wi, .int .i64 p.gu] 34 :: rowsA 50 KP vsD D) ∧ i ≤ n), fun _ _ => rfl⟩
    obtain ⟨ms38, hms38⟩ : ∃ F : Nat → Nat, ∀ (i : Nat), F i = (n - i) := ⟨(fun (i : Nat) => n - i), fun _ => rfl⟩
    refine St_loop En36 Iv37 ms38 (0) ?_ ?_ ?_
    · skip
      rw [hIv37]
      exact ⟨hs, by omega⟩
    · rw [hEn36]; exact (subE_cons rfl (subE_cons rfl (subE_cons rfl (subE_cons rfl (subE_cons rfl (subE_cons rfl subE_nil))))))
    rintro i wr hI39
    rw [hIv37] at hI39
    obtain ⟨hs, hi⟩ := hI39
    refine St_eqE (hEn36 _) ?_
    refine St_seq ?_
    refine St_seq ?_
    refine St_region ?_
    refine Ls_run (run_move rfl) rfl ?_
    refine Ls_run (run_move rfl) rfl ?_
    refine Ls_run (run_len Try.underlying41 rfl) rfl ?_
    refine Ls_run (run_lss rfl rfl) rfl ?_
    refine Ls_nil ?_
    refine Jm_seq ?_
    refine St_ifP rfl (fun h40 => ?_) (fun h40 => ?_)
    · skip
      refine St_skip ?_
      refine Jm_seq ?_
      refine St_seq ?_
      refine St_block ?_
      refine St_seq ?_
      refine St_draw (fun x => Below wr.heap.size wr x) mixed ?_
      intro w41 q42
      have hH := q42.below
      replace hs := hs.quiet q42
      refine An_grow hH ?_
      replace hH := Below.refl w41.heap.size w41
      refine An_take 0 rfl (by kernel_rfl) (by kernel_rfl) (by kernel_rfl) (fun _ _ _ h => h) hH (fun x hx => run_load_agg agg34 inf34 rfl rfl ((hs.grow hx).blk_cells 2 rfl 0 8)) rfl ?_
      refine An_take 1 rfl (by kernel_rfl) (by kernel_rfl) (by kernel_rfl) (fun _ _ _ h => h) hH (fun x hx => run_move rfl) rfl ?_
      refine An_take 2 rfl (by kernel_rfl) (by kernel_rfl) (by kernel_rfl) (fun _ _ _ h => h) hH (fun x hx => run_move rfl) rfl ?_
      obtain ⟨⟨kx, fx, bx⟩, ho⟩ : ∃ o, l.getD i (0, false, 0) = o := ⟨_, rfl⟩
      have hmem : (kx, fx, bx) ∈ l := by rw [← ho]; exact getD_mem3 (by omega)
      have hbx := hb _ hmem
      simp only at hbx
      obtain ⟨kn, hkn⟩ : ∃ q : Nat, kx = (q : Int) := ⟨kx.toNat, by omega⟩
      obtain ⟨k, hkk0⟩ : ∃ q, q = kn % st := ⟨_, rfl⟩
      have hkk : kx.toNat % st = k := by rw [hkk0, hkn]; rfl
      have hklt : k < st := by rw [hkk0]; exact Nat.mod_lt _ (by omega)
      have hrl1 := row_split_len st l i k (kx, fx, bx) (by omega) ho hkk
      have hrl2 := row_split_get st l i k (kx, fx, bx) (by omega) ho hkk
      have hti := take_snoc3 (d := ((0, false, 0) : Pr)) (l := l) (i := i) (by omega)
      rw [ho] at hti
      have hrl3 := row_len st l k
      refine An_index 3  (KP) rfl (by kernel_rfl) (by kernel_rfl) (by kernel_rfl) (fun _ _ _ _ h => h) hH (fun x hx => ((hrl.inB hs).grow hx)) Try.underlying41 inf50 rfl rfl (by omega) (by omega) ho rfl ?_
      intro b43 o44 hc45
      refine An_take 4 rfl (by kernel_rfl) (by kernel_rfl) (by kernel_rfl) (fun _ _ _ h => h) hH (fun x hx => run_field Try.underlying50 rfl inf23 (by decide) rfl) rfl ?_
      refine An_take 5 rfl (by kernel_rfl) (by kernel_rfl) (by kernel_rfl) (fun _ _ _ h => h) hH (fun x hx => run_as (run_load sc23 rfl ((hc45 x hx) 0 _ rfl)) (show _ = Value.int .u64 (kn : Int) from by rw [← hkn])) rfl ?_
      refine An_only 6 (by kernel_rfl) rfl ?_
      refine Ls_call Try.func27 nm27 rfl rfl (StoreOf_c w41 p ops (hr.inB hs) hn kn (by omega)) rfl ?_
      rintro v46 w47 ⟨rfl, hsQ48⟩
      replace hs := hs.trans hsQ48
      have hSt : storeOf p ops kn = 1 + p.wo + (k : Int) := by rw [storeOf, if_pos hc, hst2, hkk0]
      rw [hSt]
      replace hH := (hsQ48.below : Below w41.heap.size w41 w47)
      refine Ls_nil (Jm_An hH ?_)
      refine An_grow hH ?_
      replace hH := Below.refl w47.heap.size w47
      refine An_take 7 rfl (by kernel_rfl) (by kernel_rfl) (by kernel_rfl) (fun _ _ _ h => h) hH (fun x hx => run_assign rfl) rfl ?_
      refine An_done (by kernel_rfl) ?_
      refine Jm_seq ?_
      refine St_seq ?_
      refine St_region ?_
      refine Ls_run (run_move rfl) rfl ?_
      refine Ls_run (run_sub rfl rfl (show _ = p.wo + (k : Int) by rw [w64 (by omega)]; omega)) rfl ?_
      refine Ls_run (run_field Try.underlying34 rfl inf3 (by decide) rfl) rfl ?_
      refine Ls_run (run_load sc3 rfl (hs.blk_at 2 rfl 2 rfl)) rfl ?_
      refine Ls_run (run_sub rfl rfl (show _ = (k : Int) by rw [w64 (by omega)]; omega)) rfl ?_
      refine Ls_run (run_assign rfl) rfl ?_
      refine Ls_nil ?_
      refine Jm_seq ?_
      refine St_seq ?_
      refine St_seq ?_
      refine St_draw (fun x => Below w47.heap.size w47 x) mixed ?_
      intro w49 q50
      have hH := q50.below
      replace hs := hs.quiet q50
      refine An_grow hH ?_
      replace hH := Below.refl w49.heap.size w49
      refine An_take 0 rfl (by kernel_rfl) (by kernel_rfl) (by kernel_rfl) (fun _ _ _ h => h) hH (fun x hx => run_load_agg agg34 inf34 rfl rfl ((hs.grow hx).blk_cells 2 rfl 0 8)) rfl ?_
      refine An_take 1 rfl (by kernel_rfl) (by kernel_rfl) (by kernel_rfl) (fun _ _ _ h => h) hH (fun x hx => run_move rfl) rfl ?_
      refine An_only 2 (by kernel_rfl) rfl ?_
      refine Ls_call Try.func21 nm21 rfl rfl (Kind_c w49 p ops (hr.inB hs) hn (1 + p.wo + (k : Int))) rfl ?_
      rintro v51 w52 ⟨rfl, hsQ53⟩
      replace hs := hs.trans hsQ53
      replace hH := (hsQ53.below : Below w49.heap.size w49 w52)
      refine Ls_nil (Jm_An hH ?_)
      refine An_grow hH ?_
      replace hH := Below.refl w52.heap.size w52
      refine An_take 3 rfl (by kernel_rfl) (by kernel_rfl) (by kernel_rfl) (fun _ _ _ h => h) hH (fun x hx => run_asB (c := false) (run_neq rfl rfl) (decide_eq_false (by rw [kindOf_kf hc, kf, if_neg (by omega), if_neg (by omega), if_neg (by omega)]; omega))) rfl ?_
      refine An_take 4 rfl (by kernel_rfl) (by kernel_rfl) (by kernel_rfl) (fun _ _ _ h => h) hH (fun x hx => run_move rfl) rfl ?_
      refine An_take_on 5 rfl (by kernel_rfl) (by kernel_rfl) (by kernel_rfl) rfl rfl (fun _ _ _ h => h) hH (fun x hx => run_move rfl) rfl ?_
      refine An_take_on 6 rfl (by kernel_rfl) (by kernel_rfl) (by kernel_rfl) rfl rfl (fun _ _ _ h => h) hH (fun x hx => run_asB (c := false) (run_lss rfl rfl) (decide_eq_false (by omega))) rfl ?_
      refine An_take 7 rfl (by kernel_rfl) (by kernel_rfl) (by kernel_rfl) (fun _ _ _ h => h) hH (fun x hx => run_pick_f rfl rfl) rfl ?_
      refine An_take 8 rfl (by kernel_rfl) (by kernel_rfl) (by kernel_rfl) (fun _ _ _ h => h) hH (fun x hx => run_move rfl) rfl ?_
      refine An_take_on 9 rfl (by kernel_rfl) (by kernel_rfl) (by kernel_rfl) rfl rfl (fun _ _ _ h => h) hH (fun x hx => run_move rfl) rfl ?_
      refine An_take_on 10 rfl (by kernel_rfl) (by kernel_rfl) (by kernel_rfl) rfl rfl (fun _ _ _ h => h) hH (fun x hx => run_field Try.underlying34 rfl inf3 (by decide) rfl) rfl ?_
      refine An_take_on 11 rfl (by kernel_rfl) (by kernel_rfl) (by kernel_rfl) rfl rfl (fun _ _ _ h => h) hH (fun x hx => run_load sc3 rfl ((hs.grow hx).blk_at 2 rfl 1 rfl)) rfl ?_
      refine An_take_on 12 rfl (by kernel_rfl) (by kernel_rfl) (by kernel_rfl) rfl rfl (fun _ _ _ h => h) hH (fun x hx => run_asB (c := false) (run_geq rfl rfl) (decide_eq_false (by omega))) rfl ?_
      refine An_take 13 rfl (by kernel_rfl) (by kernel_rfl) (by kernel_rfl) (fun _ _ _ h => h) hH (fun x hx => run_pick_f rfl rfl) rfl ?_
      refine An_take 14 rfl (by kernel_rfl) (by kernel_rfl) (by kernel_rfl) (fun _ _ _ h => h) hH (fun x hx => run_move rfl) rfl ?_
      refine An_take_on 15 rfl (by kernel_rfl) (by kernel_rfl) (by kernel_rfl) rfl rfl (fun _ _ _ h => h) hH (fun x hx => run_move rfl) rfl ?_
      refine An_take_on 16 rfl (by kernel_rfl) (by kernel_rfl) (by kernel_rfl) rfl rfl (fun _ _ _ h => h) hH (fun x hx => run_move rfl) rfl ?_
      refine An_index_on 17  (El.int .i64) rfl (by kernel_rfl) (by kernel_rfl) (by kernel_rfl) rfl rfl (fun _ _ _ _ h => h) hH (fun x hx => ((hs.rd_at 0 rfl).grow hx)) Try.underlying46 inf3 rfl rfl (by omega) (by omega) (cnts_getD st (l.take i) k hklt) rfl ?_
      intro b54 o55 hc56
      refine An_take_on 18 rfl (by kernel_rfl) (by kernel_rfl) (by kernel_rfl) rfl rfl (fun _ _ _ h => h) hH (fun x hx => run_load sc3 rfl ((hc56 x hx) 0 _ rfl)) rfl ?_
      refine An_take_on 19 rfl (by kernel_rfl) (by kernel_rfl) (by kernel_rfl) rfl rfl (fun _ _ _ h => h) hH (fun x hx => run_move rfl) rfl ?_
      refine An_take_on 20 rfl (by kernel_rfl) (by kernel_rfl) (by kernel_rfl) rfl rfl (fun _ _ _ h => h) hH (fun x hx => run_move rfl) rfl ?_
      obtain ⟨Ak, nk, ck, hvk, hrk⟩ := (Sat.parts (pre := [_, _, _]) hs hlD).2 k (by omega)
      have hnk : (D.getD k []).length = nk := by have := hrk.len; rw [El.flat_length] at this; exact Nat.eq_of_mul_eq_mul_right (by decide) this
      rw [hDk k (by omega)] at hnk hrk
      refine An_index_on 21  (El.val) rfl (by kernel_rfl) (by kernel_rfl) (by kernel_rfl) rfl rfl (fun _ _ _ _ h => h) hH (fun x hx => ((hs.rd_at 1 rfl).grow hx)) Try.underlying43 inf41 rfl rfl (by omega) (by omega) hvk rfl ?_
      intro b57 o58 hc59
      refine An_take_on 22 rfl (by kernel_rfl) (by kernel_rfl) (by kernel_rfl) rfl rfl (fun _ _ _ h => h) hH (fun x hx => run_load sc41 rfl ((hc59 x hx) 0 _ rfl)) rfl ?_
      refine An_take_on 23 rfl (by kernel_rfl) (by kernel_rfl) (by kernel_rfl) rfl rfl (fun _ _ _ h => h) hH (fun x hx => run_len Try.underlying41 rfl) rfl ?_
      refine An_take_on 24 rfl (by kernel_rfl) (by kernel_rfl) (by kernel_rfl) rfl rfl (fun _ _ _ h => h) hH (fun x hx => run_asB (c := false) (run_geq rfl rfl) (decide_eq_false (by omega))) rfl ?_
      refine An_take 25 rfl (by kernel_rfl) (by kernel_rfl) (by kernel_rfl) (fun _ _ _ h => h) hH (fun x hx => run_pick_f rfl rfl) rfl ?_
      refine An_take 26 rfl (by kernel_rfl) (by kernel_rfl) (by kernel_rfl) (fun _ _ _ h => h) hH (fun x hx => run_move rfl) rfl ?_
      refine An_take_on 27 rfl (by kernel_rfl) (by kernel_rfl) (by kernel_rfl) rfl rfl (fun _ _ _ h => h) hH (fun x hx => run_move rfl) rfl ?_
      refine An_take_on 28 rfl (by kernel_rfl) (by kernel_rfl) (by kernel_rfl) rfl rfl (fun _ _ _ h => h) hH (fun x hx => run_move rfl) rfl ?_
      refine An_index_on 29  (El.val) rfl (by kernel_rfl) (by kernel_rfl) (by kernel_rfl) rfl rfl (fun _ _ _ _ h => h) hH (fun x hx => ((hs.rd_at 1 rfl).grow hx)) Try.underlying43 inf41 rfl rfl (by omega) (by omega) hvk rfl ?_
      intro b60 o61 hc62
      refine An_take_on 30 rfl (by kernel_rfl) (by kernel_rfl) (by kernel_rfl) rfl rfl (fun _ _ _ h => h) hH (fun x hx => run_load sc41 rfl ((hc62 x hx) 0 _ rfl)) rfl ?_
      refine An_take_on 31 rfl (by kernel_rfl) (by kernel_rfl) (by kernel_rfl) rfl rfl (fun _ _ _ h => h) hH (fun x hx => run_move rfl) rfl ?_
      refine An_take_on 32 rfl (by kernel_rfl) (by kernel_rfl) (by kernel_rfl) rfl rfl (fun _ _ _ h => h) hH (fun x hx => run_move rfl) rfl ?_
      refine An_index_on 33  (El.int .i64) rfl (by kernel_rfl) (by kernel_rfl) (by kernel_rfl) rfl rfl (fun _ _ _ _ h => h) hH (fun x hx => ((hs.rd_at 0 rfl).grow hx)) Try.underlying46 inf3 rfl rfl (by omega) (by omega) (cnts_getD st (l.take i) k hklt) rfl ?_
      intro b63 o64 hc65
      refine An_take_on 34 rfl (by kernel_rfl) (by kernel_rfl) (by kernel_rfl) rfl rfl (fun _ _ _ h => h) hH (fun x hx => run_load sc3 rfl ((hc65 x hx) 0 _ rfl)) rfl ?_
      refine An_index_on 35  (KP) rfl (by kernel_rfl) (by kernel_rfl) (by kernel_rfl) rfl rfl (fun _ _ _ _ h => h) hH (fun x hx => (hrk.grow hx)) Try.underlying41 inf50 rfl rfl (by omega) (by omega) (show _ = (kx, fx, bx) from hrl2) rfl ?_
      intro b66 o67 hc68
      refine An_take_on 36 rfl (by kernel_rfl) (by kernel_rfl) (by kernel_rfl) rfl rfl (fun _ _ _ h => h) hH (fun x hx => run_as (run_load_agg agg50 inf50 rfl rfl (hc68 x hx)) (show _ = Value.agg #[.int .u64 kx, .bool fx, .int .u64 bx] from rfl)) rfl ?_
      refine An_take_on 37 rfl (by kernel_rfl) (by kernel_rfl) (by kernel_rfl) rfl rfl (fun _ _ _ h => h) hH (fun x hx => run_move rfl) rfl ?_
      refine An_take_on 38 rfl (by kernel_rfl) (by kernel_rfl) (by kernel_rfl) rfl rfl (fun _ _ _ h => h) hH (fun x hx => run_move rfl) rfl ?_
      refine An_index_on 39  (KP) rfl (by kernel_rfl) (by kernel_rfl) (by kernel_rfl) rfl rfl (fun _ _ _ _ h => h) hH (fun x hx => ((hrl.inB hs).grow hx)) Try.underlying41 inf50 rfl rfl (by omega) (by omega) ho rfl ?_
      intro b69 o70 hc71
      refine An_take_on 40 rfl (by kernel_rfl) (by kernel_rfl) (by kernel_rfl) rfl rfl (fun _ _ _ h => h) hH (fun x hx => run_as (run_load_agg agg50 inf50 rfl rfl (hc71 x hx)) (show _ = Value.agg #[.int .u64 kx, .bool fx, .int .u64 bx] from rfl)) rfl ?_
      refine An_take_on 41 rfl (by kernel_rfl) (by kernel_rfl) (by kernel_rfl) rfl rfl (fun _ _ _ h => h) hH (fun x hx => run_asB (c := false) (run_neq_agg rfl rfl (by kernel_rfl) (eqs50 9997 _ _ _ _ _ _)) (by simp)) rfl ?_
      refine An_take 42 rfl (by kernel_rfl) (by kernel_rfl) (by kernel_rfl) (fun _ _ _ h => h) hH (fun x hx => run_pick_f rfl rfl) rfl ?_
      refine An_done (by kernel_rfl) ?_
      refine Jm_seq ?_
      refine St_iff rfl ?_
      refine St_skip ?_
      refine Jm_seq ?_
      refine St_region ?_
      refine Ls_run (run_move rfl) rfl ?_
      refine Ls_run (run_move rfl) rfl ?_
      refine Ls_index (El.int .i64) (hs.rd_at 0 rfl) Try.underlying46 inf3 rfl rfl (by omega) (by omega) (cnts_getD st (l.take i) k hklt) rfl ?_
      intro b73 o74 hc75
      refine Ls_run (run_load sc3 rfl (hc75 0 _ rfl)) rfl ?_
      refine Ls_run (run_add rfl rfl (w64 (by omega))) rfl ?_
      refine Ls_run (run_index Try.underlying46 inf3 rfl rfl rfl (by omega) (by omega)) rfl ?_
      refine Ls_storeOwn hs inf3 rfl rfl rfl (by omega) ?_
      intro w76 hs
      refine Ls_nil ?_
      refine Jm_block_normal (Jm_seq ?_)
      refine St_region ?_
      refine Ls_run (run_move rfl) rfl ?_
      refine Ls_run (run_add rfl rfl (w64 (by omega))) rfl ?_
      refine Ls_run (run_assign rfl) rfl ?_
      refine Ls_nil ?_
      have e8 : 0 + (k : Int).toNat * 1 = k := by simp
      rw [e8] at hs
      refine Jm_round (i + 1) ?_ ?_ ?_
      · rw [hEn36]; exact (subE_cons rfl (subE_cons rfl (subE_cons rfl (subE_cons rfl (subE_cons rfl (subE_cons rfl subE_nil))))))
      · skip
        rw [hIv37]
        refine ⟨?_, by omega⟩
        rw [hti, cnts_snoc st (l.take i) (kx, fx, bx) k hkk hklt, El.int_flat, List.map_set, ← El.int_flat]
        exact hs
      · skip
        rw [hms38, hms38]
        omega
    · skip
      refine St_exit ?_
      refine Jm_then_exit (Jm_then_exit (Jm_block_same (Jm_seq ?_)))
      refine St_seq ?_
      refine St_seq ?_
      refine St_region ?_
      refine Ls_run (run_assign rfl) rfl ?_
      refine Ls_nil ?_
      refine Jm_seq ?_
      refine St_block ?_
      have hi9 : i = n := by omega
      rw [hi9, List.take_of_length_le (by omega)] at hs
      obtain ⟨En77, hEn77⟩ : ∃ F : Nat → Env, ∀ (q : Nat), F q = [(2, .int .i64 a), (3, .pointer (some ⟨b2, 0, none⟩)), (7, .slice AD D.length cD), (8, .slice (some ⟨b34, 0, none⟩) st st), (12, .int .i64 (q : Int))] := ⟨(fun (q : Nat) => [(2, .int .i64 a), (3, .pointer (some ⟨b2, 0, none⟩)), (7, .slice AD D.length cD), (8, .slice (some ⟨b34, 0, none⟩) st st), (12, .int .i64 (q : Int))]), fun _ => rfl⟩
      obtain ⟨Iv78, hIv78⟩ : ∃ F : Nat → World → Prop, ∀ (q : Nat) (wr2 : World), F q wr2 = (Sat w wr2 (Own 3 1 (.slice (some ⟨b34, 0, none⟩) st st) st ((El.int .i64).flat (cnts st l)) :: Own 41 1 (.slice AD D.length cD) D.length (El.val.flat vsD) :: Blk b2 [.int .i64 p.pa, .int .i64 p.st, .int .i64 p.wo, .slice p.oA p.on p.oc, .int .i64 p.ag, .int .i64 p.ba, .int .i64 p.wi, .int .i64 p.gu] 34 :: rowsA 50 KP vsD D) ∧ q ≤ st) := ⟨(fun (q : Nat) => fun (wr2 : World) => Sat w wr2 (Own 3 1 (.slice (some ⟨b34, 0, none⟩) st st) st ((El.int .i64).flat (cnts st l)) :: Own 41 1 (.slice AD D.length cD) D.length (El.val.flat vsD) :: Blk b2 [.int .i64 p.pa, .int .i64 p.st, .int .i64 p.wo, .slice p.oA p.on p.oc, .int .i64 p.ag, .int .i64 p.ba, .int .i64 p.wi, .int .i64 p.gu] 34 :: rowsA 50 KP vsD D) ∧ q ≤ st), fun _ _ => rfl⟩
      obtain ⟨ms79, hms79⟩ : ∃ F : Nat → Nat, ∀ (q : Nat), F q = (st - q) := ⟨(fun (q : Nat) => st - q), fun _ => rfl⟩
      refine St_loop En77 Iv78 ms79 (0) ?_ ?_ ?_
      · skip
        rw [hIv78]
        exact ⟨hs, by omega⟩
      · rw [hEn77]; exact (subE_cons rfl (subE_cons rfl (subE_cons rfl (subE_cons rfl (subE_cons rfl subE_nil)))))
      rintro q wr2 hI80
      rw [hIv78] at hI80
      obtain ⟨hs, hq⟩ := hI80
      refine St_eqE (hEn77 _) ?_
      refine St_seq ?_
      refine St_seq ?_
      refine St_region ?_
      refine Ls_run (run_move rfl) rfl ?_
      refine Ls_run (run_field Try.underlying34 rfl inf3 (by decide) rfl) rfl ?_
      refine Ls_run (run_load sc3 rfl (hs.blk_at 2 rfl 1 rfl)) rfl ?_
      refine Ls_run (run_lss rfl rfl) rfl ?_
      refine Ls_nil ?_
      refine Jm_seq ?_
      refine St_ifP rfl (fun h81 => ?_) (fun h81 => ?_)
      · skip
        refine St_skip ?_
        refine Jm_seq ?_
        refine St_seq ?_
        refine St_block ?_
        refine St_seq ?_
        refine St_draw (fun x => Below wr2.heap.size wr2 x) mixed ?_
        intro w82 q83
        have hH := q83.below
        replace hs := hs.quiet q83
        refine An_grow hH ?_
        replace hH := Below.refl w82.heap.size w82
        refine An_take 0 rfl (by kernel_rfl) (by kernel_rfl) (by kernel_rfl) (fun _ _ _ h => h) hH (fun x hx => run_move rfl) rfl ?_
        refine An_take 1 rfl (by kernel_rfl) (by kernel_rfl) (by kernel_rfl) (fun _ _ _ h => h) hH (fun x hx => run_move rfl) rfl ?_
        refine An_index 2  (El.int .i64) rfl (by kernel_rfl) (by kernel_rfl) (by kernel_rfl) (fun _ _ _ _ h => h) hH (fun x hx => ((hs.rd_at 0 rfl).grow hx)) Try.underlying46 inf3 rfl rfl (by omega) (by omega) (cnts_getD st l q (by omega)) rfl ?_
        intro b84 o85 hc86
        refine An_take 3 rfl (by kernel_rfl) (by kernel_rfl) (by kernel_rfl) (fun _ _ _ h => h) hH (fun x hx => run_load sc3 rfl ((hc86 x hx) 0 _ rfl)) rfl ?_
        refine An_take 4 rfl (by kernel_rfl) (by kernel_rfl) (by kernel_rfl) (fun _ _ _ h => h) hH (fun x hx => run_move rfl) rfl ?_
        refine An_take 5 rfl (by kernel_rfl) (by kernel_rfl) (by kernel_rfl) (fun _ _ _ h => h) hH (fun x hx => run_move rfl) rfl ?_
        obtain ⟨Ak, nk, ck, hvk, hrk⟩ := (Sat.parts (pre := [_, _, _]) hs hlD).2 q (by omega)
        have hnk : (D.getD q []).length = nk := by have := hrk.len; rw [El.flat_length] at this; exact Nat.eq_of_mul_eq_mul_right (by decide) this
        rw [hDk q (by omega)] at hnk hrk
        refine An_index 6  (El.val) rfl (by kernel_rfl) (by kernel_rfl) (by kernel_rfl) (fun _ _ _ _ h => h) hH (fun x hx => ((hs.rd_at 1 rfl).grow hx)) Try.underlying43 inf41 rfl rfl (by omega) (by omega) hvk rfl ?_
        intro b87 o88 hc89
        refine An_take 7 rfl (by kernel_rfl) (by kernel_rfl) (by kernel_rfl) (fun _ _ _ h => h) hH (fun x hx => run_load sc41 rfl ((hc89 x hx) 0 _ rfl)) rfl ?_
        refine An_take 8 rfl (by kernel_rfl) (by kernel_rfl) (by kernel_rfl) (fun _ _ _ h => h) hH (fun x hx => run_len Try.underlying41 rfl) rfl ?_
        refine An_take 9 rfl (by kernel_rfl) (by kernel_rfl) (by kernel_rfl) (fun _ _ _ h => h) hH (fun x hx => run_asB (c := false) (run_neq rfl rfl) (decide_eq_false (by omega))) rfl ?_
        refine An_done (by kernel_rfl) ?_
        refine Jm_seq ?_
        refine St_iff rfl ?_
        refine St_skip ?_
        refine Jm_block_normal (Jm_seq ?_)
        refine St_region ?_
        refine Ls_run (run_move rfl) rfl ?_
        refine Ls_run (run_add rfl rfl (w64 (by omega))) rfl ?_
        refine Ls_run (run_assign rfl) rfl ?_
        refine Ls_nil ?_
        refine Jm_round (q + 1) ?_ ?_ ?_
        · rw [hEn77]; exact (subE_cons rfl (subE_cons rfl (subE_cons rfl (subE_cons rfl (subE_cons rfl subE_nil)))))
        · skip
          rw [hIv78]
          exact ⟨hs, by omega⟩
        · skip
          rw [hms79, hms79]
          omega
      · skip
        refine St_exit ?_
        refine Jm_then_exit (Jm_then_exit (Jm_block_same (Jm_seq ?_)))
        refine St_seq ?_
        refine St_seq ?_
        refine St_draw (fun x => Below wr2.heap.size wr2 x) mixed ?_
        intro w91 q92
        have hH := q92.below
        replace hs := hs.quiet q92
        refine An_grow hH ?_
        replace hH := Below.refl w91.heap.size w91
        refine An_take 0 rfl (by kernel_rfl) (by kernel_rfl) (by kernel_rfl) (fun _ _ _ h => h) hH (fun x hx => run_move rfl) rfl ?_
        refine An_take 1 rfl (by kernel_rfl) (by kernel_rfl) (by kernel_rfl) (fun _ _ _ h => h) hH (fun x hx => run_geq rfl rfl) rfl ?_
        refine An_take 2 rfl (by kernel_rfl) (by kernel_rfl) (by kernel_rfl) (fun _ _ _ h => h) hH (fun x hx => run_move rfl) rfl ?_
        refine An_partP (t := 157) rfl (fun h93 => ?_) (fun h93 => ?_)
        · skip
          refine An_take_on 3 rfl (by kernel_rfl) (by kernel_rfl) (by kernel_rfl) rfl rfl (fun _ _ _ h => h) hH (fun x hx => run_load_agg agg34 inf34 rfl rfl ((hs.grow hx).blk_cells 2 rfl 0 8)) rfl ?_
          refine An_take_on 4 rfl (by kernel_rfl) (by kernel_rfl) (by kernel_rfl) rfl rfl (fun _ _ _ h => h) hH (fun x hx => run_load_agg agg34 inf34 rfl rfl ((hs.grow hx).blk_cells 2 rfl 0 8)) rfl ?_
          refine An_take_on 5 rfl (by kernel_rfl) (by kernel_rfl) (by kernel_rfl) rfl rfl (fun _ _ _ h => h) hH (fun x hx => run_move rfl) rfl ?_
          refine An_only 6 (by kernel_rfl) rfl ?_
          refine Ls_on rfl rfl ?_
          refine Ls_call Try.func25 nm25 rfl rfl (WorkerOf_c w91 p ops (hr.inB hs) hn a ha) rfl ?_
          rintro v94 w95 ⟨rfl, hsQ96⟩
          replace hs := hs.trans hsQ96
          have hWk : workerOf p ops a = 1 + a.tmod p.wo := by rw [workerOf, if_pos ⟨hc, by omega⟩]
          have htm := tmod_bd a p.wo (by omega) (by omega)
          rw [hWk]
          replace hH := (hsQ96.below : Below w91.heap.size w91 w95)
          refine Ls_nil (Jm_An hH ?_)
          refine An_grow hH ?_
          replace hH := Below.refl w95.heap.size w95
          refine An_only 7 (by kernel_rfl) rfl ?_
          refine Ls_on rfl rfl ?_
          refine Ls_call Try.func21 nm21 rfl rfl (Kind_c w95 p ops (hr.inB hs) hn (1 + a.tmod p.wo)) rfl ?_
          rintro v97 w98 ⟨rfl, hsQ99⟩
          replace hs := hs.trans hsQ99
          replace hH := (hsQ99.below : Below w95.heap.size w95 w98)
          refine Ls_nil (Jm_An hH ?_)
          refine An_grow hH ?_
          replace hH := Below.refl w98.heap.size w98
          refine An_take_on 8 rfl (by kernel_rfl) (by kernel_rfl) (by kernel_rfl) rfl rfl (fun _ _ _ h => h) hH (fun x hx => run_asB (c := false) (run_neq rfl rfl) (decide_eq_false (by rw [kindOf_kf hc, kf, if_neg (by omega), if_neg (by omega), if_pos (by omega)]; omega))) rfl ?_
          refine An_take 9 rfl (by kernel_rfl) (by kernel_rfl) (by kernel_rfl) (fun _ _ _ h => h) hH (fun x hx => run_pick_t rfl rfl) rfl ?_
          refine An_done (by kernel_rfl) ?_
          refine Jm_seq ?_
          refine St_iff rfl ?_
          refine St_skip ?_
          refine Jm_seq ?_
          refine St_seq ?_
          refine St_region ?_
          refine Ls_alloc hs inf51 rfl ?_
          intro b102 w101 hs
          refine Ls_nil ?_
          refine Jm_seq ?_
          refine St_seq ?_
          refine St_seq ?_
          refine St_region ?_
          refine Ls_run (run_assign rfl) rfl ?_
          refine Ls_nil ?_
          refine Jm_seq ?_
          refine St_block ?_
          replace hs := hs.erase 1
          simp only [List.cons_append, List.nil_append, List.eraseIdx_cons_zero, List.eraseIdx_cons_succ] at hs
          replace hs := hs.erase 1
          simp only [List.cons_append, List.nil_append, List.eraseIdx_cons_zero, List.eraseIdx_cons_succ] at hs
          obtain ⟨En103, hEn103⟩ : ∃ F : Nat → Env, ∀ (m : Nat), F m = [(3, .pointer (some ⟨b2, 0, none⟩)), (13, .pointer (some ⟨b102, 0, none⟩)), (14, .int .i64 ((m : Int) - 2))] := ⟨(fun (m : Nat) => [(3, .pointer (some ⟨b2, 0, none⟩)), (13, .pointer (some ⟨b102, 0, none⟩)), (14, .int .i64 ((m : Int) - 2))]), fun _ => rfl⟩
          obtain ⟨Iv104, hIv104⟩ : ∃ F : Nat → World → Prop, ∀ (m : Nat) (wr3 : World), F m wr3 = (Sat w wr3 (Blk b102 (kcs p.wo p.st m) 51 :: Blk b2 [.int .i64 p.pa, .int .i64 p.st, .int .i64 p.wo, .slice p.oA p.on p.oc, .int .i64 p.ag, .int .i64 p.ba, .int .i64 p.wi, .int .i64 p.gu] 34 :: rowsA 50 KP vsD D) ∧ m ≤ 14) := ⟨(fun (m : Nat) => fun (wr3 : World) => Sat w wr3 (Blk b102 (kcs p.wo p.st m) 51 :: Blk b2 [.int .i64 p.pa, .int .i64 p.st, .int .i64 p.wo, .slice p.oA p.on p.oc, .int .i64 p.ag, .int .i64 p.ba, .int .i64 p.wi, .int .i64 p.gu] 34 :: rowsA 50 KP vsD D) ∧ m ≤ 14), fun _ _ => rfl⟩
          obtain ⟨ms105, hms105⟩ : ∃ F : Nat → Nat, ∀ (m : Nat), F m = (14 - m) := ⟨(fun (m : Nat) => 14 - m), fun _ => rfl⟩
          refine St_loop En103 Iv104 ms105 (0) ?_ ?_ ?_
          · skip
            rw [hIv104]
            exact ⟨hs, by omega⟩
          · rw [hEn103]; exact (subE_cons rfl (subE_cons rfl (subE_cons rfl subE_nil)))
          rintro m wr3 hI106
          rw [hIv104] at hI106
          obtain ⟨hs, hm⟩ := hI106
          refine St_eqE (hEn103 _) ?_
          refine St_seq ?_
          refine St_seq ?_
          refine St_region ?_
          refine Ls_run (run_move rfl) rfl ?_
          refine Ls_run (run_lss rfl rfl) rfl ?_
          refine Ls_nil ?_
          refine Jm_seq ?_
          refine St_ifP rfl (fun h107 => ?_) (fun h107 => ?_)
          · skip
            refine St_skip ?_
            refine Jm_seq ?_
            refine St_seq ?_
            refine St_block ?_
            refine St_seq ?_
            refine St_region ?_
            refine Ls_run (run_load_agg agg34 inf34 rfl rfl (hs.blk_cells 1 rfl 0 8)) rfl ?_
            refine Ls_run (run_move rfl) rfl ?_
            refine Ls_call Try.func21 nm21 rfl rfl (Kind_c wr3 p ops (hr.inB hs) hn ((m : Int) - 2)) rfl ?_
            rintro v108 w109 ⟨rfl, hsQ110⟩
            replace hs := hs.trans hsQ110
            obtain ⟨kk, hkf, hk3⟩ : ∃ kk : Nat, kf p.wo p.st ((m : Int) - 2) = (kk : Int) ∧ kk ≤ 3 := ⟨(kf p.wo p.st ((m : Int) - 2)).toNat, by have := kf_range p.wo p.st ((m : Int) - 2); omega, by have := kf_range p.wo p.st ((m : Int) - 2); omega⟩
            rw [kindOf_kf hc, hkf]
            have hkc := kc_le p.wo p.st m kk
            refine Ls_run (run_assign rfl) rfl ?_
            refine Ls_nil ?_
            refine Jm_seq ?_
            refine St_seq ?_
            refine St_seq ?_
            refine St_region ?_
            refine Ls_run (run_move rfl) rfl ?_
            refine Ls_run (run_asB (c := false) (run_lss rfl rfl) (decide_eq_false (by omega))) rfl ?_
            refine Ls_run (run_move rfl) rfl ?_
            refine Ls_on rfl rfl ?_
            refine Ls_run (run_move rfl) rfl ?_
            refine Ls_on rfl rfl ?_
            refine Ls_run (run_asB (c := false) (run_gtr rfl rfl) (decide_eq_false (by omega))) rfl ?_
            refine Ls_run (run_pick_f rfl rfl) rfl ?_
            refine Ls_nil ?_
            refine Jm_seq ?_
            refine St_iff rfl ?_
            refine St_skip ?_
            refine Jm_seq ?_
            refine St_region ?_
            refine Ls_run (run_move rfl) rfl ?_
            refine Ls_run (run_as (run_index_arr Try.underlying51 inf3 rfl rfl (by omega) (by omega)) (show _ = Value.pointer (some ⟨b102, kk, none⟩) by simp)) rfl ?_
            refine Ls_run (run_load sc3 rfl (hs.blk_at 0 rfl kk (kcs_get p.wo p.st m kk (by omega)))) rfl ?_
            refine Ls_run (run_add rfl rfl (w64 (by omega))) rfl ?_
            refine Ls_run (run_as (run_index_arr Try.underlying51 inf3 rfl rfl (by omega) (by omega)) (show _ = Value.pointer (some ⟨b102, kk, none⟩) by simp)) rfl ?_
            refine Ls_store hs inf3 rfl rfl rfl (by rw [Nat.blt_eq]; show kk < 4; omega) ?_
            intro w112 hs
            refine Ls_nil ?_
            refine Jm_block_normal (Jm_seq ?_)
            refine St_region ?_
            refine Ls_run (run_move rfl) rfl ?_
            refine Ls_run (run_add rfl rfl (show _ = (((m + 1 : Nat) : Int) - 2) by rw [w64 (by omega)]; omega)) rfl ?_
            refine Ls_run (run_assign rfl) rfl ?_
            refine Ls_nil ?_
            refine Jm_round (m + 1) ?_ ?_ ?_
            · rw [hEn103]; exact (subE_cons rfl (subE_cons rfl (subE_cons rfl subE_nil)))
            · skip
              rw [hIv104]
              refine ⟨?_, by omega⟩
              rw [kcs_succ p.wo p.st m kk hkf hk3]
              exact hs
            · skip
              rw [hms105, hms105]
              omega
          · skip
            refine St_exit ?_
            refine Jm_then_exit (Jm_then_exit (Jm_block_same (Jm_seq ?_)))
            refine St_seq ?_
            refine St_region ?_
            have hm14 : m = 14 := by omega
            obtain ⟨e1, e2, e3⟩ := kc_end p.wo p.st (by omega) (by omega)
            rw [← hm14] at e1 e2 e3
            refine Ls_run (run_index_arr Try.underlying51 inf3 rfl rfl (by decide) (by decide)) rfl ?_
            refine Ls_run (run_load sc3 rfl (hs.blk_at 0 rfl 1 rfl)) rfl ?_
            refine Ls_run (run_asB (c := true) (run_eql rfl rfl) (decide_eq_true e1)) rfl ?_
            refine Ls_run (run_move rfl) rfl ?_
            refine Ls_on rfl rfl ?_
            refine Ls_run (run_index_arr Try.underlying51 inf3 rfl rfl (by decide) (by decide)) rfl ?_
            refine Ls_on rfl rfl ?_
            refine Ls_run (run_load sc3 rfl (hs.blk_at 0 rfl 2 rfl)) rfl ?_
            refine Ls_on rfl rfl ?_
            refine Ls_run (run_field Try.underlying34 rfl inf3 (by decide) rfl) rfl ?_
            refine Ls_on rfl rfl ?_
            refine Ls_run (run_load sc3 rfl (hs.blk_at 1 rfl 2 rfl)) rfl ?_
            refine Ls_on rfl rfl ?_
            refine Ls_run (run_asB (c := true) (run_eql rfl rfl) (decide_eq_true e2)) rfl ?_
            refine Ls_run (run_pick_t rfl rfl) rfl ?_
            refine Ls_run (run_move rfl) rfl ?_
            refine Ls_on rfl rfl ?_
            refine Ls_run (run_index_arr Try.underlying51 inf3 rfl rfl (by decide) (by decide)) rfl ?_
            refine Ls_on rfl rfl ?_
            refine Ls_run (run_load sc3 rfl (hs.blk_at 0 rfl 3 rfl)) rfl ?_
            refine Ls_on rfl rfl ?_
            refine Ls_run (run_field Try.underlying34 rfl inf3 (by decide) rfl) rfl ?_
            refine Ls_on rfl rfl ?_
            refine Ls_run (run_load sc3 rfl (hs.blk_at 1 rfl 1 rfl)) rfl ?_
            refine Ls_on rfl rfl ?_
            refine Ls_run (run_asB (c := true) (run_eql rfl rfl) (decide_eq_true e3)) rfl ?_
            refine Ls_run (run_pick_t rfl rfl) rfl ?_
            refine Ls_run (run_assign rfl) rfl ?_
            refine Ls_nil ?_
            refine Jm_seq ?_
            refine St_ret ?_
            refine Jm_ret1 rfl rfl ?_
            exact ⟨_, rfl, rfl, hs.below⟩
        · skip
          refine An_take_off 3 rfl (by kernel_rfl) (by kernel_rfl) (by kernel_rfl) rfl rfl rfl (fun _ _ _ h => h) hH rfl ?_
          refine An_take_off 4 rfl (by kernel_rfl) (by kernel_rfl) (by kernel_rfl) rfl rfl rfl (fun _ _ _ h => h) hH rfl ?_
          refine An_take_off 5 rfl (by kernel_rfl) (by kernel_rfl) (by kernel_rfl) rfl rfl rfl (fun _ _ _ h => h) hH rfl ?_
          refine An_take_off 6 rfl (by kernel_rfl) (by kernel_rfl) (by kernel_rfl) rfl rfl rfl (fun _ _ _ h => h) hH rfl ?_
          refine An_take_off 7 rfl (by kernel_rfl) (by kernel_rfl) (by kernel_rfl) rfl rfl rfl (fun _ _ _ h => h) hH rfl ?_
          refine An_take_off 8 rfl (by kernel_rfl) (by kernel_rfl) (by kernel_rfl) rfl rfl rfl (fun _ _ _ h => h) hH rfl ?_
          refine An_take 9 rfl (by kernel_rfl) (by kernel_rfl) (by kernel_rfl) (fun _ _ _ h => h) hH (fun x hx => run_pick_f rfl rfl) rfl ?_
          refine An_done (by kernel_rfl) ?_
          refine Jm_seq ?_
          refine St_iff rfl ?_
          refine St_skip ?_
          refine Jm_seq ?_
          refine St_seq ?_
          refine St_region ?_
          refine Ls_alloc hs inf51 rfl ?_
          intro b115 w114 hs
          refine Ls_nil ?_
          refine Jm_seq ?_
          refine St_seq ?_
          refine St_seq ?_
          refine St_region ?_
          refine Ls_run (run_assign rfl) rfl ?_
          refine Ls_nil ?_
          refine Jm_seq ?_
          refine St_block ?_
          replace hs := hs.erase 1
          simp only [List.cons_append, List.nil_append, List.eraseIdx_cons_zero, List.eraseIdx_cons_succ] at hs
          replace hs := hs.erase 1
          simp only [List.cons_append, List.nil_append, List.eraseIdx_cons_zero, List.eraseIdx_cons_succ] at hs
          obtain ⟨En116, hEn116⟩ : ∃ F : Nat → Env, ∀ (m : Nat), F m = [(3, .pointer (some ⟨b2, 0, none⟩)), (13, .pointer (some ⟨b115, 0, none⟩)), (14, .int .i64 ((m : Int) - 2))] := ⟨(fun (m : Nat) => [(3, .pointer (some ⟨b2, 0, none⟩)), (13, .pointer (some ⟨b115, 0, none⟩)), (14, .int .i64 ((m : Int) - 2))]), fun _ => rfl⟩
          obtain ⟨Iv117, hIv117⟩ : ∃ F : Nat → World → Prop, ∀ (m : Nat) (wr3 : World), F m wr3 = (Sat w wr3 (Blk b115 (kcs p.wo p.st m) 51 :: Blk b2 [.int .i64 p.pa, .int .i64 p.st, .int .i64 p.wo, .slice p.oA p.on p.oc, .int .i64 p.ag, .int .i64 p.ba, .int .i64 p.wi, .int .i64 p.gu] 34 :: rowsA 50 KP vsD D) ∧ m ≤ 14) := ⟨(fun (m : Nat) => fun (wr3 : World) => Sat w wr3 (Blk b115 (kcs p.wo p.st m) 51 :: Blk b2 [.int .i64 p.pa, .int .i64 p.st, .int .i64 p.wo, .slice p.oA p.on p.oc, .int .i64 p.ag, .int .i64 p.ba, .int .i64 p.wi, .int .i64 p.gu] 34 :: rowsA 50 KP vsD D) ∧ m ≤ 14), fun _ _ => rfl⟩
          obtain ⟨ms118, hms118⟩ : ∃ F : Nat → Nat, ∀ (m : Nat), F m = (14 - m) := ⟨(fun (m : Nat) => 14 - m), fun _ => rfl⟩
          refine St_loop En116 Iv117 ms118 (0) ?_ ?_ ?_
          · skip
            rw [hIv117]
            exact ⟨hs, by omega⟩
          · rw [hEn116]; exact (subE_cons rfl (subE_cons rfl (subE_cons rfl subE_nil)))
          rintro m wr3 hI119
          rw [hIv117] at hI119
          obtain ⟨hs, hm⟩ := hI119
          refine St_eqE (hEn116 _) ?_
          refine St_seq ?_
          refine St_seq ?_
          refine St_region ?_
          refine Ls_run (run_move rfl) rfl ?_
          refine Ls_run (run_lss rfl rfl) rfl ?_
          refine Ls_nil ?_
          refine Jm_seq ?_
          refine St_ifP rfl (fun h120 => ?_) (fun h120 => ?_)
          · skip
            refine St_skip ?_
            refine Jm_seq ?_
            refine St_seq ?_
            refine St_block ?_
            refine St_seq ?_
            refine St_region ?_
            refine Ls_run (run_load_agg agg34 inf34 rfl rfl (hs.blk_cells 1 rfl 0 8)) rfl ?_
            refine Ls_run (run_move rfl) rfl ?_
            refine Ls_call Try.func21 nm21 rfl rfl (Kind_c wr3 p ops (hr.inB hs) hn ((m : Int) - 2)) rfl ?_
            rintro v121 w122 ⟨rfl, hsQ123⟩
            replace hs := hs.trans hsQ123
            obtain ⟨kk, hkf, hk3⟩ : ∃ kk : Nat, kf p.wo p.st ((m : Int) - 2) = (kk : Int) ∧ kk ≤ 3 := ⟨(kf p.wo p.st ((m : Int) - 2)).toNat, by have := kf_range p.wo p.st ((m : Int) - 2); omega, by have := kf_range p.wo p.st ((m : Int) - 2); omega⟩
            rw [kindOf_kf hc, hkf]
            have hkc := kc_le p.wo p.st m kk
            refine Ls_run (run_assign rfl) rfl ?_
            refine Ls_nil ?_
            refine Jm_seq ?_
            refine St_seq ?_
            refine St_seq ?_
            refine St_region ?_
            refine Ls_run (run_move rfl) rfl ?_
            refine Ls_run (run_asB (c := false) (run_lss rfl rfl) (decide_eq_false (by omega))) rfl ?_
            refine Ls_run (run_move rfl) rfl ?_
            refine Ls_on rfl rfl ?_
            refine Ls_run (run_move rfl) rfl ?_
            refine Ls_on rfl rfl ?_
            refine Ls_run (run_asB (c := false) (run_gtr rfl rfl) (decide_eq_false (by omega))) rfl ?_
            refine Ls_run (run_pick_f rfl rfl) rfl ?_
            refine Ls_nil ?_
            refine Jm_seq ?_
            refine St_iff rfl ?_
            refine St_skip ?_
            refine Jm_seq ?_
            refine St_region ?_
            refine Ls_run (run_move rfl) rfl ?_
            refine Ls_run (run_as (run_index_arr Try.underlying51 inf3 rfl rfl (by omega) (by omega)) (show _ = Value.pointer (some ⟨b115, kk, none⟩) by simp)) rfl ?_
            refine Ls_run (run_load sc3 rfl (hs.blk_at 0 rfl kk (kcs_get p.wo p.st m kk (by omega)))) rfl ?_
            refine Ls_run (run_add rfl rfl (w64 (by omega))) rfl ?_
            refine Ls_run (run_as (run_index_arr Try.underlying51 inf3 rfl rfl (by omega) (by omega)) (show _ = Value.pointer (some ⟨b115, kk, none⟩) by simp)) rfl ?_
            refine Ls_store hs inf3 rfl rfl rfl (by rw [Nat.blt_eq]; show kk < 4; omega) ?_
            intro w125 hs
            refine Ls_nil ?_
            refine Jm_block_normal (Jm_seq ?_)
            refine St_region ?_
            refine Ls_run (run_move rfl) rfl ?_
            refine Ls_run (run_add rfl rfl (show _ = (((m + 1 : Nat) : Int) - 2) by rw [w64 (by omega)]; omega)) rfl ?_
            refine Ls_run (run_assign rfl) rfl ?_
            refine Ls_nil ?_
            refine Jm_round (m + 1) ?_ ?_ ?_
            · rw [hEn116]; exact (subE_cons rfl (subE_cons rfl (subE_cons rfl subE_nil)))
            · skip
              rw [hIv117]
              refine ⟨?_, by omega⟩
              rw [kcs_succ p.wo p.st m kk hkf hk3]
              exact hs
            · skip
              rw [hms118, hms118]
              omega
          · skip
            refine St_exit ?_
            refine Jm_then_exit (Jm_then_exit (Jm_block_same (Jm_seq ?_)))
            refine St_seq ?_
            refine St_region ?_
            have hm14 : m = 14 := by omega
            obtain ⟨e1, e2, e3⟩ := kc_end p.wo p.st (by omega) (by omega)
            rw [← hm14] at e1 e2 e3
            refine Ls_run (run_index_arr Try.underlying51 inf3 rfl rfl (by decide) (by decide)) rfl ?_
            refine Ls_run (run_load sc3 rfl (hs.blk_at 0 rfl 1 rfl)) rfl ?_
            refine Ls_run (run_asB (c := true) (run_eql rfl rfl) (decide_eq_true e1)) rfl ?_
            refine Ls_run (run_move rfl) rfl ?_
            refine Ls_on rfl rfl ?_
            refine Ls_run (run_index_arr Try.underlying51 inf3 rfl rfl (by decide) (by decide)) rfl ?_
            refine Ls_on rfl rfl ?_
            refine Ls_run (run_load sc3 rfl (hs.blk_at 0 rfl 2 rfl)) rfl ?_
            refine Ls_on rfl rfl ?_
            refine Ls_run (run_field Try.underlying34 rfl inf3 (by decide) rfl) rfl ?_
            refine Ls_on rfl rfl ?_
            refine Ls_run (run_load sc3 rfl (hs.blk_at 1 rfl 2 rfl)) rfl ?_
            refine Ls_on rfl rfl ?_
            refine Ls_run (run_asB (c := true) (run_eql rfl rfl) (decide_eq_true e2)) rfl ?_
            refine Ls_run (run_pick_t rfl rfl) rfl ?_
            refine Ls_run (run_move rfl) rfl ?_
            refine Ls_on rfl rfl ?_
            refine Ls_run (run_index_arr Try.underlying51 inf3 rfl rfl (by decide) (by decide)) rfl ?_
            refine Ls_on rfl rfl ?_
            refine Ls_run (run_load sc3 rfl (hs.blk_at 0 rfl 3 rfl)) rfl ?_
            refine Ls_on rfl rfl ?_
            refine Ls_run (run_field Try.underlying34 rfl inf3 (by decide) rfl) rfl ?_
            refine Ls_on rfl rfl ?_
            refine Ls_run (run_load sc3 rfl (hs.blk_at 1 rfl 1 rfl)) rfl ?_
            refine Ls_on rfl rfl ?_
            refine Ls_run (run_asB (c := true) (run_eql rfl rfl) (decide_eq_true e3)) rfl ?_
            refine Ls_run (run_pick_t rfl rfl) rfl ?_
            refine Ls_run (run_assign rfl) rfl ?_
            refine Ls_nil ?_
            refine Jm_seq ?_
            refine St_ret ?_
            refine Jm_ret1 rfl rfl ?_
            exact ⟨_, rfl, rfl, hs.below⟩
end Go.Proofs.Ytnmeaokfcalbbaa.Lg
