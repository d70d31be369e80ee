/-
  The law DiskExact, walked. By program (gen/disk12.py).
-/
import Derived.Test.YtpmkedgennnekaaDisk11
set_option linter.unusedVariables false
set_option linter.unusedSimpArgs false
namespace Go.Proofs.Ytpmkedgennnekaa.Lg
open Go Go.RowKit
/-- A call of a script: its kind, on which disk, a number, bytes. -/
def KOp : El (Int × Int × Int × Option Addr × Nat × Nat) := ⟨4, fun o => [.int .i64 o.1, .int .i64 o.2.1, .int .i64 o.2.2.1, .slice o.2.2.2.1 o.2.2.2.2.1 o.2.2.2.2.2], (0, 0, 0, none, 0, 0), fun _ => rfl⟩
def OpOk (w : World) (x : Int × Int × Int × Option Addr × Nat × Nat) : Prop := (-9223372036854775808 ≤ x.2.1 ∧ x.2.1 ≤ 9223372036854775807) ∧ (-9223372036854775808 ≤ x.2.2.1 ∧ x.2.2.1 ≤ 9223372036854775807) ∧ x.2.2.2.2.1 ≤ 140737488351232 ∧ ∃ l, Rd w x.2.2.2.1 x.2.2.2.2.1 x.2.2.2.2.2 1 (bytesV l) ∧ IsBytes l
theorem sel3_all {α : Type} {P : α → Prop} {k : Nat} {a b c : α} (ha : P a) (hb : P b) (hc : P c) : P (sel3 k a b c) := by
  unfold sel3
  split
  · exact ha
  · split
    · exact hb
    · exact hc
theorem sel3_id {α : Type} {k : Nat} (a b c : α) (h : 3 ≤ k) : sel3 k a b c = c := by unfold sel3; rw [if_neg (by omega), if_neg (by omega)]
set_option maxRecDepth 100000 in
set_option maxHeartbeats 4000000 in
theorem DiskExact_c (w : World) (m : Int) (A : Option Addr) (n c : Nat) (vs : List Value) (bl : List (List Int)) (A2 : Option Addr) (n2 c2 : Nat) (pl : List (Int × Int × Int × Option Addr × Nat × Nat)) (hr : Rd w A n c 1 (El.val.flat vs)) (hp : PartsK (El.int .u8) w vs bl) (hba : ∀ r ∈ bl, IsBytes r) (hr2 : Rd w A2 n2 c2 4 (KOp.flat pl)) (hput : ∀ x ∈ pl, OpOk w x) (hn : n ≤ 9223372036854775807) (hn2 : n2 ≤ 9223372036854775807) :
    Calls Try.prog 6 [.int .i64 m, .slice A n c, .slice A2 n2 c2].toArray w (Ret (fun v' w' => v' = .bool true ∧ Below w.heap.size w w')) := by
  have hs := Sat.start w
  have hl : pl.length = n2 := by have := hr2.len; rw [El.flat_length] at this; exact Nat.eq_of_mul_eq_mul_right (by decide) this
  refine Calls_body Try.func6 rfl rfl rfl (envE_cons (i := 0) (v := .int .i64 m) rfl (envE_cons (i := 1) (v := .slice A n c) rfl (envE_cons (i := 2) (v := .slice A2 n2 c2) rfl envE_nil))) ?_
  refine St_seq ?_
  refine St_region ?_
  refine Ls_run (run_assign rfl) rfl ?_
  refine Ls_nil ?_
  refine Jm_seq ?_
  refine St_seq ?_
  refine St_seq ?_
  refine St_region ?_
  refine Ls_call Try.func12 nm12 rfl rfl (dawake_c w) rfl ?_
  rintro v1 w2 ⟨rfl, hsA3⟩
  replace hs := hs.trans hsA3
  simp only [List.nil_append] at hs
  refine Ls_run (run_not rfl) rfl ?_
  refine Ls_nil ?_
  refine Jm_seq ?_
  refine St_iff rfl ?_
  refine St_skip ?_
  refine Jm_seq ?_
  refine St_seq ?_
  refine St_region ?_
  refine Ls_run (run_move rfl) rfl ?_
  refine Ls_call Try.func13 nm13 rfl rfl (NewO_c w2 m) rfl ?_
  rintro v5 w6 ⟨pa, rfl, hpa, hsN7⟩
  replace hs := hs.trans hsN7
  simp only [List.cons_append, List.nil_append] at hs
  refine Ls_run (run_move rfl) rfl ?_
  refine Ls_run (run_extract rfl rfl) rfl ?_
  refine Ls_run (run_extract rfl rfl) rfl ?_
  refine Ls_run (run_assign rfl) rfl ?_
  refine Ls_run (run_assign rfl) rfl ?_
  refine Ls_nil ?_
  refine Jm_seq ?_
  refine St_seq ?_
  refine St_region ?_
  refine Ls_run (run_move rfl) rfl ?_
  refine Ls_call Try.func25 nm25 rfl rfl (rNewO_c w6 m) rfl ?_
  rintro v8 w9 ⟨qa, rfl, hqa, hsN10⟩
  replace hs := hs.trans hsN10
  simp only [List.cons_append, List.nil_append] at hs
  refine Ls_run (run_move rfl) rfl ?_
  refine Ls_run (run_extract rfl rfl) rfl ?_
  refine Ls_run (run_extract rfl rfl) rfl ?_
  refine Ls_run (run_assign rfl) rfl ?_
  refine Ls_run (run_assign rfl) rfl ?_
  refine Ls_nil ?_
  refine Jm_seq ?_
  refine St_seq ?_
  refine St_region ?_
  refine Ls_run (run_move rfl) rfl ?_
  refine Ls_call Try.func24 nm24 rfl rfl (LoadO_c w9 A n c vs bl (hr.inB hs) (hp.inB hs) hn) rfl ?_
  rintro v11 w12 ⟨pb, rfl, hpb, hsN13⟩
  replace hs := hs.trans hsN13
  simp only [List.cons_append, List.nil_append] at hs
  refine Ls_run (run_move rfl) rfl ?_
  refine Ls_run (run_extract rfl rfl) rfl ?_
  refine Ls_run (run_extract rfl rfl) rfl ?_
  refine Ls_run (run_assign rfl) rfl ?_
  refine Ls_run (run_assign rfl) rfl ?_
  refine Ls_nil ?_
  refine Jm_seq ?_
  refine St_seq ?_
  refine St_region ?_
  refine Ls_run (run_move rfl) rfl ?_
  refine Ls_call Try.func26 nm26 rfl rfl (rLoadO_c w12 A n c vs bl (hr.inB hs) (hp.inB hs) hn) rfl ?_
  rintro v14 w15 ⟨qb, rfl, hqb, hsN16⟩
  replace hs := hs.trans hsN16
  simp only [List.cons_append, List.nil_append] at hs
  refine Ls_run (run_move rfl) rfl ?_
  refine Ls_run (run_extract rfl rfl) rfl ?_
  refine Ls_run (run_extract rfl rfl) rfl ?_
  refine Ls_run (run_assign rfl) rfl ?_
  refine Ls_run (run_assign rfl) rfl ?_
  refine Ls_nil ?_
  refine Jm_seq ?_
  refine St_seq ?_
  refine St_seq ?_
  refine St_region ?_
  refine Ls_run (run_move rfl) rfl ?_
  refine Ls_run (run_move rfl) rfl ?_
  refine Ls_run (run_asB (c := false) (run_neq rfl rfl) (by simp)) rfl ?_
  refine Ls_run (run_move rfl) rfl ?_
  refine Ls_on rfl rfl ?_
  refine Ls_run (run_move rfl) rfl ?_
  refine Ls_on rfl rfl ?_
  refine Ls_run (run_move rfl) rfl ?_
  refine Ls_on rfl rfl ?_
  refine Ls_run (run_asB (c := false) (run_neq rfl rfl) (by simp)) rfl ?_
  refine Ls_run (run_pick_f rfl rfl) rfl ?_
  refine Ls_run (run_move rfl) rfl ?_
  refine Ls_on rfl rfl ?_
  refine Ls_run (run_move rfl) rfl ?_
  refine Ls_on rfl rfl ?_
  refine Ls_run (run_eql_ptr_nil Try.underlying24 rfl rfl) rfl ?_
  refine Ls_on rfl rfl ?_
  refine Ls_run (run_move rfl) rfl ?_
  refine Ls_on rfl rfl ?_
  refine Ls_run (run_eql_ptr_nil Try.underlying47 rfl rfl) rfl ?_
  refine Ls_on rfl rfl ?_
  refine Ls_run (run_asB (c := false) (run_neq_bool Try.underlying4 rfl rfl) (by rw [isNone_iff hpa hqa (newO_alike m)]; simp)) rfl ?_
  refine Ls_run (run_pick_f rfl rfl) rfl ?_
  refine Ls_run (run_move rfl) rfl ?_
  refine Ls_on rfl rfl ?_
  refine Ls_run (run_move rfl) rfl ?_
  refine Ls_on rfl rfl ?_
  refine Ls_run (run_eql_ptr_nil Try.underlying24 rfl rfl) rfl ?_
  refine Ls_on rfl rfl ?_
  refine Ls_run (run_move rfl) rfl ?_
  refine Ls_on rfl rfl ?_
  refine Ls_run (run_eql_ptr_nil Try.underlying47 rfl rfl) rfl ?_
  refine Ls_on rfl rfl ?_
  refine Ls_run (run_asB (c := false) (run_neq_bool Try.underlying4 rfl rfl) (by rw [isNone_iff hpb hqb (loadO_alike bl hba)]; simp)) rfl ?_
  refine Ls_run (run_pick_f rfl rfl) rfl ?_
  refine Ls_nil ?_
  refine Jm_seq ?_
  refine St_iff rfl ?_
  refine St_skip ?_
  refine Jm_seq ?_
  refine St_seq ?_
  refine St_region ?_
  refine Ls_run (run_move rfl) rfl ?_
  refine Ls_run (run_move rfl) rfl ?_
  refine Ls_run (run_buildO (pv := [(0, _), (1, _), (2, _)]) rfl (bld51_0_1_2 _ _ _)) rfl ?_
  refine Ls_alloc hs inf51 rfl ?_
  intro b19 w18 hs
  refine Ls_storeAgg hs inf51 rfl rfl rfl rfl (by simp [Value.oneCell']) ?_
  intro w20 hs
  refine Ls_nil ?_
  refine Jm_seq ?_
  refine St_seq ?_
  refine St_region ?_
  refine Ls_run (run_move rfl) rfl ?_
  refine Ls_run (run_move rfl) rfl ?_
  refine Ls_run (run_buildO (pv := [(0, _), (1, _), (2, _)]) rfl (bld52_0_1_2 _ _ _)) rfl ?_
  refine Ls_alloc hs inf52 rfl ?_
  intro b22 w21 hs
  refine Ls_storeAgg hs inf52 rfl rfl rfl rfl (by simp [Value.oneCell']) ?_
  intro w23 hs
  refine Ls_nil ?_
  refine Jm_seq ?_
  refine St_seq ?_
  refine St_region ?_
  refine Ls_run (run_assign rfl) rfl ?_
  refine Ls_nil ?_
  refine Jm_seq ?_
  refine St_seq ?_
  refine St_seq ?_
  refine St_region ?_
  refine Ls_run (run_assign rfl) rfl ?_
  refine Ls_nil ?_
  refine Jm_seq ?_
  refine St_block ?_
  replace hs := hs.front 1 rfl
  simp only [List.cons_append, List.nil_append, List.eraseIdx_cons_zero, List.eraseIdx_cons_succ] at hs
  replace hs := hs.front 2 rfl
  simp only [List.cons_append, List.nil_append, List.eraseIdx_cons_zero, List.eraseIdx_cons_succ] at hs
  replace hs := hs.front 4 rfl
  simp only [List.cons_append, List.nil_append, List.eraseIdx_cons_zero, List.eraseIdx_cons_succ] at hs
  replace hs := hs.front 4 rfl
  simp only [List.cons_append, List.nil_append, List.eraseIdx_cons_zero, List.eraseIdx_cons_succ] at hs
  replace hs := hs.front 5 rfl
  simp only [List.cons_append, List.nil_append, List.eraseIdx_cons_zero, List.eraseIdx_cons_succ] at hs
  obtain ⟨En24, hEn24⟩ : ∃ F : Nat × Nat × Option DSt × Option DSt × Option RSt × Option RSt → Env, ∀ (i : Nat) (nn : Nat) (sa : Option DSt) (sb : Option DSt) (ra : Option RSt) (rb : Option RSt), F (i, nn, sa, sb, ra, rb) = [(2, .slice A2 n2 c2), (15, .pointer (some ⟨b19, 0, none⟩)), (16, .pointer (some ⟨b22, 0, none⟩)), (17, .int .i64 (nn : Int)), (18, .int .i64 (i : Int))] := ⟨(fun (s : Nat × Nat × Option DSt × Option DSt × Option RSt × Option RSt) => match s with | (i, nn, sa, sb, ra, rb) => [(2, .slice A2 n2 c2), (15, .pointer (some ⟨b19, 0, none⟩)), (16, .pointer (some ⟨b22, 0, none⟩)), (17, .int .i64 (nn : Int)), (18, .int .i64 (i : Int))]), fun _ _ _ _ _ _ => rfl⟩
  obtain ⟨Iv25, hIv25⟩ : ∃ F : Nat × Nat × Option DSt × Option DSt × Option RSt × Option RSt → World → Prop, ∀ (i : Nat) (nn : Nat) (sa : Option DSt) (sb : Option DSt) (ra : Option RSt) (rb : Option RSt) (wr : World), F (i, nn, sa, sb, ra, rb) wr = (Sat w wr [DO 85 31 5 pa sa, DO 85 31 5 pb sb, RO 92 31 5 qa ra, RO 92 31 5 qb rb, Blk b19 [.pointer pa, .pointer pb, .pointer none] 51, Blk b22 [.pointer qa, .pointer qb, .pointer none] 52] ∧ i ≤ n2 ∧ nn ≤ 4194304 ∧ DRo sa ra ∧ DRo sb rb) := ⟨(fun (s : Nat × Nat × Option DSt × Option DSt × Option RSt × Option RSt) => match s with | (i, nn, sa, sb, ra, rb) => fun (wr : World) => Sat w wr [DO 85 31 5 pa sa, DO 85 31 5 pb sb, RO 92 31 5 qa ra, RO 92 31 5 qb rb, Blk b19 [.pointer pa, .pointer pb, .pointer none] 51, Blk b22 [.pointer qa, .pointer qb, .pointer none] 52] ∧ i ≤ n2 ∧ nn ≤ 4194304 ∧ DRo sa ra ∧ DRo sb rb), fun _ _ _ _ _ _ _ => rfl⟩
  obtain ⟨ms26, hms26⟩ : ∃ F : Nat × Nat × Option DSt × Option DSt × Option RSt × Option RSt → Nat, ∀ (i : Nat) (nn : Nat) (sa : Option DSt) (sb : Option DSt) (ra : Option RSt) (rb : Option RSt), F (i, nn, sa, sb, ra, rb) = (n2 - i) := ⟨(fun (s : Nat × Nat × Option DSt × Option DSt × Option RSt × Option RSt) => match s with | (i, nn, sa, sb, ra, rb) => n2 - i), fun _ _ _ _ _ _ => rfl⟩
  refine St_loop En24 Iv25 ms26 (0, 0, newO m, loadO bl, rnewO m, rloadO bl) ?_ ?_ ?_
  · skip
    rw [hIv25]
    exact ⟨hs, by omega, by omega, newO_alike m, loadO_alike bl hba⟩
  · rw [hEn24]; exact (subE_cons rfl (subE_cons rfl (subE_cons rfl (subE_cons rfl (subE_cons rfl subE_nil)))))
  rintro ⟨i, nn, sa, sb, ra, rb⟩ wr hI27
  rw [hIv25] at hI27
  obtain ⟨hs, hi, hnn, hra, hrb⟩ := hI27
  refine St_eqE (hEn24 _ _ _ _ _ _) ?_
  refine St_seq ?_
  refine St_seq ?_
  refine St_region ?_
  refine Ls_run (run_move rfl) rfl ?_
  refine Ls_run (run_move rfl) rfl ?_
  refine Ls_run (run_len Try.underlying46 rfl) rfl ?_
  refine Ls_run (run_lss rfl rfl) rfl ?_
  refine Ls_nil ?_
  refine Jm_seq ?_
  refine St_ifP rfl (fun h28 => ?_) (fun h28 => ?_)
  · skip
    refine St_skip ?_
    refine Jm_seq ?_
    refine St_seq ?_
    refine St_block ?_
    refine St_seq ?_
    refine St_region ?_
    refine Ls_run (run_move rfl) rfl ?_
    refine Ls_run (run_move rfl) rfl ?_
    refine Ls_run (run_move rfl) rfl ?_
    obtain ⟨⟨kd, on, pi, Ai, ni, ci⟩, ho⟩ : ∃ o, pl.getD i (0, 0, 0, none, 0, 0) = o := ⟨_, rfl⟩
    have hmem : (kd, on, pi, Ai, ni, ci) ∈ pl := by rw [← ho]; exact getElem_mem3 (by omega)
    obtain ⟨hon, hpi, hni, l, hri, hbs⟩ := hput _ hmem
    simp only at hon hpi hni hri
    obtain ⟨u, hu, hu2⟩ := u64_nat on
    obtain ⟨k, hk0⟩ : ∃ q, q = u % 3 := ⟨_, rfl⟩
    have hk3 : k < 3 := by omega
    refine Ls_index (KOp) (hr2.inB hs) Try.underlying46 inf54 rfl rfl (by omega) (by omega) ho rfl ?_
    intro b29 o30 hc31
    refine Ls_run (run_field Try.underlying54 rfl inf31 (by decide) rfl) rfl ?_
    refine Ls_run (run_as (run_load sc31 rfl (hc31 3 _ rfl)) (show _ = Value.slice Ai ni ci from rfl)) rfl ?_
    refine Ls_run (run_len Try.underlying31 rfl) rfl ?_
    refine Ls_run (run_add rfl rfl (w64 (by omega))) rfl ?_
    refine Ls_run (run_add rfl rfl (w64 (by omega))) rfl ?_
    refine Ls_run (run_assign rfl) rfl ?_
    refine Ls_nil ?_
    refine Jm_seq ?_
    refine St_seq ?_
    refine St_seq ?_
    refine St_region ?_
    refine Ls_run (run_move rfl) rfl ?_
    refine Ls_run (run_gtr rfl rfl) rfl ?_
    refine Ls_nil ?_
    refine Jm_seq ?_
    refine St_ifP rfl (fun h32 => ?_) (fun h32 => ?_)
    · skip
      refine St_seq ?_
      refine St_region ?_
      refine Ls_run (run_assign rfl) rfl ?_
      refine Ls_nil ?_
      refine Jm_seq ?_
      refine St_ret ?_
      refine Jm_then_ret (Jm_block_ret (Jm_then_ret (Jm_then_ret (Jm_block_ret (Jm_then_ret  ?_)))))
      refine Jm_ret1 rfl rfl ?_
      exact ⟨_, rfl, rfl, hs.below⟩
    · skip
      refine St_skip ?_
      refine Jm_seq ?_
      refine St_seq ?_
      refine St_region ?_
      refine Ls_run (run_move rfl) rfl ?_
      refine Ls_run (run_move rfl) rfl ?_
      refine Ls_index (KOp) (hr2.inB hs) Try.underlying46 inf54 rfl rfl (by omega) (by omega) ho rfl ?_
      intro b33 o34 hc35
      refine Ls_run (run_field Try.underlying54 rfl inf3 (by decide) rfl) rfl ?_
      refine Ls_run (run_as (run_load sc3 rfl (hc35 1 _ rfl)) (show _ = Value.int .i64 on from rfl)) rfl ?_
      refine Ls_run (run_as (run_conv_int Try.underlying30 us3 rfl rfl) (show _ = Value.int .u64 (u : Int) by rw [← hu])) rfl ?_
      refine Ls_run (run_rem rfl rfl (by decide) (show _ = (k : Int) by rw [hk0]; exact rem_nn u 3)) rfl ?_
      refine Ls_run (run_conv_int Try.underlying3 us30 rfl (w64 (by omega))) rfl ?_
      refine Ls_run (run_assign rfl) rfl ?_
      refine Ls_nil ?_
      refine Jm_seq ?_
      refine St_seq ?_
      replace hs := hs.front 5 rfl
      simp only [List.cons_append, List.nil_append, List.eraseIdx_cons_zero, List.eraseIdx_cons_succ] at hs
      replace hs := hs.front 5 rfl
      simp only [List.cons_append, List.nil_append, List.eraseIdx_cons_zero, List.eraseIdx_cons_succ] at hs
      refine St_hold (Hold.of (Ls := [_, _]) hs) mixed ?_
      intro w36 q37
      replace hs := hs.quiet q37
      have hH := Hold.of (Ls := [_, _]) hs
      refine An_take 0 rfl (by kernel_rfl) (by kernel_rfl) (by kernel_rfl) (fun _ _ _ h => h) hH (fun x hx => run_move rfl) rfl ?_
      refine An_take 1 rfl (by kernel_rfl) (by kernel_rfl) (by kernel_rfl) (fun _ _ _ h => h) hH (fun x hx => run_as (run_index_arr Try.underlying51 inf24 rfl rfl (by omega) (by omega)) (show _ = Value.pointer (some ⟨b19, k, none⟩) by simp)) rfl ?_
      refine An_take 2 rfl (by kernel_rfl) (by kernel_rfl) (by kernel_rfl) (fun _ _ _ h => h) hH (fun x hx => run_load sc24 rfl (hx.choose_spec.blk_at 0 rfl k (sel3_cell hk3 _ _ _))) rfl ?_
      refine An_take 3 rfl (by kernel_rfl) (by kernel_rfl) (by kernel_rfl) (fun _ _ _ h => h) hH (fun x hx => run_move rfl) rfl ?_
      refine An_take 4 rfl (by kernel_rfl) (by kernel_rfl) (by kernel_rfl) (fun _ _ _ h => h) hH (fun x hx => run_as (run_index_arr Try.underlying52 inf47 rfl rfl (by omega) (by omega)) (show _ = Value.pointer (some ⟨b22, k, none⟩) by simp)) rfl ?_
      refine An_take 5 rfl (by kernel_rfl) (by kernel_rfl) (by kernel_rfl) (fun _ _ _ h => h) hH (fun x hx => run_load sc47 rfl (hx.choose_spec.blk_at 1 rfl k (sel3_cell hk3 _ _ _))) rfl ?_
      refine An_take 6 rfl (by kernel_rfl) (by kernel_rfl) (by kernel_rfl) (fun _ _ _ h => h) hH (fun x hx => run_move rfl) rfl ?_
      refine An_take 7 rfl (by kernel_rfl) (by kernel_rfl) (by kernel_rfl) (fun _ _ _ h => h) hH (fun x hx => run_move rfl) rfl ?_
      refine An_index 8  (KOp) rfl (by kernel_rfl) (by kernel_rfl) (by kernel_rfl) (fun _ _ _ _ h => h) hH (fun x hx => (hr2.inB hx.choose_spec)) Try.underlying46 inf54 rfl rfl (by omega) (by omega) ho rfl ?_
      intro b38 o39 hc40
      refine An_take 9 rfl (by kernel_rfl) (by kernel_rfl) (by kernel_rfl) (fun _ _ _ h => h) hH (fun x hx => run_as (run_load_agg agg54 inf54 rfl rfl (hc40 x hx)) (show _ = Value.agg #[.int .i64 kd, .int .i64 on, .int .i64 pi, .slice Ai ni ci] from rfl)) rfl ?_
      refine An_only 10 (by kernel_rfl) rfl ?_
      replace hs := hs.front 5 rfl
      simp only [List.cons_append, List.nil_append, List.eraseIdx_cons_zero, List.eraseIdx_cons_succ] at hs
      replace hs := hs.front 5 rfl
      simp only [List.cons_append, List.nil_append, List.eraseIdx_cons_zero, List.eraseIdx_cons_succ] at hs
      replace hs := hs.front 5 rfl
      simp only [List.cons_append, List.nil_append, List.eraseIdx_cons_zero, List.eraseIdx_cons_succ] at hs
      replace hs := hs.front 5 rfl
      simp only [List.cons_append, List.nil_append, List.eraseIdx_cons_zero, List.eraseIdx_cons_succ] at hs
      refine Ls_call Try.func27 nm27 rfl rfl (right3_c w w36 _ k hk3 pa pb qa qb sa sb ra rb hs hra hrb kd on pi Ai ni ci l hri hbs (by omega) hpi.2) rfl ?_
      rintro v41 w42 ⟨rfl, sa2, sb2, ra2, rb2, hs, hra2, hrb2⟩
      replace hs := hs.front 5 rfl
      simp only [List.cons_append, List.nil_append, List.eraseIdx_cons_zero, List.eraseIdx_cons_succ] at hs
      replace hs := hs.front 5 rfl
      simp only [List.cons_append, List.nil_append, List.eraseIdx_cons_zero, List.eraseIdx_cons_succ] at hs
      replace hH := Hold.of (Ls := [_, _]) hs
      refine Ls_nil (Jm_An hH ?_)
      refine An_take 11 rfl (by kernel_rfl) (by kernel_rfl) (by kernel_rfl) (fun _ _ _ h => h) hH (fun x hx => run_not rfl) rfl ?_
      refine An_done (by kernel_rfl) ?_
      refine Jm_seq ?_
      refine St_iff rfl ?_
      refine St_skip ?_
      refine Jm_block_normal (Jm_seq ?_)
      refine St_region ?_
      refine Ls_run (run_move rfl) rfl ?_
      refine Ls_run (run_add rfl rfl (w64 (by omega))) rfl ?_
      refine Ls_run (run_assign rfl) rfl ?_
      refine Ls_nil ?_
      replace hs := hs.front 1 rfl
      simp only [List.cons_append, List.nil_append, List.eraseIdx_cons_zero, List.eraseIdx_cons_succ] at hs
      replace hs := hs.front 1 rfl
      simp only [List.cons_append, List.nil_append, List.eraseIdx_cons_zero, List.eraseIdx_cons_succ] at hs
      replace hs := hs.front 5 rfl
      simp only [List.cons_append, List.nil_append, List.eraseIdx_cons_zero, List.eraseIdx_cons_succ] at hs
      replace hs := hs.front 5 rfl
      simp only [List.cons_append, List.nil_append, List.eraseIdx_cons_zero, List.eraseIdx_cons_succ] at hs
      replace hs := hs.front 5 rfl
      simp only [List.cons_append, List.nil_append, List.eraseIdx_cons_zero, List.eraseIdx_cons_succ] at hs
      replace hs := hs.front 5 rfl
      simp only [List.cons_append, List.nil_append, List.eraseIdx_cons_zero, List.eraseIdx_cons_succ] at hs
      refine Jm_round (i + 1, nn + (ni + 1), sa2, sb2, ra2, rb2) ?_ ?_ ?_
      · rw [hEn24]; exact (subE_cons rfl (subE_cons rfl (subE_cons rfl (subE_cons rfl (subE_cons rfl subE_nil)))))
      · skip
        rw [hIv25]
        exact ⟨hs, by omega, by omega, hra2, hrb2⟩
      · skip
        rw [hms26, hms26]
        omega
  · skip
    refine St_exit ?_
    refine Jm_then_exit (Jm_then_exit (Jm_block_same (Jm_seq ?_)))
    refine St_seq ?_
    refine St_seq ?_
    refine St_region ?_
    refine Ls_run (run_assign rfl) rfl ?_
    refine Ls_nil ?_
    refine Jm_seq ?_
    refine St_block ?_
    obtain ⟨En44, hEn44⟩ : ∃ F : Nat → Env, ∀ (q : Nat), F q = [(15, .pointer (some ⟨b19, 0, none⟩)), (16, .pointer (some ⟨b22, 0, none⟩)), (20, .int .i64 (q : Int))] := ⟨(fun (q : Nat) => [(15, .pointer (some ⟨b19, 0, none⟩)), (16, .pointer (some ⟨b22, 0, none⟩)), (20, .int .i64 (q : Int))]), fun _ => rfl⟩
    obtain ⟨Iv45, hIv45⟩ : ∃ F : Nat → World → Prop, ∀ (q : Nat) (wr2 : World), F q wr2 = (Sat w wr2 [DO 85 31 5 pa sa, DO 85 31 5 pb sb, RO 92 31 5 qa ra, RO 92 31 5 qb rb, Blk b19 [.pointer pa, .pointer pb, .pointer none] 51, Blk b22 [.pointer qa, .pointer qb, .pointer none] 52] ∧ q ≤ 3) := ⟨(fun (q : Nat) => fun (wr2 : World) => Sat w wr2 [DO 85 31 5 pa sa, DO 85 31 5 pb sb, RO 92 31 5 qa ra, RO 92 31 5 qb rb, Blk b19 [.pointer pa, .pointer pb, .pointer none] 51, Blk b22 [.pointer qa, .pointer qb, .pointer none] 52] ∧ q ≤ 3), fun _ _ => rfl⟩
    obtain ⟨ms46, hms46⟩ : ∃ F : Nat → Nat, ∀ (q : Nat), F q = (3 - q) := ⟨(fun (q : Nat) => 3 - q), fun _ => rfl⟩
    refine St_loop En44 Iv45 ms46 (0) ?_ ?_ ?_
    · skip
      rw [hIv45]
      exact ⟨hs, by omega⟩
    · rw [hEn44]; exact (subE_cons rfl (subE_cons rfl (subE_cons rfl subE_nil)))
    rintro q wr2 hI47
    rw [hIv45] at hI47
    obtain ⟨hs, hq⟩ := hI47
    refine St_eqE (hEn44 _) ?_
    refine St_seq ?_
    refine St_seq ?_
    refine St_region ?_
    refine Ls_run (run_move rfl) rfl ?_
    refine Ls_run (run_lss rfl rfl) rfl ?_
    refine Ls_nil ?_
    refine Jm_seq ?_
    refine St_ifP rfl (fun h48 => ?_) (fun h48 => ?_)
    · skip
      refine St_skip ?_
      refine Jm_seq ?_
      refine St_seq ?_
      refine St_block ?_
      refine St_seq ?_
      replace hs := hs.front 5 rfl
      simp only [List.cons_append, List.nil_append, List.eraseIdx_cons_zero, List.eraseIdx_cons_succ] at hs
      replace hs := hs.front 5 rfl
      simp only [List.cons_append, List.nil_append, List.eraseIdx_cons_zero, List.eraseIdx_cons_succ] at hs
      refine St_hold (Hold.of (Ls := [_, _]) hs) mixed ?_
      intro w49 q50
      replace hs := hs.quiet q50
      have hH := Hold.of (Ls := [_, _]) hs
      have hq3 : q < 3 := by omega
      refine An_take 0 rfl (by kernel_rfl) (by kernel_rfl) (by kernel_rfl) (fun _ _ _ h => h) hH (fun x hx => run_move rfl) rfl ?_
      refine An_take 1 rfl (by kernel_rfl) (by kernel_rfl) (by kernel_rfl) (fun _ _ _ h => h) hH (fun x hx => run_as (run_index_arr Try.underlying51 inf24 rfl rfl (by omega) (by omega)) (show _ = Value.pointer (some ⟨b19, q, none⟩) by simp)) rfl ?_
      refine An_take 2 rfl (by kernel_rfl) (by kernel_rfl) (by kernel_rfl) (fun _ _ _ h => h) hH (fun x hx => run_load sc24 rfl (hx.choose_spec.blk_at 0 rfl q (sel3_cell hq3 _ _ _))) rfl ?_
      refine An_take 4 rfl (by kernel_rfl) (by kernel_rfl) (by kernel_rfl) (fun _ _ _ h => h) hH (fun x hx => run_move rfl) rfl ?_
      refine An_take 5 rfl (by kernel_rfl) (by kernel_rfl) (by kernel_rfl) (fun _ _ _ h => h) hH (fun x hx => run_as (run_index_arr Try.underlying52 inf47 rfl rfl (by omega) (by omega)) (show _ = Value.pointer (some ⟨b22, q, none⟩) by simp)) rfl ?_
      refine An_take 6 rfl (by kernel_rfl) (by kernel_rfl) (by kernel_rfl) (fun _ _ _ h => h) hH (fun x hx => run_load sc47 rfl (hx.choose_spec.blk_at 1 rfl q (sel3_cell hq3 _ _ _))) rfl ?_
      refine An_only 3 (by kernel_rfl) rfl ?_
      replace hs := hs.front 3 rfl
      simp only [List.cons_append, List.nil_append, List.eraseIdx_cons_zero, List.eraseIdx_cons_succ] at hs
      replace hs := hs.front 3 rfl
      simp only [List.cons_append, List.nil_append, List.eraseIdx_cons_zero, List.eraseIdx_cons_succ] at hs
      refine Ls_call Try.func21 nm21 rfl rfl (Image3_c w w49 _ q hq3 pa pb sa sb hs hra.ok hrb.ok) rfl ?_
      rintro v51 w52 ⟨Ai, ci, vi, rfl, hvi, hs⟩
      replace hs := Sat.toKeep (F := fun w => Rd w Ai (sel3 q (obl sa) (obl sb) []).length ci 1 (El.val.flat vi) ∧ PartsK (El.int .u8) w vi (sel3 q (obl sa) (obl sb) [])) (fun B w q => ⟨q.rd_at 0 rfl, Sat.parts (pre := [_]) q hvi⟩) hs
      replace hs := hs.front 4 rfl
      simp only [List.cons_append, List.nil_append, List.eraseIdx_cons_zero, List.eraseIdx_cons_succ] at hs
      replace hs := hs.front 4 rfl
      simp only [List.cons_append, List.nil_append, List.eraseIdx_cons_zero, List.eraseIdx_cons_succ] at hs
      replace hH := Hold.of (Ls := [_, _]) hs
      refine Ls_nil (Jm_An hH ?_)
      refine An_only 7 (by kernel_rfl) rfl ?_
      replace hs := hs.front 6 rfl
      simp only [List.cons_append, List.nil_append, List.eraseIdx_cons_zero, List.eraseIdx_cons_succ] at hs
      replace hs := hs.front 6 rfl
      simp only [List.cons_append, List.nil_append, List.eraseIdx_cons_zero, List.eraseIdx_cons_succ] at hs
      refine Ls_call Try.func28 nm28 rfl rfl (rImage3_c w w52 _ q hq3 qa qb ra rb hs (by rw [← hra.bl]; exact hra.ok) (by rw [← hrb.bl]; exact hrb.ok)) rfl ?_
      rintro v53 w54 ⟨Aj, cj, vj, rfl, hvj, hs⟩
      replace hs := Sat.toKeep (F := fun w => Rd w Aj (sel3 q (orbl ra) (orbl rb) []).length cj 1 (El.val.flat vj) ∧ PartsK (El.int .u8) w vj (sel3 q (orbl ra) (orbl rb) [])) (fun B w q => ⟨q.rd_at 0 rfl, Sat.parts (pre := [_]) q hvj⟩) hs
      replace hs := hs.front 4 rfl
      simp only [List.cons_append, List.nil_append, List.eraseIdx_cons_zero, List.eraseIdx_cons_succ] at hs
      replace hs := hs.front 4 rfl
      simp only [List.cons_append, List.nil_append, List.eraseIdx_cons_zero, List.eraseIdx_cons_succ] at hs
      replace hH := Hold.of (Ls := [_, _]) hs
      refine Ls_nil (Jm_An hH ?_)
      refine An_only 8 (by kernel_rfl) rfl ?_
      have hX : sel3 q (obl sa) (obl sb) [] = sel3 q (orbl ra) (orbl rb) [] := by rw [hra.bl, hrb.bl]
      have hXb : ∀ x ∈ sel3 q (obl sa) (obl sb) [], IsBytes x := sel3_all (P := fun (l : List (List Int)) => ∀ x ∈ l, IsBytes x) (fun x hx => (hra.ok.1 x hx).1) (fun x hx => (hrb.ok.1 x hx).1) (fun x hx => absurd hx (by simp))
      have hXl : (sel3 q (obl sa) (obl sb) []).length ≤ 64 := sel3_all (P := fun (l : List (List Int)) => l.length ≤ 64) hra.ok.2 hrb.ok.2 (by simp)
      refine Ls_call Try.func20 nm20 rfl rfl (images_c w54 _ _ _ vi (sel3 q (obl sa) (obl sb) []) _ _ _ vj (sel3 q (orbl ra) (orbl rb) []) (hs.kept 5 rfl).1 (hs.kept 2 rfl).1 (hs.kept 5 rfl).2 (hs.kept 2 rfl).2 hXb (by rw [← hX]; exact hXb) (by omega)) rfl ?_
      rintro v55 w56 ⟨rfl, hsI⟩
      replace hs := hs.trans hsI
      simp only [List.nil_append] at hs
      rw [decide_eq_true hX]
      replace hs := hs.front 1 rfl
      simp only [List.cons_append, List.nil_append, List.eraseIdx_cons_zero, List.eraseIdx_cons_succ] at hs
      replace hs := hs.front 1 rfl
      simp only [List.cons_append, List.nil_append, List.eraseIdx_cons_zero, List.eraseIdx_cons_succ] at hs
      replace hH := Hold.of (Ls := [_, _]) hs
      refine Ls_nil (Jm_An hH ?_)
      refine An_take 9 rfl (by kernel_rfl) (by kernel_rfl) (by kernel_rfl) (fun _ _ _ h => h) hH (fun x hx => run_not rfl) rfl ?_
      refine An_done (by kernel_rfl) ?_
      refine Jm_seq ?_
      refine St_iff rfl ?_
      refine St_skip ?_
      refine Jm_block_normal (Jm_seq ?_)
      refine St_region ?_
      refine Ls_run (run_move rfl) rfl ?_
      refine Ls_run (run_add rfl rfl (w64 (by omega))) rfl ?_
      refine Ls_run (run_assign rfl) rfl ?_
      refine Ls_nil ?_
      replace hs := hs.erase 2
      simp only [List.cons_append, List.nil_append, List.eraseIdx_cons_zero, List.eraseIdx_cons_succ] at hs
      replace hs := hs.erase 4
      simp only [List.cons_append, List.nil_append, List.eraseIdx_cons_zero, List.eraseIdx_cons_succ] at hs
      replace hs := hs.front 1 rfl
      simp only [List.cons_append, List.nil_append, List.eraseIdx_cons_zero, List.eraseIdx_cons_succ] at hs
      replace hs := hs.front 1 rfl
      simp only [List.cons_append, List.nil_append, List.eraseIdx_cons_zero, List.eraseIdx_cons_succ] at hs
      replace hs := hs.front 3 rfl
      simp only [List.cons_append, List.nil_append, List.eraseIdx_cons_zero, List.eraseIdx_cons_succ] at hs
      replace hs := hs.front 3 rfl
      simp only [List.cons_append, List.nil_append, List.eraseIdx_cons_zero, List.eraseIdx_cons_succ] at hs
      replace hs := hs.front 5 rfl
      simp only [List.cons_append, List.nil_append, List.eraseIdx_cons_zero, List.eraseIdx_cons_succ] at hs
      replace hs := hs.front 5 rfl
      simp only [List.cons_append, List.nil_append, List.eraseIdx_cons_zero, List.eraseIdx_cons_succ] at hs
      refine Jm_round (q + 1) ?_ ?_ ?_
      · rw [hEn44]; exact (subE_cons rfl (subE_cons rfl (subE_cons rfl subE_nil)))
      · skip
        rw [hIv45]
        exact ⟨hs, by omega⟩
      · skip
        rw [hms46, hms46]
        omega
    · skip
      refine St_exit ?_
      refine Jm_then_exit (Jm_then_exit (Jm_block_same (Jm_seq ?_)))
      refine St_seq ?_
      refine St_region ?_
      refine Ls_run (run_assign rfl) rfl ?_
      refine Ls_nil ?_
      refine Jm_seq ?_
      refine St_ret ?_
      refine Jm_ret1 rfl rfl ?_
      exact ⟨_, rfl, rfl, hs.below⟩
end Go.Proofs.Ytpmkedgennnekaa.Lg
