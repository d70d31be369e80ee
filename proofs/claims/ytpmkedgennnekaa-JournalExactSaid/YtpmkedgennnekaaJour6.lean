/-
  The law JournalMemory, walked. By program (gen/jour6.py).
-/
import Derived.Test.YtpmkedgennnekaaJour5
set_option linter.unusedVariables false
set_option linter.unusedSimpArgs false
namespace Go.Proofs.Ytpmkedgennnekaa.Lg
open Go Go.RowKit Go.Proofs.Ytpmkedgennnekaa.WirePure
/-- A turn. -/
def KTurn : El (Option Addr × Nat × Nat × Int × Bool × Bool × Int) := ⟨5, fun o => [.slice o.1 o.2.1 o.2.2.1, .int .i64 o.2.2.2.1, .bool o.2.2.2.2.1, .bool o.2.2.2.2.2.1, .int .i64 o.2.2.2.2.2.2], (none, 0, 0, 0, false, false, 0), fun _ => rfl⟩
def TurnOk (w : World) (x : Option Addr × Nat × Nat × Int × Bool × Bool × Int) : Prop := x.2.1 ≤ 140737488351232 ∧ ∃ l, Rd w x.1 x.2.1 x.2.2.1 1 (KI.flat l)
theorem dK_pre {w : World} {A : Option Addr} {m c : Nat} {l1 l2 : List Int} (h : Rd w A m c 1 (KI.flat (l1 ++ l2))) (n : Nat) (hn : l1.length = n) (hm : n ≤ m) : Rd w A n c 1 (KI.flat l1) := by
  have := h.take n hm
  rw [El.flat_append, List.take_left' (by rw [El.flat_length, hn]; rfl)] at this
  exact this
theorem app_at (l : List Int) (x : Int) : (l ++ [x]).getD l.length 0 = x := by
  rw [List.getD_eq_getElem?_getD, List.getElem?_append_right (Nat.le_refl _)]; simp
theorem app_at2 {l : List Int} {x : Int} {i : Nat} (h : i = l.length) : (l ++ [x]).getD i KI.dflt = x := by subst h; exact app_at l x
set_option maxRecDepth 100000 in
set_option maxHeartbeats 1000000 in
theorem JournalMemory_c (w : World) (parts : Int) (A2 : Option Addr) (n2 c2 : Nat) (pl : List (Option Addr × Nat × Nat × Int × Bool × Bool × Int)) (hr : Rd w A2 n2 c2 5 (KTurn.flat pl)) (hput : ∀ x ∈ pl, TurnOk w x) (hn2 : n2 ≤ 9223372036854775807) :
    Calls Try.prog 8 [.int .i64 parts, .slice A2 n2 c2].toArray w (Ret (fun v' w' => v' = .bool true ∧ Below w.heap.size w w')) := by
  have hs := Sat.start w
  have hl : pl.length = n2 := by have := hr.len; rw [El.flat_length] at this; exact Nat.eq_of_mul_eq_mul_right (by decide) this
  obtain ⟨u0, hu0, hu02⟩ := u64_nat parts
  obtain ⟨q0, hq0⟩ : ∃ q, q = u0 % 4 := ⟨_, rfl⟩
  obtain ⟨pp, hpp⟩ : ∃ q, q = q0 + 1 := ⟨_, rfl⟩
  have hp1 : 1 ≤ pp := by omega
  have hp4 : pp ≤ 4 := by omega
  refine Calls_body Try.func8 rfl rfl rfl (envE_cons (i := 0) (v := .int .i64 parts) rfl (envE_cons (i := 1) (v := .slice A2 n2 c2) rfl envE_nil)) ?_
  refine St_seq ?_
  refine St_region ?_
  refine Ls_run (run_assign rfl) rfl ?_
  refine Ls_nil ?_
  refine Jm_seq ?_
  refine St_seq ?_
  refine St_seq ?_
  refine St_region ?_
  refine Ls_call Try.func31 nm31 rfl rfl (awake18_c w) rfl ?_
  rintro v1 w2 ⟨rfl, hsA⟩
  replace hs := hs.trans hsA
  simp only [List.nil_append] at hs
  refine Ls_run (run_not rfl) rfl ?_
  refine Ls_nil ?_
  refine Jm_seq ?_
  refine St_iff rfl ?_
  refine St_skip ?_
  refine Jm_seq ?_
  refine St_seq ?_
  refine St_region ?_
  refine Ls_run (run_move rfl) rfl ?_
  refine Ls_run (run_conv_int Try.underlying30 us3 rfl (show _ = (u0 : Int) by rw [← hu0])) rfl ?_
  refine Ls_run (run_rem rfl rfl (by decide) (show _ = (q0 : Int) by rw [hq0]; exact rem_nn u0 4)) rfl ?_
  refine Ls_run (run_conv_int Try.underlying3 us30 rfl (w64 (by omega))) rfl ?_
  refine Ls_run (run_add rfl rfl (show _ = (pp : Int) by rw [w64 (by omega)]; omega)) rfl ?_
  refine Ls_run (run_assign rfl) rfl ?_
  refine Ls_nil ?_
  refine Jm_seq ?_
  refine St_seq ?_
  refine St_region ?_
  refine Ls_call Try.func13 nm13 rfl rfl (New_c w2 2 (by decide) (by decide)) rfl ?_
  rintro v4 w5 ⟨b0, rfl, hsD⟩
  replace hs := hs.trans hsD
  simp only [List.cons_append, List.nil_append] at hs
  refine Ls_run (run_move rfl) rfl ?_
  refine Ls_run (run_extract rfl rfl) rfl ?_
  refine Ls_run (run_extract rfl rfl) rfl ?_
  refine Ls_run (run_assign rfl) rfl ?_
  refine Ls_run (run_assign rfl) rfl ?_
  refine Ls_nil ?_
  refine Jm_seq ?_
  refine St_seq ?_
  refine St_region ?_
  refine Ls_run (run_move rfl) rfl ?_
  refine Ls_run (run_move rfl) rfl ?_
  obtain ⟨d0, hf0, hdg0, hbl0, hwr0⟩ := jformat_new (m := pp) hp1 hp4
  refine Ls_call Try.func32 nm32 rfl rfl (Format_g w w5 _ b0 (dnew 2) hs (fun x hx => dg_new.2.2.2.2 x hx) pp hp1 hp4) rfl ?_
  rintro v6 w7 ⟨pj, rfl, hs⟩
  simp only [hf0] at hs ⊢
  obtain ⟨bj, hpj, h9⟩ := hs.joSome
  subst hpj
  replace hs := h9
  have hjo0 := jnew_ok hp1 hp4
  refine Ls_run (run_move rfl) rfl ?_
  refine Ls_run (run_extract rfl rfl) rfl ?_
  refine Ls_run (run_extract rfl rfl) rfl ?_
  refine Ls_run (run_assign rfl) rfl ?_
  refine Ls_run (run_assign rfl) rfl ?_
  refine Ls_nil ?_
  refine Jm_seq ?_
  refine St_seq ?_
  refine St_seq ?_
  refine St_region ?_
  refine Ls_run (run_move rfl) rfl ?_
  refine Ls_run (run_asB (c := false) (run_neq rfl rfl) (by decide)) rfl ?_
  refine Ls_run (run_move rfl) rfl ?_
  refine Ls_on rfl rfl ?_
  refine Ls_run (run_move rfl) rfl ?_
  refine Ls_on rfl rfl ?_
  refine Ls_run (run_asB (c := false) (run_eql_ptr_nil Try.underlying59 rfl rfl) rfl) rfl ?_
  refine Ls_run (run_pick_f rfl rfl) rfl ?_
  refine Ls_nil ?_
  refine Jm_seq ?_
  refine St_iff rfl ?_
  refine St_skip ?_
  refine Jm_seq ?_
  refine St_seq ?_
  refine St_region ?_
  refine Ls_run (run_move rfl) rfl ?_
  refine Ls_call Try.func33 nm33 rfl rfl (Note_c w w7 _ bj _ (jnew pp) hs (by simp [jnew]; omega)) rfl ?_
  rintro v9 w10 ⟨Ap0, cp0, Ac0, cc0, rfl, hs⟩
  refine Ls_alloc hs inf66 rfl ?_
  intro b12 w11 hs
  refine Ls_storeAgg hs inf66 rfl rfl rfl rfl (by simp [Value.oneCell', Value.cells, jcells]) ?_
  intro w13 hs
  refine Ls_nil ?_
  refine Jm_seq ?_
  refine St_seq ?_
  refine St_seq ?_
  refine St_region ?_
  refine Ls_run (run_assign rfl) rfl ?_
  refine Ls_nil ?_
  refine Jm_seq ?_
  refine St_block ?_
  obtain ⟨En14, hEn14⟩ : ∃ F : Nat → Env, ∀ (i : Nat), F i = [(1, .slice A2 n2 c2), (5, .int .i64 (pp : Int)), (6, .pointer (some ⟨b0, 0, none⟩)), (8, .pointer (some ⟨bj, 0, none⟩)), (10, .pointer (some ⟨b12, 0, none⟩)), (11, .int .i64 (i : Int))] := ⟨(fun (i : Nat) => [(1, .slice A2 n2 c2), (5, .int .i64 (pp : Int)), (6, .pointer (some ⟨b0, 0, none⟩)), (8, .pointer (some ⟨bj, 0, none⟩)), (10, .pointer (some ⟨b12, 0, none⟩)), (11, .int .i64 (i : Int))]), fun _ => rfl⟩
  obtain ⟨Iv15, hIv15⟩ : ∃ F : Nat → World → Prop, ∀ (i : Nat) (wr : World), F i wr = (∃ nn Ap cp Ac cc sl d, Sat w wr [Blk b12 [.int .i64 nn.batch, .slice Ap nn.prev.length cp, .slice Ac nn.cur.length cc, .int .i64 nn.att] 66, Own 3 1 (.slice Ap nn.prev.length cp) nn.prev.length (KI.flat nn.prev), Own 3 1 (.slice Ac nn.cur.length cc) nn.cur.length (KI.flat nn.cur), JA 98 3 bj (some ⟨b0, 0, none⟩) ⟨(pp : Int), nn, ((i : Int) + 1), sl, false⟩, DiskA 85 31 5 b0 d] ∧ i ≤ n2 ∧ i ≤ 60 ∧ DG d ∧ JOk ⟨(pp : Int), nn, ((i : Int) + 1), sl, false⟩ ∧ nn.att ≤ 3 * i ∧ nn.batch ≤ i) := ⟨(fun (i : Nat) => fun (wr : World) => ∃ nn Ap cp Ac cc sl d, Sat w wr [Blk b12 [.int .i64 nn.batch, .slice Ap nn.prev.length cp, .slice Ac nn.cur.length cc, .int .i64 nn.att] 66, Own 3 1 (.slice Ap nn.prev.length cp) nn.prev.length (KI.flat nn.prev), Own 3 1 (.slice Ac nn.cur.length cc) nn.cur.length (KI.flat nn.cur), JA 98 3 bj (some ⟨b0, 0, none⟩) ⟨(pp : Int), nn, ((i : Int) + 1), sl, false⟩, DiskA 85 31 5 b0 d] ∧ i ≤ n2 ∧ i ≤ 60 ∧ DG d ∧ JOk ⟨(pp : Int), nn, ((i : Int) + 1), sl, false⟩ ∧ nn.att ≤ 3 * i ∧ nn.batch ≤ i), fun _ _ => rfl⟩
  obtain ⟨ms16, hms16⟩ : ∃ F : Nat → Nat, ∀ (i : Nat), F i = (n2 - i) := ⟨(fun (i : Nat) => n2 - i), fun _ => rfl⟩
  refine St_loop En14 Iv15 ms16 (0) ?_ ?_ ?_
  · skip
    rw [hIv15]
    exact ⟨_, _, _, _, _, _, _, hs, by omega, by omega, hdg0, hjo0, by simp [jnew], by simp [jnew]⟩
  · rw [hEn14]; exact (subE_cons rfl (subE_cons rfl (subE_cons rfl (subE_cons rfl (subE_cons rfl (subE_cons rfl subE_nil))))))
  rintro i wr hI17
  rw [hIv15] at hI17
  obtain ⟨nn, Ap, cp, Ac, cc, sl, d, hs, hi, hi60, hdg, hjo, hat, hbt⟩ := hI17
  refine St_eqE (hEn14 _) ?_
  refine St_seq ?_
  refine St_seq ?_
  refine St_region ?_
  refine Ls_run (run_move rfl) rfl ?_
  refine Ls_run (run_move rfl) rfl ?_
  refine Ls_run (run_len Try.underlying58 rfl) rfl ?_
  refine Ls_run (run_lss rfl rfl) rfl ?_
  refine Ls_run (run_move rfl) rfl ?_
  refine Ls_partP (t := 46) rfl (fun h18 => ?_) (fun h18 => ?_)
  · skip
    refine Ls_on rfl rfl ?_
    refine Ls_run (run_move rfl) rfl ?_
    refine Ls_on rfl rfl ?_
    refine Ls_run (run_lss rfl rfl) rfl ?_
    refine Ls_run (run_pick_t rfl rfl) rfl ?_
    refine Ls_nil ?_
    refine Jm_seq ?_
    refine St_ifP rfl (fun h19 => ?_) (fun h19 => ?_)
    · skip
      refine St_skip ?_
      refine Jm_seq ?_
      refine St_seq ?_
      refine St_block ?_
      refine St_seq ?_
      refine St_holdC 6 (Hold.of (Ls := [_]) hs) mixed ?_
      intro w20 q21
      replace hs := hs.quiet q21
      have hH := Hold.of (Ls := [_]) hs
      obtain ⟨⟨Ao, no, co, more, same, cut, bad⟩, ho⟩ : ∃ o, pl.getD i (none, 0, 0, 0, false, false, 0) = o := ⟨_, rfl⟩
      have hmem : (Ao, no, co, more, same, cut, bad) ∈ pl := by rw [← ho]; exact getElem_mem3 (by omega)
      obtain ⟨hno, ol, hro⟩ := hput _ hmem
      simp only at hno hro
      have hlj := noteOk_len hjo.1
      replace hlj : (nn.prev.length : Int) = (pp : Int) ∧ (nn.cur.length : Int) = (pp : Int) := hlj
      refine AnC_take 0 [6, 0] rfl (by kernel_rfl) (by kernel_rfl) (by kernel_rfl) (by kernel_rfl) (fun _ _ _ h => h) hH (fun x hx => run_load_agg agg66 inf66 rfl rfl (hx.choose_spec.blk_cells 0 rfl 0 4)) rfl ?_
      refine AnC_takeP 1 (by kernel_rfl) rfl (by kernel_rfl) (by kernel_rfl) (by kernel_rfl) (fun _ _ _ h => h) (fun _ => hH) (fun x => run_move rfl) rfl ?_
      refine AnC_takeP 2 (by kernel_rfl) rfl (by kernel_rfl) (by kernel_rfl) (by kernel_rfl) (fun _ _ _ h => h) (fun _ => hH) (fun x => run_move rfl) rfl ?_
      refine AnC_index 3 [6, 3] (KTurn) rfl (by kernel_rfl) (by kernel_rfl) (by kernel_rfl) (by kernel_rfl) (fun _ _ _ _ h => h) hH (fun x hx => (hr.inB hx.choose_spec)) Try.underlying58 inf70 rfl rfl (by omega) (by omega) ho rfl ?_
      intro b22 o23 hc24
      refine AnC_take 4 [6, 4] rfl (by kernel_rfl) (by kernel_rfl) (by kernel_rfl) (by kernel_rfl) (fun _ _ _ h => h) hH (fun x hx => run_as (run_load_agg agg70 inf70 rfl rfl (hc24 x hx)) (show _ = Value.agg #[.slice Ao no co, .int .i64 more, .bool same, .bool cut, .int .i64 bad] from rfl)) rfl ?_
      refine AnC_only 5 (by kernel_rfl) rfl ?_
      replace hs := hs.front 2 rfl
      simp only [List.cons_append, List.nil_append, List.eraseIdx_cons_zero, List.eraseIdx_cons_succ] at hs
      replace hs := hs.front 2 rfl
      simp only [List.cons_append, List.nil_append, List.eraseIdx_cons_zero, List.eraseIdx_cons_succ] at hs
      refine Ls_call Try.func34 nm34 rfl rfl (next_c w w20 _ nn Ap cp Ac cc hs (pp : Int) hjo.1 (by omega) (by omega) (by omega) Ao no co ol more same cut bad hro (by omega)) rfl ?_
      rintro v25 w26 ⟨n1, Aq, cq, Ar, cr, rfl, hnx, hs⟩
      have hl1 := noteOk_len hnx.1
      replace hs := hs.front 2 rfl
      simp only [List.cons_append, List.nil_append, List.eraseIdx_cons_zero, List.eraseIdx_cons_succ] at hs
      replace hH := Hold.of (Ls := [_]) hs
      refine Ls_nil (Jm_AnC (fun _ => hH) ?_)
      refine AnC_only 6 (by kernel_rfl) rfl ?_
      refine Ls_storeAgg hs inf66 rfl rfl rfl rfl (by simp [Value.oneCell', Value.cells, jcells]) ?_
      intro w27 hs
      refine Ls_nil (Jm_AnC_closed (by kernel_rfl) ?_)
      refine AnC_done (by kernel_rfl) ?_
      refine Jm_seq ?_
      refine St_seq ?_
      refine St_region ?_
      refine Ls_run (run_load_agg agg66 inf66 rfl rfl (hs.blk_cells 0 rfl 0 4)) rfl ?_
      refine Ls_alloc hs inf66 rfl ?_
      intro b29 w28 hs
      refine Ls_storeAgg hs inf66 rfl rfl rfl rfl (by simp [Value.oneCell', Value.cells, jcells]) ?_
      intro w30 hs
      refine Ls_nil ?_
      refine Jm_seq ?_
      refine St_seq ?_
      refine St_region ?_
      refine Ls_literal [] hs Try.underlying62 inf3 rfl rfl rfl rfl rfl rfl ?_
      intro b31 w32 hs
      simp only [List.flatMap_cons, List.flatMap_nil, Value.cells, List.cons_append, List.nil_append] at hs
      replace hs := Sat.own_block hs 1 0 rfl (by decide)
      refine Ls_run (run_as (run_field Try.underlying66 rfl inf64 (by decide) rfl) (show _ = Value.pointer (some ⟨b12, 0, none⟩) from rfl)) rfl ?_
      refine Ls_run (run_as (run_field Try.underlying64 rfl inf62 (by decide) rfl) (show _ = Value.pointer (some ⟨b12, 1, none⟩) from rfl)) rfl ?_
      refine Ls_run (run_load sc62 rfl (hs.blk_at 2 rfl 1 rfl)) rfl ?_
      refine Ls_append hs Try.underlying62 inf3 rfl (by decide) (by decide) rfl rfl (hs.rd_at 3 rfl) (flatKI_one _) (by omega) rfl ?_
      intro A33 c34 w35 hs
      refine Ls_literal [_] hs Try.underlying62 inf3 rfl rfl rfl rfl rfl rfl ?_
      intro b36 w37 hs
      simp only [List.flatMap_cons, List.flatMap_nil, Value.cells, List.cons_append, List.nil_append] at hs
      replace hs := hs.front 1 rfl
      simp only [List.cons_append, List.nil_append, List.eraseIdx_cons_zero, List.eraseIdx_cons_succ] at hs
      refine Ls_append hs Try.underlying62 inf3 rfl (by decide) (by decide) rfl rfl (rd_block (hs.is_at 1 rfl).2 1 1 rfl) (by simp [Value.oneCell']) (by omega) rfl ?_
      intro A38 c39 w40 hs
      replace hs := hs.erase 1
      simp only [List.cons_append, List.nil_append, List.eraseIdx_cons_zero, List.eraseIdx_cons_succ] at hs
      simp only [Nat.zero_add, List.nil_append] at hs ⊢
      rw [show KI.flat n1.prev ++ [Value.int .i64 71] = KI.flat (n1.prev ++ [71]) from flatKI_app _ [71]] at hs
      obtain ⟨Amp, hAmp⟩ : ∃ q, q = A38 := ⟨_, rfl⟩
      obtain ⟨cmp, hcmp⟩ : ∃ q, q = c39 := ⟨_, rfl⟩
      rw [← hAmp, ← hcmp] at hs ⊢
      have hcapmp := (hs.rd_at 0 rfl).cap
      refine Ls_run (run_move rfl) rfl ?_
      refine Ls_run (run_as (run_slice_h Try.underlying62 inf3 rfl rfl (by omega) (by omega)) (show _ = Value.slice Amp (n1.prev.length) cmp by have e : ((pp : Int)).toNat = n1.prev.length := (by omega); rw [e])) rfl ?_
      refine Ls_run (run_as (run_field Try.underlying66 rfl inf64 (by decide) rfl) (show _ = Value.pointer (some ⟨b29, 0, none⟩) from rfl)) rfl ?_
      refine Ls_run (run_as (run_field Try.underlying64 rfl inf62 (by decide) rfl) (show _ = Value.pointer (some ⟨b29, 1, none⟩) from rfl)) rfl ?_
      replace hs := hs.front 1 rfl
      simp only [List.cons_append, List.nil_append, List.eraseIdx_cons_zero, List.eraseIdx_cons_succ] at hs
      refine Ls_store hs inf62 rfl rfl rfl rfl ?_
      intro w41 hs
      try simp only [List.set_cons_zero, List.set_cons_succ] at hs
      refine Ls_nil ?_
      refine Jm_seq ?_
      refine St_seq ?_
      refine St_region ?_
      refine Ls_literal [] hs Try.underlying62 inf3 rfl rfl rfl rfl rfl rfl ?_
      intro b42 w43 hs
      simp only [List.flatMap_cons, List.flatMap_nil, Value.cells, List.cons_append, List.nil_append] at hs
      replace hs := Sat.own_block hs 1 0 rfl (by decide)
      refine Ls_run (run_as (run_field Try.underlying66 rfl inf64 (by decide) rfl) (show _ = Value.pointer (some ⟨b12, 0, none⟩) from rfl)) rfl ?_
      refine Ls_run (run_as (run_field Try.underlying64 rfl inf62 (by decide) rfl) (show _ = Value.pointer (some ⟨b12, 2, none⟩) from rfl)) rfl ?_
      refine Ls_run (run_load sc62 rfl (hs.blk_at 3 rfl 2 rfl)) rfl ?_
      refine Ls_append hs Try.underlying62 inf3 rfl (by decide) (by decide) rfl rfl (hs.rd_at 5 rfl) (flatKI_one _) (by omega) rfl ?_
      intro A44 c45 w46 hs
      refine Ls_literal [_] hs Try.underlying62 inf3 rfl rfl rfl rfl rfl rfl ?_
      intro b47 w48 hs
      simp only [List.flatMap_cons, List.flatMap_nil, Value.cells, List.cons_append, List.nil_append] at hs
      replace hs := hs.front 1 rfl
      simp only [List.cons_append, List.nil_append, List.eraseIdx_cons_zero, List.eraseIdx_cons_succ] at hs
      refine Ls_append hs Try.underlying62 inf3 rfl (by decide) (by decide) rfl rfl (rd_block (hs.is_at 1 rfl).2 1 1 rfl) (by simp [Value.oneCell']) (by omega) rfl ?_
      intro A49 c50 w51 hs
      replace hs := hs.erase 1
      simp only [List.cons_append, List.nil_append, List.eraseIdx_cons_zero, List.eraseIdx_cons_succ] at hs
      simp only [Nat.zero_add, List.nil_append] at hs ⊢
      rw [show KI.flat n1.cur ++ [Value.int .i64 72] = KI.flat (n1.cur ++ [72]) from flatKI_app _ [72]] at hs
      obtain ⟨Amc, hAmc⟩ : ∃ q, q = A49 := ⟨_, rfl⟩
      obtain ⟨cmc, hcmc⟩ : ∃ q, q = c50 := ⟨_, rfl⟩
      rw [← hAmc, ← hcmc] at hs ⊢
      have hcapmc := (hs.rd_at 0 rfl).cap
      refine Ls_run (run_move rfl) rfl ?_
      refine Ls_run (run_as (run_slice_h Try.underlying62 inf3 rfl rfl (by omega) (by omega)) (show _ = Value.slice Amc (n1.cur.length) cmc by have e : ((pp : Int)).toNat = n1.cur.length := (by omega); rw [e])) rfl ?_
      refine Ls_run (run_as (run_field Try.underlying66 rfl inf64 (by decide) rfl) (show _ = Value.pointer (some ⟨b29, 0, none⟩) from rfl)) rfl ?_
      refine Ls_run (run_as (run_field Try.underlying64 rfl inf62 (by decide) rfl) (show _ = Value.pointer (some ⟨b29, 2, none⟩) from rfl)) rfl ?_
      replace hs := hs.front 1 rfl
      simp only [List.cons_append, List.nil_append, List.eraseIdx_cons_zero, List.eraseIdx_cons_succ] at hs
      refine Ls_store hs inf62 rfl rfl rfl rfl ?_
      intro w52 hs
      try simp only [List.set_cons_zero, List.set_cons_succ] at hs
      refine Ls_nil ?_
      refine Jm_seq ?_
      refine St_seq ?_
      refine St_seq ?_
      refine St_region ?_
      refine Ls_run (run_move rfl) rfl ?_
      refine Ls_run (run_load_agg agg66 inf66 rfl rfl (hs.blk_cells 0 rfl 0 4)) rfl ?_
      replace hs := hs.front 7 rfl
      simp only [List.cons_append, List.nil_append, List.eraseIdx_cons_zero, List.eraseIdx_cons_succ] at hs
      replace hs := hs.front 7 rfl
      simp only [List.cons_append, List.nil_append, List.eraseIdx_cons_zero, List.eraseIdx_cons_succ] at hs
      obtain ⟨d1, hv1, hdg1, hbl1, hwr1, hjo1⟩ := jsave_ok (n := n1) hjo rfl hdg hnx.1 hnx.2.1 (by show (i : Int) + 1 < _; omega)
      replace hv1 : jsave ⟨(pp : Int), nn, ((i : Int) + 1), sl, false⟩ d n1 = (0, ⟨(pp : Int), n1, ((i : Int) + 1 + 1), (1 - sl), false⟩, d1) := hv1
      replace hjo1 : JOk ⟨(pp : Int), n1, ((i : Int) + 1 + 1), (1 - sl), false⟩ := hjo1
      refine Ls_call Try.func35 nm35 rfl rfl (Save_c w w52 _ bj b0 ⟨(pp : Int), nn, ((i : Int) + 1), sl, false⟩ d hs hjo hdg.2.2.2.2 n1 _ _ _ _ (fun w' X q => dK_pre (q.rd_at 3 rfl) _ rfl (by omega)) (fun w' X q => dK_pre (q.rd_at 2 rfl) _ rfl (by omega)) (by omega)) rfl ?_
      rintro v53 w54 ⟨rfl, hs⟩
      simp only [hv1] at hs ⊢
      refine Ls_run (run_asB (c := false) (run_neq rfl rfl) (by decide)) rfl ?_
      refine Ls_run (run_move rfl) rfl ?_
      refine Ls_on rfl rfl ?_
      refine Ls_run (run_load_agg agg66 inf66 rfl rfl (hs.blk_cells 2 rfl 0 4)) rfl ?_
      refine Ls_on rfl rfl ?_
      refine Ls_run (run_load_agg agg66 inf66 rfl rfl (hs.blk_cells 5 rfl 0 4)) rfl ?_
      refine Ls_on rfl rfl ?_
      try simp only [List.nil_append, List.cons_append] at hs
      refine Ls_call Try.func36 nm36 rfl rfl (notes_c w54 n1 _ _ _ _ _ _ _ _ (dK_pre (hs.rd_at 4 rfl) _ rfl (by omega)) (dK_pre (hs.rd_at 3 rfl) _ rfl (by omega)) (hs.rd_at 6 rfl) (hs.rd_at 7 rfl) (by omega)) rfl ?_
      rintro v55 w56 ⟨rfl, hsI⟩
      replace hs := hs.trans hsI
      simp only [List.nil_append, List.cons_append] at hs
      refine Ls_on rfl rfl ?_
      refine Ls_run (run_not rfl) rfl ?_
      refine Ls_run (run_pick_f rfl rfl) rfl ?_
      refine Ls_run (run_move rfl) rfl ?_
      refine Ls_on rfl rfl ?_
      refine Ls_run (run_as (run_field Try.underlying66 rfl inf64 (by decide) rfl) (show _ = Value.pointer (some ⟨b29, 0, none⟩) from rfl)) rfl ?_
      refine Ls_on rfl rfl ?_
      refine Ls_run (run_as (run_field Try.underlying64 rfl inf62 (by decide) rfl) (show _ = Value.pointer (some ⟨b29, 1, none⟩) from rfl)) rfl ?_
      refine Ls_on rfl rfl ?_
      refine Ls_run (run_load sc62 rfl (hs.blk_at 2 rfl 1 rfl)) rfl ?_
      refine Ls_on rfl rfl ?_
      refine Ls_run (run_move rfl) rfl ?_
      refine Ls_on rfl rfl ?_
      refine Ls_run (run_add rfl rfl (w64 (by omega))) rfl ?_
      refine Ls_on rfl rfl ?_
      refine Ls_run (run_as (run_slice_h Try.underlying62 inf3 rfl rfl (by omega) (by omega)) (show _ = Value.slice Amp (n1.prev.length + 1) cmp by have e : ((pp : Int) + 1).toNat = n1.prev.length + 1 := (by omega); rw [e])) rfl ?_
      refine Ls_on rfl rfl ?_
      refine Ls_run (run_move rfl) rfl ?_
      refine Ls_on rfl rfl ?_
      refine Ls_index (KI) (hs.rd_at 4 rfl) Try.underlying62 inf3 rfl rfl (by omega) (by omega) (app_at2 (by omega)) rfl ?_
      intro b57 o58 hc59
      refine Ls_on rfl rfl ?_
      refine Ls_run (run_load sc3 rfl (hc59 0 _ rfl)) rfl ?_
      refine Ls_on rfl rfl ?_
      refine Ls_run (run_asB (c := false) (run_neq rfl rfl) (by decide)) rfl ?_
      refine Ls_run (run_pick_f rfl rfl) rfl ?_
      refine Ls_run (run_move rfl) rfl ?_
      refine Ls_on rfl rfl ?_
      refine Ls_run (run_as (run_field Try.underlying66 rfl inf64 (by decide) rfl) (show _ = Value.pointer (some ⟨b29, 0, none⟩) from rfl)) rfl ?_
      refine Ls_on rfl rfl ?_
      refine Ls_run (run_as (run_field Try.underlying64 rfl inf62 (by decide) rfl) (show _ = Value.pointer (some ⟨b29, 2, none⟩) from rfl)) rfl ?_
      refine Ls_on rfl rfl ?_
      refine Ls_run (run_load sc62 rfl (hs.blk_at 2 rfl 2 rfl)) rfl ?_
      refine Ls_on rfl rfl ?_
      refine Ls_run (run_move rfl) rfl ?_
      refine Ls_on rfl rfl ?_
      refine Ls_run (run_add rfl rfl (w64 (by omega))) rfl ?_
      refine Ls_on rfl rfl ?_
      refine Ls_run (run_as (run_slice_h Try.underlying62 inf3 rfl rfl (by omega) (by omega)) (show _ = Value.slice Amc (n1.cur.length + 1) cmc by have e : ((pp : Int) + 1).toNat = n1.cur.length + 1 := (by omega); rw [e])) rfl ?_
      refine Ls_on rfl rfl ?_
      refine Ls_run (run_move rfl) rfl ?_
      refine Ls_on rfl rfl ?_
      refine Ls_index (KI) (hs.rd_at 3 rfl) Try.underlying62 inf3 rfl rfl (by omega) (by omega) (app_at2 (by omega)) rfl ?_
      intro b60 o61 hc62
      refine Ls_on rfl rfl ?_
      refine Ls_run (run_load sc3 rfl (hc62 0 _ rfl)) rfl ?_
      refine Ls_on rfl rfl ?_
      refine Ls_run (run_asB (c := false) (run_neq rfl rfl) (by decide)) rfl ?_
      refine Ls_run (run_pick_f rfl rfl) rfl ?_
      refine Ls_nil ?_
      refine Jm_seq ?_
      refine St_iff rfl ?_
      refine St_skip ?_
      refine Jm_seq ?_
      refine St_seq ?_
      refine St_seq ?_
      refine St_region ?_
      refine Ls_run (run_assign rfl) rfl ?_
      refine Ls_nil ?_
      refine Jm_seq ?_
      refine St_block ?_
      replace hs := hs.front 1 rfl
      simp only [List.cons_append, List.nil_append, List.eraseIdx_cons_zero, List.eraseIdx_cons_succ] at hs
      replace hs := hs.front 1 rfl
      simp only [List.cons_append, List.nil_append, List.eraseIdx_cons_zero, List.eraseIdx_cons_succ] at hs
      replace hs := hs.front 7 rfl
      simp only [List.cons_append, List.nil_append, List.eraseIdx_cons_zero, List.eraseIdx_cons_succ] at hs
      replace hs := hs.front 7 rfl
      simp only [List.cons_append, List.nil_append, List.eraseIdx_cons_zero, List.eraseIdx_cons_succ] at hs
      replace hs := hs.front 7 rfl
      simp only [List.cons_append, List.nil_append, List.eraseIdx_cons_zero, List.eraseIdx_cons_succ] at hs
      replace hs := hs.front 6 rfl
      simp only [List.cons_append, List.nil_append, List.eraseIdx_cons_zero, List.eraseIdx_cons_succ] at hs
      replace hs := hs.front 7 rfl
      simp only [List.cons_append, List.nil_append, List.eraseIdx_cons_zero, List.eraseIdx_cons_succ] at hs
      replace hs := hs.front 7 rfl
      simp only [List.cons_append, List.nil_append, List.eraseIdx_cons_zero, List.eraseIdx_cons_succ] at hs
      obtain ⟨En64, hEn64⟩ : ∃ F : Nat → Env, ∀ (k : Nat), F k = [(1, .slice A2 n2 c2), (5, .int .i64 (pp : Int)), (6, .pointer (some ⟨b0, 0, none⟩)), (8, .pointer (some ⟨bj, 0, none⟩)), (10, .pointer (some ⟨b12, 0, none⟩)), (11, .int .i64 (i : Int)), (12, .pointer (some ⟨b29, 0, none⟩)), (13, .int .i64 (k : Int))] := ⟨(fun (k : Nat) => [(1, .slice A2 n2 c2), (5, .int .i64 (pp : Int)), (6, .pointer (some ⟨b0, 0, none⟩)), (8, .pointer (some ⟨bj, 0, none⟩)), (10, .pointer (some ⟨b12, 0, none⟩)), (11, .int .i64 (i : Int)), (12, .pointer (some ⟨b29, 0, none⟩)), (13, .int .i64 (k : Int))]), fun _ => rfl⟩
      obtain ⟨Iv65, hIv65⟩ : ∃ F : Nat → World → Prop, ∀ (k : Nat) (wr2 : World), F k wr2 = (∃ xs ys : List Value, Sat w wr2 [Blk b29 [.int .i64 n1.batch, .slice Amp n1.prev.length cmp, .slice Amc n1.cur.length cmc, .int .i64 n1.att] 66, Own 3 1 (.slice Amp (n1.prev.length + 1) cmp) (n1.prev.length + 1) xs, Own 3 1 (.slice Amc (n1.cur.length + 1) cmc) (n1.cur.length + 1) ys, Blk b12 [.int .i64 n1.batch, .slice Aq n1.prev.length cq, .slice Ar n1.cur.length cr, .int .i64 n1.att] 66, Own 3 1 (.slice Aq n1.prev.length cq) n1.prev.length (KI.flat n1.prev), Own 3 1 (.slice Ar n1.cur.length cr) n1.cur.length (KI.flat n1.cur), JA 98 3 bj (some ⟨b0, 0, none⟩) ⟨(pp : Int), n1, ((i : Int) + 1 + 1), (1 - sl), false⟩, DiskA 85 31 5 b0 d1] ∧ k ≤ pp) := ⟨(fun (k : Nat) => fun (wr2 : World) => ∃ xs ys : List Value, Sat w wr2 [Blk b29 [.int .i64 n1.batch, .slice Amp n1.prev.length cmp, .slice Amc n1.cur.length cmc, .int .i64 n1.att] 66, Own 3 1 (.slice Amp (n1.prev.length + 1) cmp) (n1.prev.length + 1) xs, Own 3 1 (.slice Amc (n1.cur.length + 1) cmc) (n1.cur.length + 1) ys, Blk b12 [.int .i64 n1.batch, .slice Aq n1.prev.length cq, .slice Ar n1.cur.length cr, .int .i64 n1.att] 66, Own 3 1 (.slice Aq n1.prev.length cq) n1.prev.length (KI.flat n1.prev), Own 3 1 (.slice Ar n1.cur.length cr) n1.cur.length (KI.flat n1.cur), JA 98 3 bj (some ⟨b0, 0, none⟩) ⟨(pp : Int), n1, ((i : Int) + 1 + 1), (1 - sl), false⟩, DiskA 85 31 5 b0 d1] ∧ k ≤ pp), fun _ _ => rfl⟩
      obtain ⟨ms66, hms66⟩ : ∃ F : Nat → Nat, ∀ (k : Nat), F k = (pp - k) := ⟨(fun (k : Nat) => pp - k), fun _ => rfl⟩
      refine St_loop En64 Iv65 ms66 (0) ?_ ?_ ?_
      · skip
        rw [hIv65]
        exact ⟨_, _, hs, by omega⟩
      · rw [hEn64]; exact (subE_cons rfl (subE_cons rfl (subE_cons rfl (subE_cons rfl (subE_cons rfl (subE_cons rfl (subE_cons rfl (subE_cons rfl subE_nil))))))))
      rintro k wr2 hI67
      rw [hIv65] at hI67
      obtain ⟨xs, ys, hs, hk⟩ := hI67
      refine St_eqE (hEn64 _) ?_
      refine St_seq ?_
      refine St_seq ?_
      refine St_region ?_
      refine Ls_run (run_move rfl) rfl ?_
      refine Ls_run (run_move rfl) rfl ?_
      refine Ls_run (run_lss rfl rfl) rfl ?_
      refine Ls_nil ?_
      refine Jm_seq ?_
      refine St_ifP rfl (fun h68 => ?_) (fun h68 => ?_)
      · skip
        refine St_skip ?_
        refine Jm_seq ?_
        refine St_seq ?_
        refine St_block ?_
        refine St_seq ?_
        refine St_region ?_
        refine Ls_run (run_as (run_field Try.underlying66 rfl inf64 (by decide) rfl) (show _ = Value.pointer (some ⟨b29, 0, none⟩) from rfl)) rfl ?_
        refine Ls_run (run_as (run_field Try.underlying64 rfl inf62 (by decide) rfl) (show _ = Value.pointer (some ⟨b29, 1, none⟩) from rfl)) rfl ?_
        refine Ls_run (run_load sc62 rfl (hs.blk_at 0 rfl 1 rfl)) rfl ?_
        refine Ls_run (run_move rfl) rfl ?_
        obtain ⟨g69, rfl⟩ := (hs.front 1 rfl).own_addr (by omega)
        refine Ls_run (run_index Try.underlying62 inf3 rfl rfl rfl (by omega) (by omega)) rfl ?_
        replace hs := hs.front 1 rfl
        simp only [List.cons_append, List.nil_append, List.eraseIdx_cons_zero, List.eraseIdx_cons_succ] at hs
        refine Ls_storeOwn hs inf3 rfl rfl rfl (by omega) ?_
        intro w70 hs
        refine Ls_nil ?_
        refine Jm_seq ?_
        refine St_region ?_
        refine Ls_run (run_as (run_field Try.underlying66 rfl inf64 (by decide) rfl) (show _ = Value.pointer (some ⟨b29, 0, none⟩) from rfl)) rfl ?_
        refine Ls_run (run_as (run_field Try.underlying64 rfl inf62 (by decide) rfl) (show _ = Value.pointer (some ⟨b29, 2, none⟩) from rfl)) rfl ?_
        refine Ls_run (run_load sc62 rfl (hs.blk_at 1 rfl 2 rfl)) rfl ?_
        refine Ls_run (run_move rfl) rfl ?_
        obtain ⟨g71, rfl⟩ := (hs.front 2 rfl).own_addr (by omega)
        refine Ls_run (run_index Try.underlying62 inf3 rfl rfl rfl (by omega) (by omega)) rfl ?_
        replace hs := hs.front 2 rfl
        simp only [List.cons_append, List.nil_append, List.eraseIdx_cons_zero, List.eraseIdx_cons_succ] at hs
        refine Ls_storeOwn hs inf3 rfl rfl rfl (by omega) ?_
        intro w72 hs
        refine Ls_nil ?_
        refine Jm_block_normal (Jm_seq ?_)
        refine St_region ?_
        refine Ls_run (run_move rfl) rfl ?_
        refine Ls_run (run_add rfl rfl (w64 (by omega))) rfl ?_
        refine Ls_run (run_assign rfl) rfl ?_
        refine Ls_nil ?_
        replace hs := hs.front 7 rfl
        simp only [List.cons_append, List.nil_append, List.eraseIdx_cons_zero, List.eraseIdx_cons_succ] at hs
        replace hs := hs.front 7 rfl
        simp only [List.cons_append, List.nil_append, List.eraseIdx_cons_zero, List.eraseIdx_cons_succ] at hs
        replace hs := hs.front 7 rfl
        simp only [List.cons_append, List.nil_append, List.eraseIdx_cons_zero, List.eraseIdx_cons_succ] at hs
        replace hs := hs.front 7 rfl
        simp only [List.cons_append, List.nil_append, List.eraseIdx_cons_zero, List.eraseIdx_cons_succ] at hs
        replace hs := hs.front 7 rfl
        simp only [List.cons_append, List.nil_append, List.eraseIdx_cons_zero, List.eraseIdx_cons_succ] at hs
        replace hs := hs.front 5 rfl
        simp only [List.cons_append, List.nil_append, List.eraseIdx_cons_zero, List.eraseIdx_cons_succ] at hs
        replace hs := hs.front 6 rfl
        simp only [List.cons_append, List.nil_append, List.eraseIdx_cons_zero, List.eraseIdx_cons_succ] at hs
        replace hs := hs.front 7 rfl
        simp only [List.cons_append, List.nil_append, List.eraseIdx_cons_zero, List.eraseIdx_cons_succ] at hs
        refine Jm_round (k + 1) ?_ ?_ ?_
        · rw [hEn64]; exact (subE_cons rfl (subE_cons rfl (subE_cons rfl (subE_cons rfl (subE_cons rfl (subE_cons rfl (subE_cons rfl (subE_cons rfl subE_nil))))))))
        · skip
          rw [hIv65]
          exact ⟨_, _, hs, by omega⟩
        · skip
          rw [hms66, hms66]
          omega
      · skip
        refine St_exit ?_
        refine Jm_then_exit (Jm_then_exit (Jm_block_same (Jm_seq ?_)))
        refine St_seq ?_
        refine St_region ?_
        refine Ls_run (run_move rfl) rfl ?_
        replace hs := hs.front 6 rfl
        simp only [List.cons_append, List.nil_append, List.eraseIdx_cons_zero, List.eraseIdx_cons_succ] at hs
        refine Ls_call Try.func33 nm33 rfl rfl (Note_c w wr2 _ bj _ ⟨(pp : Int), n1, ((i : Int) + 1 + 1), (1 - sl), false⟩ hs (by show n1.prev.length ≤ _ ∧ n1.cur.length ≤ _; omega)) rfl ?_
        rintro v73 w74 ⟨Xp, xp, Xc, xc, rfl, hs⟩
        refine Ls_alloc hs inf66 rfl ?_
        intro b76 w75 hs
        refine Ls_storeAgg hs inf66 rfl rfl rfl rfl (by simp [Value.oneCell', Value.cells, jcells]) ?_
        intro w77 hs
        refine Ls_nil ?_
        refine Jm_seq ?_
        refine St_seq ?_
        refine St_region ?_
        refine Ls_run (run_move rfl) rfl ?_
        replace hs := hs.front 3 rfl
        simp only [List.cons_append, List.nil_append, List.eraseIdx_cons_zero, List.eraseIdx_cons_succ] at hs
        refine Ls_call Try.func33 nm33 rfl rfl (Note_c w w77 _ bj _ ⟨(pp : Int), n1, ((i : Int) + 1 + 1), (1 - sl), false⟩ hs (by show n1.prev.length ≤ _ ∧ n1.cur.length ≤ _; omega)) rfl ?_
        rintro v78 w79 ⟨Bp, dp, Bc, dc, rfl, hs⟩
        refine Ls_alloc hs inf66 rfl ?_
        intro b81 w80 hs
        refine Ls_storeAgg hs inf66 rfl rfl rfl rfl (by simp [Value.oneCell', Value.cells, jcells]) ?_
        intro w82 hs
        refine Ls_nil ?_
        refine Jm_seq ?_
        refine St_seq ?_
        refine St_seq ?_
        refine St_region ?_
        refine Ls_run (run_load_agg agg66 inf66 rfl rfl (hs.blk_cells 4 rfl 0 4)) rfl ?_
        refine Ls_run (run_load_agg agg66 inf66 rfl rfl (hs.blk_cells 10 rfl 0 4)) rfl ?_
        try simp only [List.nil_append, List.cons_append] at hs
        refine Ls_call Try.func36 nm36 rfl rfl (notes_c w82 n1 _ _ _ _ _ _ _ _ (hs.rd_at 5 rfl) (hs.rd_at 6 rfl) (hs.rd_at 11 rfl) (hs.rd_at 12 rfl) (by omega)) rfl ?_
        rintro v83 w84 ⟨rfl, hsI⟩
        replace hs := hs.trans hsI
        simp only [List.nil_append, List.cons_append] at hs
        refine Ls_run (run_not rfl) rfl ?_
        refine Ls_run (run_move rfl) rfl ?_
        refine Ls_on rfl rfl ?_
        refine Ls_run (run_load_agg agg66 inf66 rfl rfl (hs.blk_cells 0 rfl 0 4)) rfl ?_
        refine Ls_on rfl rfl ?_
        refine Ls_run (run_load_agg agg66 inf66 rfl rfl (hs.blk_cells 10 rfl 0 4)) rfl ?_
        refine Ls_on rfl rfl ?_
        try simp only [List.nil_append, List.cons_append] at hs
        refine Ls_call Try.func36 nm36 rfl rfl (notes_c w84 n1 _ _ _ _ _ _ _ _ (hs.rd_at 1 rfl) (hs.rd_at 2 rfl) (hs.rd_at 11 rfl) (hs.rd_at 12 rfl) (by omega)) rfl ?_
        rintro v85 w86 ⟨rfl, hsI⟩
        replace hs := hs.trans hsI
        simp only [List.nil_append, List.cons_append] at hs
        refine Ls_on rfl rfl ?_
        refine Ls_run (run_not rfl) rfl ?_
        refine Ls_run (run_pick_f rfl rfl) rfl ?_
        refine Ls_nil ?_
        refine Jm_seq ?_
        refine St_iff rfl ?_
        refine St_skip ?_
        refine Jm_seq ?_
        refine St_seq ?_
        refine St_seq ?_
        refine St_region ?_
        refine Ls_run (run_assign rfl) rfl ?_
        refine Ls_nil ?_
        refine Jm_seq ?_
        refine St_block ?_
        replace hs := hs.erase 7
        simp only [List.cons_append, List.nil_append, List.eraseIdx_cons_zero, List.eraseIdx_cons_succ] at hs
        replace hs := hs.erase 7
        simp only [List.cons_append, List.nil_append, List.eraseIdx_cons_zero, List.eraseIdx_cons_succ] at hs
        replace hs := hs.erase 7
        simp only [List.cons_append, List.nil_append, List.eraseIdx_cons_zero, List.eraseIdx_cons_succ] at hs
        replace hs := hs.front 10 rfl
        simp only [List.cons_append, List.nil_append, List.eraseIdx_cons_zero, List.eraseIdx_cons_succ] at hs
        replace hs := hs.front 4 rfl
        simp only [List.cons_append, List.nil_append, List.eraseIdx_cons_zero, List.eraseIdx_cons_succ] at hs
        replace hs := hs.front 10 rfl
        simp only [List.cons_append, List.nil_append, List.eraseIdx_cons_zero, List.eraseIdx_cons_succ] at hs
        replace hs := hs.front 10 rfl
        simp only [List.cons_append, List.nil_append, List.eraseIdx_cons_zero, List.eraseIdx_cons_succ] at hs
        replace hs := hs.front 10 rfl
        simp only [List.cons_append, List.nil_append, List.eraseIdx_cons_zero, List.eraseIdx_cons_succ] at hs
        replace hs := hs.front 7 rfl
        simp only [List.cons_append, List.nil_append, List.eraseIdx_cons_zero, List.eraseIdx_cons_succ] at hs
        replace hs := hs.front 7 rfl
        simp only [List.cons_append, List.nil_append, List.eraseIdx_cons_zero, List.eraseIdx_cons_succ] at hs
        replace hs := hs.front 7 rfl
        simp only [List.cons_append, List.nil_append, List.eraseIdx_cons_zero, List.eraseIdx_cons_succ] at hs
        replace hs := hs.front 10 rfl
        simp only [List.cons_append, List.nil_append, List.eraseIdx_cons_zero, List.eraseIdx_cons_succ] at hs
        replace hs := hs.front 10 rfl
        simp only [List.cons_append, List.nil_append, List.eraseIdx_cons_zero, List.eraseIdx_cons_succ] at hs
        replace hs := hs.front 10 rfl
        simp only [List.cons_append, List.nil_append, List.eraseIdx_cons_zero, List.eraseIdx_cons_succ] at hs
        obtain ⟨En88, hEn88⟩ : ∃ F : Nat → Env, ∀ (k2 : Nat), F k2 = [(1, .slice A2 n2 c2), (5, .int .i64 (pp : Int)), (6, .pointer (some ⟨b0, 0, none⟩)), (8, .pointer (some ⟨bj, 0, none⟩)), (10, .pointer (some ⟨b12, 0, none⟩)), (11, .int .i64 (i : Int)), (14, .pointer (some ⟨b76, 0, none⟩)), (16, .int .i64 (k2 : Int)), (15, .pointer (some ⟨b81, 0, none⟩))] := ⟨(fun (k2 : Nat) => [(1, .slice A2 n2 c2), (5, .int .i64 (pp : Int)), (6, .pointer (some ⟨b0, 0, none⟩)), (8, .pointer (some ⟨bj, 0, none⟩)), (10, .pointer (some ⟨b12, 0, none⟩)), (11, .int .i64 (i : Int)), (14, .pointer (some ⟨b76, 0, none⟩)), (16, .int .i64 (k2 : Int)), (15, .pointer (some ⟨b81, 0, none⟩))]), fun _ => rfl⟩
        obtain ⟨Iv89, hIv89⟩ : ∃ F : Nat → World → Prop, ∀ (k2 : Nat) (wr3 : World), F k2 wr3 = (∃ xs ys : List Value, Sat w wr3 [Blk b76 [.int .i64 n1.batch, .slice Xp n1.prev.length xp, .slice Xc n1.cur.length xc, .int .i64 n1.att] 66, Own 3 1 (.slice Xp (n1.prev.length) xp) (n1.prev.length) xs, Own 3 1 (.slice Xc (n1.cur.length) xc) (n1.cur.length) ys, Blk b81 [.int .i64 n1.batch, .slice Bp n1.prev.length dp, .slice Bc n1.cur.length dc, .int .i64 n1.att] 66, Own 3 1 (.slice Bp n1.prev.length dp) n1.prev.length (KI.flat n1.prev), Own 3 1 (.slice Bc n1.cur.length dc) n1.cur.length (KI.flat n1.cur), Blk b12 [.int .i64 n1.batch, .slice Aq n1.prev.length cq, .slice Ar n1.cur.length cr, .int .i64 n1.att] 66, Own 3 1 (.slice Aq n1.prev.length cq) n1.prev.length (KI.flat n1.prev), Own 3 1 (.slice Ar n1.cur.length cr) n1.cur.length (KI.flat n1.cur), JA 98 3 bj (some ⟨b0, 0, none⟩) ⟨(pp : Int), n1, ((i : Int) + 1 + 1), (1 - sl), false⟩, DiskA 85 31 5 b0 d1] ∧ k2 ≤ pp) := ⟨(fun (k2 : Nat) => fun (wr3 : World) => ∃ xs ys : List Value, Sat w wr3 [Blk b76 [.int .i64 n1.batch, .slice Xp n1.prev.length xp, .slice Xc n1.cur.length xc, .int .i64 n1.att] 66, Own 3 1 (.slice Xp (n1.prev.length) xp) (n1.prev.length) xs, Own 3 1 (.slice Xc (n1.cur.length) xc) (n1.cur.length) ys, Blk b81 [.int .i64 n1.batch, .slice Bp n1.prev.length dp, .slice Bc n1.cur.length dc, .int .i64 n1.att] 66, Own 3 1 (.slice Bp n1.prev.length dp) n1.prev.length (KI.flat n1.prev), Own 3 1 (.slice Bc n1.cur.length dc) n1.cur.length (KI.flat n1.cur), Blk b12 [.int .i64 n1.batch, .slice Aq n1.prev.length cq, .slice Ar n1.cur.length cr, .int .i64 n1.att] 66, Own 3 1 (.slice Aq n1.prev.length cq) n1.prev.length (KI.flat n1.prev), Own 3 1 (.slice Ar n1.cur.length cr) n1.cur.length (KI.flat n1.cur), JA 98 3 bj (some ⟨b0, 0, none⟩) ⟨(pp : Int), n1, ((i : Int) + 1 + 1), (1 - sl), false⟩, DiskA 85 31 5 b0 d1] ∧ k2 ≤ pp), fun _ _ => rfl⟩
        obtain ⟨ms90, hms90⟩ : ∃ F : Nat → Nat, ∀ (k2 : Nat), F k2 = (pp - k2) := ⟨(fun (k2 : Nat) => pp - k2), fun _ => rfl⟩
        refine St_loop En88 Iv89 ms90 (0) ?_ ?_ ?_
        · skip
          rw [hIv89]
          exact ⟨_, _, hs, by omega⟩
        · rw [hEn88]; exact (subE_cons rfl (subE_cons rfl (subE_cons rfl (subE_cons rfl (subE_cons rfl (subE_cons rfl (subE_cons rfl (subE_cons rfl (subE_cons rfl subE_nil)))))))))
        rintro k2 wr3 hI91
        rw [hIv89] at hI91
        obtain ⟨xs, ys, hs, hk⟩ := hI91
        refine St_eqE (hEn88 _) ?_
        refine St_seq ?_
        refine St_seq ?_
        refine St_region ?_
        refine Ls_run (run_move rfl) rfl ?_
        refine Ls_run (run_move rfl) rfl ?_
        refine Ls_run (run_lss rfl rfl) rfl ?_
        refine Ls_nil ?_
        refine Jm_seq ?_
        refine St_ifP rfl (fun h92 => ?_) (fun h92 => ?_)
        · skip
          refine St_skip ?_
          refine Jm_seq ?_
          refine St_seq ?_
          refine St_block ?_
          refine St_seq ?_
          refine St_region ?_
          refine Ls_run (run_as (run_field Try.underlying66 rfl inf64 (by decide) rfl) (show _ = Value.pointer (some ⟨b76, 0, none⟩) from rfl)) rfl ?_
          refine Ls_run (run_as (run_field Try.underlying64 rfl inf62 (by decide) rfl) (show _ = Value.pointer (some ⟨b76, 1, none⟩) from rfl)) rfl ?_
          refine Ls_run (run_load sc62 rfl (hs.blk_at 0 rfl 1 rfl)) rfl ?_
          refine Ls_run (run_move rfl) rfl ?_
          obtain ⟨g93, rfl⟩ := (hs.front 1 rfl).own_addr (by omega)
          refine Ls_run (run_index Try.underlying62 inf3 rfl rfl rfl (by omega) (by omega)) rfl ?_
          replace hs := hs.front 1 rfl
          simp only [List.cons_append, List.nil_append, List.eraseIdx_cons_zero, List.eraseIdx_cons_succ] at hs
          refine Ls_storeOwn hs inf3 rfl rfl rfl (by omega) ?_
          intro w94 hs
          refine Ls_nil ?_
          refine Jm_seq ?_
          refine St_region ?_
          refine Ls_run (run_as (run_field Try.underlying66 rfl inf64 (by decide) rfl) (show _ = Value.pointer (some ⟨b76, 0, none⟩) from rfl)) rfl ?_
          refine Ls_run (run_as (run_field Try.underlying64 rfl inf62 (by decide) rfl) (show _ = Value.pointer (some ⟨b76, 2, none⟩) from rfl)) rfl ?_
          refine Ls_run (run_load sc62 rfl (hs.blk_at 1 rfl 2 rfl)) rfl ?_
          refine Ls_run (run_move rfl) rfl ?_
          obtain ⟨g95, rfl⟩ := (hs.front 2 rfl).own_addr (by omega)
          refine Ls_run (run_index Try.underlying62 inf3 rfl rfl rfl (by omega) (by omega)) rfl ?_
          replace hs := hs.front 2 rfl
          simp only [List.cons_append, List.nil_append, List.eraseIdx_cons_zero, List.eraseIdx_cons_succ] at hs
          refine Ls_storeOwn hs inf3 rfl rfl rfl (by omega) ?_
          intro w96 hs
          refine Ls_nil ?_
          refine Jm_block_normal (Jm_seq ?_)
          refine St_region ?_
          refine Ls_run (run_move rfl) rfl ?_
          refine Ls_run (run_add rfl rfl (w64 (by omega))) rfl ?_
          refine Ls_run (run_assign rfl) rfl ?_
          refine Ls_nil ?_
          replace hs := hs.front 10 rfl
          simp only [List.cons_append, List.nil_append, List.eraseIdx_cons_zero, List.eraseIdx_cons_succ] at hs
          replace hs := hs.front 10 rfl
          simp only [List.cons_append, List.nil_append, List.eraseIdx_cons_zero, List.eraseIdx_cons_succ] at hs
          replace hs := hs.front 10 rfl
          simp only [List.cons_append, List.nil_append, List.eraseIdx_cons_zero, List.eraseIdx_cons_succ] at hs
          replace hs := hs.front 10 rfl
          simp only [List.cons_append, List.nil_append, List.eraseIdx_cons_zero, List.eraseIdx_cons_succ] at hs
          replace hs := hs.front 10 rfl
          simp only [List.cons_append, List.nil_append, List.eraseIdx_cons_zero, List.eraseIdx_cons_succ] at hs
          replace hs := hs.front 10 rfl
          simp only [List.cons_append, List.nil_append, List.eraseIdx_cons_zero, List.eraseIdx_cons_succ] at hs
          replace hs := hs.front 10 rfl
          simp only [List.cons_append, List.nil_append, List.eraseIdx_cons_zero, List.eraseIdx_cons_succ] at hs
          replace hs := hs.front 10 rfl
          simp only [List.cons_append, List.nil_append, List.eraseIdx_cons_zero, List.eraseIdx_cons_succ] at hs
          replace hs := hs.front 8 rfl
          simp only [List.cons_append, List.nil_append, List.eraseIdx_cons_zero, List.eraseIdx_cons_succ] at hs
          replace hs := hs.front 9 rfl
          simp only [List.cons_append, List.nil_append, List.eraseIdx_cons_zero, List.eraseIdx_cons_succ] at hs
          replace hs := hs.front 10 rfl
          simp only [List.cons_append, List.nil_append, List.eraseIdx_cons_zero, List.eraseIdx_cons_succ] at hs
          refine Jm_round (k2 + 1) ?_ ?_ ?_
          · rw [hEn88]; exact (subE_cons rfl (subE_cons rfl (subE_cons rfl (subE_cons rfl (subE_cons rfl (subE_cons rfl (subE_cons rfl (subE_cons rfl (subE_cons rfl subE_nil)))))))))
          · skip
            rw [hIv89]
            exact ⟨_, _, hs, by omega⟩
          · skip
            rw [hms90, hms90]
            omega
        · skip
          refine St_exit ?_
          refine Jm_then_exit (Jm_then_exit (Jm_block_same (Jm_seq ?_)))
          refine St_seq ?_
          replace hs := hs.front 3 rfl
          simp only [List.cons_append, List.nil_append, List.eraseIdx_cons_zero, List.eraseIdx_cons_succ] at hs
          replace hs := hs.front 6 rfl
          simp only [List.cons_append, List.nil_append, List.eraseIdx_cons_zero, List.eraseIdx_cons_succ] at hs
          refine St_hold (Hold.of (Ls := [_, _]) hs) mixed ?_
          intro w97 q98
          replace hs := hs.quiet q98
          have hH := Hold.of (Ls := [_, _]) hs
          refine An_take 0 rfl (by kernel_rfl) (by kernel_rfl) (by kernel_rfl) (fun _ _ _ h => h) hH (fun x hx => run_move rfl) rfl ?_
          refine An_take 2 rfl (by kernel_rfl) (by kernel_rfl) (by kernel_rfl) (fun _ _ _ h => h) hH (fun x hx => run_load_agg agg66 inf66 rfl rfl (hx.choose_spec.blk_cells 0 rfl 0 4)) rfl ?_
          refine An_only 1 (by kernel_rfl) rfl ?_
          replace hs := hs.front 9 rfl
          simp only [List.cons_append, List.nil_append, List.eraseIdx_cons_zero, List.eraseIdx_cons_succ] at hs
          refine Ls_call Try.func33 nm33 rfl rfl (Note_c w w97 _ bj _ ⟨(pp : Int), n1, ((i : Int) + 1 + 1), (1 - sl), false⟩ hs (by show n1.prev.length ≤ _ ∧ n1.cur.length ≤ _; omega)) rfl ?_
          rintro v99 w100 ⟨Yp, yp, Yc, yc, rfl, hs⟩
          replace hs := hs.front 4 rfl
          simp only [List.cons_append, List.nil_append, List.eraseIdx_cons_zero, List.eraseIdx_cons_succ] at hs
          replace hs := hs.front 4 rfl
          simp only [List.cons_append, List.nil_append, List.eraseIdx_cons_zero, List.eraseIdx_cons_succ] at hs
          replace hH := Hold.of (Ls := [_, _]) hs
          refine Ls_nil (Jm_An hH ?_)
          refine An_only 3 (by kernel_rfl) rfl ?_
          try simp only [List.nil_append, List.cons_append] at hs
          refine Ls_call Try.func36 nm36 rfl rfl (notes_c w100 n1 _ _ _ _ _ _ _ _ (hs.rd_at 2 rfl) (hs.rd_at 3 rfl) (hs.rd_at 10 rfl) (hs.rd_at 11 rfl) (by omega)) rfl ?_
          rintro v101 w102 ⟨rfl, hsI⟩
          replace hs := hs.trans hsI
          simp only [List.nil_append, List.cons_append] at hs
          replace hs := hs.front 1 rfl
          simp only [List.cons_append, List.nil_append, List.eraseIdx_cons_zero, List.eraseIdx_cons_succ] at hs
          replace hs := hs.front 1 rfl
          simp only [List.cons_append, List.nil_append, List.eraseIdx_cons_zero, List.eraseIdx_cons_succ] at hs
          replace hH := Hold.of (Ls := [_, _]) hs
          refine Ls_nil (Jm_An hH ?_)
          refine An_take 4 rfl (by kernel_rfl) (by kernel_rfl) (by kernel_rfl) (fun _ _ _ h => h) hH (fun x hx => run_not rfl) rfl ?_
          refine An_take 5 rfl (by kernel_rfl) (by kernel_rfl) (by kernel_rfl) (fun _ _ _ h => h) hH (fun x hx => run_move rfl) rfl ?_
          refine An_take_on 6 rfl (by kernel_rfl) (by kernel_rfl) (by kernel_rfl) rfl rfl (fun _ _ _ h => h) hH (fun x hx => run_load_agg agg66 inf66 rfl rfl (hx.choose_spec.blk_cells 1 rfl 0 4)) rfl ?_
          refine An_take_on 7 rfl (by kernel_rfl) (by kernel_rfl) (by kernel_rfl) rfl rfl (fun _ _ _ h => h) hH (fun x hx => run_load_agg agg66 inf66 rfl rfl (hx.choose_spec.blk_cells 0 rfl 0 4)) rfl ?_
          refine An_only 8 (by kernel_rfl) rfl ?_
          refine Ls_on rfl rfl ?_
          try simp only [List.nil_append, List.cons_append] at hs
          refine Ls_call Try.func36 nm36 rfl rfl (notes_c w102 n1 _ _ _ _ _ _ _ _ (hs.rd_at 8 rfl) (hs.rd_at 9 rfl) (hs.rd_at 10 rfl) (hs.rd_at 11 rfl) (by omega)) rfl ?_
          rintro v103 w104 ⟨rfl, hsI⟩
          replace hs := hs.trans hsI
          simp only [List.nil_append, List.cons_append] at hs
          replace hs := hs.front 1 rfl
          simp only [List.cons_append, List.nil_append, List.eraseIdx_cons_zero, List.eraseIdx_cons_succ] at hs
          replace hs := hs.front 1 rfl
          simp only [List.cons_append, List.nil_append, List.eraseIdx_cons_zero, List.eraseIdx_cons_succ] at hs
          replace hH := Hold.of (Ls := [_, _]) hs
          refine Ls_nil (Jm_An hH ?_)
          refine An_take_on 9 rfl (by kernel_rfl) (by kernel_rfl) (by kernel_rfl) rfl rfl (fun _ _ _ h => h) hH (fun x hx => run_not rfl) rfl ?_
          refine An_take 10 rfl (by kernel_rfl) (by kernel_rfl) (by kernel_rfl) (fun _ _ _ h => h) hH (fun x hx => run_pick_f rfl rfl) rfl ?_
          refine An_done (by kernel_rfl) ?_
          refine Jm_seq ?_
          refine St_iff rfl ?_
          refine St_skip ?_
          refine Jm_block_normal (Jm_seq ?_)
          refine St_region ?_
          refine Ls_run (run_move rfl) rfl ?_
          refine Ls_run (run_add rfl rfl (w64 (by omega))) rfl ?_
          refine Ls_run (run_assign rfl) rfl ?_
          refine Ls_nil ?_
          replace hs := hs.erase 1
          simp only [List.cons_append, List.nil_append, List.eraseIdx_cons_zero, List.eraseIdx_cons_succ] at hs
          replace hs := hs.erase 1
          simp only [List.cons_append, List.nil_append, List.eraseIdx_cons_zero, List.eraseIdx_cons_succ] at hs
          replace hs := hs.erase 1
          simp only [List.cons_append, List.nil_append, List.eraseIdx_cons_zero, List.eraseIdx_cons_succ] at hs
          replace hs := hs.erase 2
          simp only [List.cons_append, List.nil_append, List.eraseIdx_cons_zero, List.eraseIdx_cons_succ] at hs
          replace hs := hs.erase 2
          simp only [List.cons_append, List.nil_append, List.eraseIdx_cons_zero, List.eraseIdx_cons_succ] at hs
          replace hs := hs.erase 2
          simp only [List.cons_append, List.nil_append, List.eraseIdx_cons_zero, List.eraseIdx_cons_succ] at hs
          replace hs := hs.erase 2
          simp only [List.cons_append, List.nil_append, List.eraseIdx_cons_zero, List.eraseIdx_cons_succ] at hs
          replace hs := hs.erase 2
          simp only [List.cons_append, List.nil_append, List.eraseIdx_cons_zero, List.eraseIdx_cons_succ] at hs
          replace hs := hs.front 4 rfl
          simp only [List.cons_append, List.nil_append, List.eraseIdx_cons_zero, List.eraseIdx_cons_succ] at hs
          replace hs := hs.front 2 rfl
          simp only [List.cons_append, List.nil_append, List.eraseIdx_cons_zero, List.eraseIdx_cons_succ] at hs
          replace hs := hs.front 4 rfl
          simp only [List.cons_append, List.nil_append, List.eraseIdx_cons_zero, List.eraseIdx_cons_succ] at hs
          replace hs := hs.front 4 rfl
          simp only [List.cons_append, List.nil_append, List.eraseIdx_cons_zero, List.eraseIdx_cons_succ] at hs
          replace hs := hs.front 4 rfl
          simp only [List.cons_append, List.nil_append, List.eraseIdx_cons_zero, List.eraseIdx_cons_succ] at hs
          refine Jm_round (i + 1) ?_ ?_ ?_
          · rw [hEn14]; exact (subE_cons rfl (subE_cons rfl (subE_cons rfl (subE_cons rfl (subE_cons rfl (subE_cons rfl subE_nil))))))
          · skip
            rw [hIv15]
            have hx1 := hnx.2.2.2.1; have hx2 := hnx.2.2.2.2
            exact ⟨n1, _, _, _, _, _, d1, hs, by omega, by omega, hdg1, hjo1, by omega, by omega⟩
          · skip
            rw [hms16, hms16]
            omega
    · skip
      refine St_exit ?_
      refine Jm_then_exit (Jm_then_exit (Jm_block_same (Jm_seq ?_)))
      refine St_seq ?_
      refine St_region ?_
      refine Ls_run (run_assign rfl) rfl ?_
      refine Ls_nil ?_
      refine Jm_seq ?_
      refine St_ret ?_
      refine Jm_ret1 rfl rfl ?_
      exact ⟨_, rfl, rfl, hs.below⟩
  · skip
    refine Ls_off rfl rfl rfl rfl ?_
    refine Ls_off rfl rfl rfl rfl ?_
    refine Ls_run (run_pick_f rfl rfl) rfl ?_
    refine Ls_nil ?_
    refine Jm_seq ?_
    refine St_iff rfl ?_
    refine St_exit ?_
    refine Jm_then_exit (Jm_then_exit (Jm_block_same (Jm_seq ?_)))
    refine St_seq ?_
    refine St_region ?_
    refine Ls_run (run_assign rfl) rfl ?_
    refine Ls_nil ?_
    refine Jm_seq ?_
    refine St_ret ?_
    refine Jm_ret1 rfl rfl ?_
    exact ⟨_, rfl, rfl, hs.below⟩
end Go.Proofs.Ytpmkedgennnekaa.Lg
