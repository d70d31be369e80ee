/-
  The law CoordMemory: what Tick, Take, Tries and Note answer is new memory, and a message is not kept. For every plan and every list of numbers: no condition.
-/
import Derived.Test.YtcifdianinbkeaaCm4
import Derived.Test.YtcifdianinbkeaaRows
set_option linter.unusedVariables false
set_option linter.unusedSimpArgs false
namespace Go.Proofs.Ytcifdianinbkeaa.Lg
open Go Go.RowKit Go.Proofs.Ytcifdianinbkeaa.WirePure Go.Proofs.Ytcifdianinbkeaa.PlanPure
theorem one_row {vo : List TT} {t : TSt} (h : vo.map Prod.fst = [t]) : ∃ q, vo = [(t, q)] := by
  match vo, h with
  | [(a, q)], h => simp at h; exact ⟨q, by rw [h]⟩
theorem Onw.one {ba : Int} {c x : List Int} (h : Onw ba c x) (hb : 1 ≤ ba) (h0 : x.getD 0 0 = 0) (hc : c.getD 0 0 = 0) : Onw ba c (x.set 0 1) := h.put (i := 0) (by omega) (by decide) (by omega)
theorem two_rows {B w : World} {TI : Nat} {X Y : Assn} {L : List Assn} {t : TSt} {q : TP} (hs : Sat B w (X :: Y :: (L ++ rowsA TI KI (rvals [(t, q)]) (rlists [t])))) :
    Sat B w (X :: Y :: Own TI 1 (.slice q.fA t.fr.length q.fc) t.fr.length (KI.flat t.fr) :: Own TI 1 (.slice q.tA t.to.length q.tc) t.to.length (KI.flat t.to) :: L) :=
  hs.perm ((List.Perm.cons _ (List.Perm.cons _ (List.perm_append_comm (l₁ := L) (l₂ := [_, _])))))
theorem rep_ints (m : Nat) : List.replicate m (Value.int .i64 0) = KI.flat (List.replicate m 0) := (flatKI_rep m).symm
theorem flatKI_put0 (l : List Int) (x : Int) : (KI.flat l).set 0 (.int .i64 x) = KI.flat (l.set 0 x) := by rw [El.int_flat, El.int_flat, List.map_set]
theorem rep_get0 {m : Nat} : (List.replicate m (0 : Int)).getD 0 0 = 0 := rep_getD
set_option maxRecDepth 100000 in
set_option maxHeartbeats 4000000 in
theorem CoordMemory_ok (w : World) (p : PlanA) (ops : OpL) (hr : Rd w p.oA p.on p.oc 3 (KOp.flat ops)) (hn : p.on ≤ 67108864) (hck : chk p ops = 0) (A1 : Option Addr) (n1 c1 : Nat) (ol : List Int) (hr1 : Rd w A1 n1 c1 1 (KI.flat ol)) (hn1 : n1 ≤ 9223372036854775807) :
    Calls Try.prog 3 [.agg #[.int .i64 p.pa, .int .i64 p.st, .int .i64 p.wo, .slice p.oA p.on p.oc, .int .i64 p.ag, .int .i64 p.ba, .int .i64 p.wi, .int .i64 p.gu], .slice A1 n1 c1].toArray w (Ret (fun v' w' => v' = .bool true ∧ Below w.heap.size w w')) := by
  have hs := Sat.start w
  have hk2 := chk_ok hck
  unfold numsOk at hk2
  refine Zb Try.func3 rfl rfl rfl (Zs (Ls_box hs rfl rfl (fun b2 w1 hs => (Za rfl (Zj (St_seq (Zs (Zc fn8 rfl (awake19_c w1) rfl ?_))))))))
  rintro v3 w4 ⟨rfl, hsA5⟩
  replace hs := hs.T hsA5
  refine Zr (run_not rfl) rfl (Zj (St_iff rfl (St_skip (Zq (Zs (Zr (run_load_agg agg24 inf24 rfl rfl (hs.blk_cells 0 rfl 0 8)) rfl (Zc fn9 rfl (laid19_c w4 p ops (hr.inB hs) hn hck) rfl ?_)))))))
  rintro v7 w9 ⟨bd, bc, bj, Ao, co, m, d, hm, rfl, hsF, hg, hdj⟩
  replace hs := hs.T hsF
  obtain ⟨pq, hpq⟩ : ∃ q, ({ p with oA := Ao, oc := co } : PlanA) = q := ⟨_, rfl⟩
  have hckq : chk pq ops = 0 := by rw [← hpq]; exact hck
  have hmq : pq.pa = (m : Int) := by rw [← hpq]; exact hm
  have hCI : CI 0 pq ops [] (jnew m) d := CI.new hckq hmq hg hdj
  have hba : pq.ba = p.ba := by rw [← hpq]
  have hon : pq.on = p.on := by rw [← hpq]
  rw [hpq] at hs
  refine Zm rfl (Zr (run_extract rfl rfl) rfl (Zr (run_extract rfl rfl) rfl (Ls_alloc hs inf31 rfl (fun b11 w10 hs => (Ls_storeAgg hs inf31 rfl rfl rfl rfl (by simp [Value.oneCell', Value.cells, mcells, tcells]) (fun w12 hs => (Za rfl (Zj (St_seq (Zs (Zm rfl (Zr (run_not rfl) rfl (Zj (St_iff rfl (St_skip (Zq (Zs (Zf un31 inf28 rfl 9 rfl (Zl sc28 rfl (hs.blk_at 0 rfl 9 rfl) ?_)))))))))))))))))))
  replace hs := hs.F3.F3.F3
  obtain ⟨d1, ht1, hC1, ha1⟩ := first_tick hCI hg.2.1
  refine Zc fn11 rfl (cTick_c w w12 _ bc bd bj pq ops [] false (jnew m) d hs (by simp) (by simp) (by rw [ageT_nil]; simp) hCI.jo hCI.rows (by omega)) rfl ?_
  rintro v14 w15 ⟨va, rfl, hs⟩
  simp only [ht1] at hs ⊢
  obtain ⟨ga, Aa, ca, hva, h9⟩ := hs.moSome
  subst hva
  replace hs := h9
  have hrl : (sayM 1 (T1 pq ops m) (List.replicate m 0)).es.length = m := List.length_replicate
  rw [hrl] at hs
  have hlr : (List.replicate m (0 : Int)).length = m := List.length_replicate
  have hf1 : (T1 pq ops m).fr.length = m := hlr
  have hmz : m ≤ 9223372036854775807 := by omega
  refine Zm rfl (Zr (run_extract rfl rfl) rfl (Zr (run_extract rfl rfl) rfl (Za rfl (Za rfl (Zj (St_seq (St_seq (St_draw (fun x => Below w15.heap.size w15 x) mixed (fun w16 q17 => ?_)))))))))
  have hH := q17.below
  replace hs := hs.quiet q17
  refine An_grow hH ?_
  replace hH := Below.refl w16.heap.size w16
  refine Ym hH 0 rfl (by kernel_rfl) rfl (Ya hH 1 rfl (by kernel_rfl) (fun x hx => run_asB (c := false) (run_neq rfl rfl) (by decide)) (Ym hH 2 rfl (by kernel_rfl) rfl (Yo hH 3 rfl (by kernel_rfl) rfl (fun x hx => run_move rfl) (Yo hH 4 rfl (by kernel_rfl) rfl (fun x hx => run_len un29 rfl) (Yo hH 5 rfl (by kernel_rfl) rfl (fun x hx => run_asB (c := false) (run_neq rfl rfl) (by decide)) (Ya hH 6 rfl (by kernel_rfl) (fun x hx => run_pick_f rfl rfl) (Ym hH 7 rfl (by kernel_rfl) rfl (Yo hH 8 rfl (by kernel_rfl) rfl (fun x hx => run_move rfl) (An_index_on 9  (KM) rfl (by kernel_rfl) (by kernel_rfl) (by kernel_rfl) rfl rfl (fun _ _ _ _ h => h) hH (fun x hx => ((msg_rd (hs.is_at 0 rfl).2).grow hx)) un29 inf41 rfl rfl (by omega) (by omega) rfl rfl (fun b18 o19 hc20 => (Yo hH 10 rfl (by kernel_rfl) rfl (fun x hx => run_field un41 rfl inf25 (by decide) rfl) (Yo hH 11 rfl (by kernel_rfl) rfl (fun x hx => run_as (run_load sc25 rfl ((hc20 x hx) 6 _ rfl)) (show _ = Value.slice Aa m ca from rfl)) (Yo hH 12 rfl (by kernel_rfl) rfl (fun x hx => run_len un25 rfl) (Yo hH 13 rfl (by kernel_rfl) rfl (fun x hx => run_fd un24 inf3 rfl 0 rfl) (Yo hH 14 rfl (by kernel_rfl) rfl (fun x hx => run_load sc3 rfl ((hs.grow hx).blk_at 6 rfl 0 rfl)) (Yo hH 15 rfl (by kernel_rfl) rfl (fun x hx => run_asB (c := false) (run_neq rfl rfl) (by rw [hm]; simp)) (Ya hH 16 rfl (by kernel_rfl) (fun x hx => run_pick_f rfl rfl) (An_done (by kernel_rfl) (Zq (St_iff rfl (St_skip (Zq (Zs (Zm rfl (Ls_index (KM) (msg_rd (hs.is_at 0 rfl).2) un29 inf41 rfl rfl (by omega) (by omega) rfl rfl (fun b22 o23 hc24 => (Zr (run_field un41 rfl inf25 (by decide) rfl) rfl (Zr (run_as (run_load sc25 rfl (hc24 6 _ rfl)) (show _ = Value.slice Aa m ca from rfl)) rfl ?_))))))))))))))))))))))))))))
  obtain ⟨g0, hg0⟩ := (hs.front 1 rfl).own_addr (by omega)
  refine Zr (run_as (run_index un25 inf3 rfl rfl hg0 (by decide) (by omega)) (show _ = Value.pointer (some ⟨g0, 0, none⟩) from rfl)) rfl ?_
  replace hs := hs.F1
  rw [hg0] at hs
  refine Ls_storeOwn hs inf3 rfl rfl rfl (by omega) (fun w25 hs => ?_)
  rw [← hg0] at hs
  refine Zt (Zf un31 inf28 rfl 9 rfl (Zl sc28 rfl (hs.blk_at 5 rfl 9 rfl) ?_))
  replace hs := hs.F2
  refine Zc fn12 rfl (cTries_c w w25 _ bc bd bj pq ops [T1 pq ops m] false hs (by simp) (fun t ht => by rw [List.mem_singleton] at ht; subst ht; exact ⟨by show (List.replicate m (0 : Int)).length ≤ _; rw [List.length_replicate]; omega, by show ([] : List Int).length ≤ _; decide⟩)) rfl ?_
  rintro v26 w27 ⟨vo, oaA, oac, hvo, rfl, hs⟩
  obtain ⟨q1, hq1⟩ := one_row hvo
  subst hq1
  replace hs := two_rows hs
  refine Ls_index (KT) (hs.rd_at 0 rfl) un44 inf43 rfl rfl (by decide) (by simp) (show _ = (T1 pq ops m, q1) from rfl) rfl (fun b28 o29 hc30 => (Zr (run_as (run_load_agg agg43 inf43 rfl rfl hc30) (show _ = Value.agg #[.int .i64 (T1 pq ops m, q1).1.b, .int .i64 (T1 pq ops m, q1).1.a, .int .i64 (T1 pq ops m, q1).1.nd, .int .i64 (T1 pq ops m, q1).1.ph, .int .i64 (T1 pq ops m, q1).1.ti, .slice (T1 pq ops m, q1).2.fA (T1 pq ops m, q1).1.fr.length (T1 pq ops m, q1).2.fc, .slice (T1 pq ops m, q1).2.tA (T1 pq ops m, q1).1.to.length (T1 pq ops m, q1).2.tc] from rfl)) rfl (Ls_alloc hs inf43 rfl (fun b32 w31 hs => (Ls_storeAgg hs inf43 rfl rfl rfl rfl (by simp [Value.oneCell', Value.cells, mcells, tcells]) (fun w33 hs => (Zj (St_seq (St_seq (St_draw (fun x => Below w33.heap.size w33 x) mixed (fun w34 q35 => ?_)))))))))))
  have hH := q35.below
  replace hs := hs.quiet q35
  refine An_grow hH ?_
  replace hH := Below.refl w34.heap.size w34
  refine Ya hH 0 rfl (by kernel_rfl) (fun x hx => run_fd un43 inf25 rfl 5 rfl) (Ya hH 1 rfl (by kernel_rfl) (fun x hx => run_as (run_load sc25 rfl ((hs.grow hx).blk_at 0 rfl 5 rfl)) (show _ = Value.slice q1.fA (T1 pq ops m).fr.length q1.fc from rfl)) (Ya hH 2 rfl (by kernel_rfl) (fun x hx => run_fd un24 inf3 rfl 0 rfl) (Ya hH 3 rfl (by kernel_rfl) (fun x hx => run_as (run_load sc3 rfl ((hs.grow hx).blk_at 10 rfl 0 rfl)) (show _ = Value.int .i64 (m : Int) by rw [hm])) (An_only 4 (by kernel_rfl) rfl (Ls_make (m := m) (Sat.start w34) un25 infq3 rfl rfl rfl (by omega) (by omega) rfl (fun b36 w37 hsN38 => ?_))))))
  replace hs := hs.T hsN38
  replace hH := (hsN38.below : Below w34.heap.size w34 w37)
  refine Ls_nil (Jm_An hH (An_grow hH ?_))
  replace hH := Below.refl w37.heap.size w37
  refine An_only 5 (by kernel_rfl) rfl (Zc fn13 rfl (ints19_c w37 _ _ _ (List.replicate m 0) _ _ _ (List.replicate m 0) (hs.rd_at 4 rfl) (by have h9 := hs.rd_at 0 rfl; rw [rep_ints] at h9; exact h9) (by rw [hf1]; exact hmz)) rfl ?_)
  rintro v39 w40 ⟨rfl, hsF⟩
  replace hs := hs.T hsF
  rw [decide_eq_true rfl]
  replace hH := (hsF.below : Below w37.heap.size w37 w40)
  refine Ls_nil (Jm_An hH (An_grow hH ?_))
  replace hH := Below.refl w40.heap.size w40
  refine Ya hH 6 rfl (by kernel_rfl) (fun x hx => run_not rfl) (An_done (by kernel_rfl) (Zq (St_iff rfl (St_skip (Zq (Zs (Zr (run_load_agg agg24 inf24 rfl rfl (hs.blk_cells 11 rfl 0 8)) rfl (Zf un43 inf25 rfl 5 rfl (Zr (run_as (run_load sc25 rfl (hs.blk_at 1 rfl 5 rfl)) (show _ = Value.slice q1.fA (T1 pq ops m).fr.length q1.fc from rfl)) rfl (Zm rfl ?_))))))))))
  obtain ⟨mb, hmb⟩ : ∃ z : Nat, p.ba + 1 = (z : Int) := ⟨(p.ba + 1).toNat, by omega⟩
  have hlr : (List.replicate m (0 : Int)).length = m := List.length_replicate
  refine Zc fn14 rfl (onward_c w40 p q1.fA q1.fc (List.replicate m 0) (hs.rd_at 4 rfl) A1 n1 c1 ol (hr1.inB hs) hn1 mb hmb (by omega) (by rw [hlr]; omega) (fun y hy => by rw [List.eq_of_mem_replicate hy]; decide)) rfl ?_
  rintro v42 w43 ⟨xs, eA, eC, hxo, rfl, hsO⟩
  replace hs := hs.T hsO
  rw [hlr] at hs ⊢
  have hxl : xs.length = m := by rw [hxo.1, hlr]
  refine Za rfl (Zj (St_seq (Zs (Zm rfl (Ls_index (KI) (hs.rd_at 0 rfl) un25 inf3 rfl rfl (by decide) (by omega) (show _ = xs.getD 0 0 from rfl) rfl (fun b44 o45 hc46 => (Zl sc3 rfl (hc46 0 _ rfl) (Zr (run_eql rfl rfl) rfl (Zj ?_)))))))))
  obtain ⟨En47, hEn47⟩ := ex1 fun (es : List Int) => ([(2, .pointer (some ⟨b2, 0, none⟩)), (5, .pointer (some ⟨b11, 0, none⟩)), (9, .pointer (some ⟨b32, 0, none⟩)), (10, .slice eA m eC)] : Env)
  obtain ⟨Iv48, hIv48⟩ := ew1 fun (es : List Int) (w49 : World) => Sat w w49 [Own 3 1 (.slice eA m eC) m (KI.flat es), Own 3 1 (.slice q1.fA (T1 pq ops m).fr.length q1.fc) (T1 pq ops m).fr.length (KI.flat (T1 pq ops m).fr), CA 79 43 bc bd bj pq ops [T1 pq ops m] false, JA 108 3 bj (some ⟨bd, 0, none⟩) (j1 m), DiskA 122 125 5 bd d1, Blk b2 [.int .i64 p.pa, .int .i64 p.st, .int .i64 p.wo, .slice p.oA p.on p.oc, .int .i64 p.ag, .int .i64 p.ba, .int .i64 p.wi, .int .i64 p.gu] 24, Blk b11 [.int .i64 p.pa, .int .i64 p.st, .int .i64 p.wo, .slice p.oA p.on p.oc, .int .i64 p.ag, .int .i64 p.ba, .int .i64 p.wi, .int .i64 p.gu, .pointer (some ⟨bd, 0, none⟩), .pointer (some ⟨bc, 0, none⟩), .slice none 0 0] 31, Blk b32 [.int .i64 (T1 pq ops m, q1).1.b, .int .i64 (T1 pq ops m, q1).1.a, .int .i64 (T1 pq ops m, q1).1.nd, .int .i64 (T1 pq ops m, q1).1.ph, .int .i64 (T1 pq ops m, q1).1.ti, .slice (T1 pq ops m, q1).2.fA (T1 pq ops m, q1).1.fr.length (T1 pq ops m, q1).2.fc, .slice (T1 pq ops m, q1).2.tA (T1 pq ops m, q1).1.to.length (T1 pq ops m, q1).2.tc] 43] ∧ Onw p.ba (List.replicate m 0) es ∧ es ≠ List.replicate m 0
  refine St_join En47 Iv48 ?_ ?_
  · refine St_ifP rfl (fun h50 => ?_) (fun h50 => ?_)
    · refine St_region (Zm rfl ?_)
      obtain ⟨g1, hg1⟩ := (hs.front 0 rfl).own_addr (by omega)
      refine Zr (run_as (run_index un25 inf3 rfl rfl hg1 (by decide) (by omega)) (show _ = Value.pointer (some ⟨g1, 0, none⟩) from rfl)) rfl ?_
      rw [hg1] at hs
      refine Ls_storeOwn hs inf3 rfl rfl rfl (by omega) (fun w51 hs => ?_)
      rw [← hg1] at hs
      rw [flatKI_put0] at hs
      refine Ls_nil ?_
      replace hs := hs.E1.E2.E4.E4.E4.F1.F6.F7.F7.F7.F6.F7.F7
      refine Jm_join (xs.set 0 1) ?_ ?_
      · rw [hEn47]; exact sE ⟨rfl, rfl, rfl, rfl, trivial⟩
      rw [hIv48]
      refine ⟨hs, hxo.one (by omega) (by assumption) rep_get0, fun z => ?_⟩
      have z2 : (xs.set 0 1).getD 0 0 = 1 := by rw [set_getD_eq (by omega)]
      rw [z, rep_get0] at z2; cases z2
    refine St_skip ?_
    replace hs := hs.E1.E2.E4.E4.E4.F1.F6.F7.F7.F7.F6.F7.F7
    refine Jm_join xs ?_ ?_
    · rw [hEn47]; exact sE ⟨rfl, rfl, rfl, rfl, trivial⟩
    rw [hIv48]
    refine ⟨hs, hxo, fun z => (absurd ?_ (show ¬ xs.getD 0 0 = 0 by assumption))⟩
    rw [z, rep_get0]
  rintro es w49 hI52
  rw [hIv48] at hI52
  obtain ⟨hs, hon, hne⟩ := hI52
  refine Jm_eqE (hEn47 _) ?_
  have hel : es.length = m := by rw [hon.1, hlr]
  obtain ⟨heb, hef, henf⟩ := onw_facts hon (rep_eb hm)
  have honq : Onw pq.ba (List.replicate m 0) es := by rw [hba]; exact hon
  refine Zq (St_seq ?_)
  obtain ⟨En53, hEn53⟩ := ex2 fun (Am : Option Addr) (cm : Nat) => ([(2, .pointer (some ⟨b2, 0, none⟩)), (5, .pointer (some ⟨b11, 0, none⟩)), (9, .pointer (some ⟨b32, 0, none⟩)), (10, .slice eA m eC), (11, .slice Am m cm)] : Env)
  obtain ⟨Iv54, hIv54⟩ := ew2 fun (Am : Option Addr) (cm : Nat) (w55 : World) => Sat w w55 [Own 3 1 (.slice Am (m + 1) cm) (m + 1) (KI.flat (es ++ [71])), Own 3 1 (.slice eA m eC) m (KI.flat es), Own 3 1 (.slice q1.fA (T1 pq ops m).fr.length q1.fc) (T1 pq ops m).fr.length (KI.flat (T1 pq ops m).fr), CA 79 43 bc bd bj pq ops [T1 pq ops m] false, JA 108 3 bj (some ⟨bd, 0, none⟩) (j1 m), DiskA 122 125 5 bd d1, Blk b2 [.int .i64 p.pa, .int .i64 p.st, .int .i64 p.wo, .slice p.oA p.on p.oc, .int .i64 p.ag, .int .i64 p.ba, .int .i64 p.wi, .int .i64 p.gu] 24, Blk b11 [.int .i64 p.pa, .int .i64 p.st, .int .i64 p.wo, .slice p.oA p.on p.oc, .int .i64 p.ag, .int .i64 p.ba, .int .i64 p.wi, .int .i64 p.gu, .pointer (some ⟨bd, 0, none⟩), .pointer (some ⟨bc, 0, none⟩), .slice none 0 0] 31, Blk b32 [.int .i64 (T1 pq ops m, q1).1.b, .int .i64 (T1 pq ops m, q1).1.a, .int .i64 (T1 pq ops m, q1).1.nd, .int .i64 (T1 pq ops m, q1).1.ph, .int .i64 (T1 pq ops m, q1).1.ti, .slice (T1 pq ops m, q1).2.fA (T1 pq ops m, q1).1.fr.length (T1 pq ops m, q1).2.fc, .slice (T1 pq ops m, q1).2.tA (T1 pq ops m, q1).1.to.length (T1 pq ops m, q1).2.tc] 43]
  refine St_join En53 Iv54 ?_ ?_
  · replace hs := hs.F5.F1
    refine St_hold (Hold.of (Ls := [_, _]) hs) mixed (fun w56 q57 => ?_)
    replace hs := hs.quiet q57
    have hH := Hold.of (Ls := [_, _]) hs
    refine Ym hH 1 rfl (by kernel_rfl) rfl (Ya hH 5 rfl (by kernel_rfl) (fun x hx => run_fd un24 inf3 rfl 0 rfl) (Ya hH 6 rfl (by kernel_rfl) (fun x hx => run_load sc3 rfl (hx.choose_spec.blk_at 1 rfl 0 rfl)) (An_two 0 3 (by kernel_rfl) rfl rfl ?_ ?_)))
    · refine Ls_literal [] hs un25 inf3 rfl rfl rfl rfl rfl rfl (fun b58 w59 hs => ?_)
      simp only [List.flatMap_cons, List.flatMap_nil, Value.cells, List.cons_append, List.nil_append] at hs
      replace hs := Sat.own_block hs 1 0 rfl (by decide)
      replace hs := hs.F2.F2
      replace hH := Hold.of (Ls := [_, _]) hs
      refine Ls_nil (Jm_An hH (An_two 2 3 (by kernel_rfl) rfl rfl ?_ ?_))
      · replace hs := hs.F2
        refine Ls_append hs un25 inf3 rfl (by decide) (by decide) rfl rfl (hs.rd_at 1 rfl) (flatKI_one _) (by omega) rfl (fun A60 c61 w62 hs => ?_)
        replace hs := hs.F2.F2
        replace hH := Hold.of (Ls := [_, _]) hs
        refine Ls_nil (Jm_An hH (An_only 3 (by kernel_rfl) rfl (Ls_literal [_] hs un25 inf3 rfl rfl rfl rfl rfl rfl (fun b63 w65 hs => ?_))))
        simp only [List.flatMap_cons, List.flatMap_nil, Value.cells, List.cons_append, List.nil_append] at hs
        replace hs := hs.F2.F2
        replace hH := Hold.of (Ls := [_, _]) hs
        refine Ls_nil (Jm_An hH (An_only 4 (by kernel_rfl) rfl ?_))
        replace hs := hs.F3
        refine Ls_append hs un25 inf3 rfl (by decide) (by decide) rfl rfl (rd_block (hs.is_at 3 rfl).2 1 1 rfl) (by simp [Value.oneCell']) (by omega) rfl (fun A66 c67 w68 hs => ?_)
        replace hs := hs.E3
        simp only [Nat.zero_add, List.nil_append] at hs ⊢
        rw [show KI.flat es ++ [Value.int .i64 71] = KI.flat (es ++ [71]) from by rw [El.flat_append]; rfl] at hs
        obtain ⟨Am, hAm⟩ : ∃ z, A66 = z := ⟨_, rfl⟩
        obtain ⟨cm, hcm⟩ : ∃ z, c67 = z := ⟨_, rfl⟩
        rw [hAm, hcm] at hs ⊢
        have hcapm := (hs.rd_at 0 rfl).cap
        replace hs := hs.F2.F2
        replace hH := Hold.of (Ls := [_, _]) hs
        refine Ls_nil (Jm_An hH (Ya hH 7 rfl (by kernel_rfl) (fun x hx => run_as (run_slice_h un25 inf3 rfl rfl (by omega) (by omega)) (show _ = Value.slice Am m cm from by rw [hm]; rfl)) (Ya hH 8 rfl (by kernel_rfl) (fun x hx => run_assign rfl) (An_done (by kernel_rfl) ?_))))
        replace hs := hs.F8.F8.F3.F8.F8.F8.F8.F7.F8
        refine Jm_join (Am, cm) ?_ ?_
        · rw [hEn53]; exact sE ⟨rfl, rfl, rfl, rfl, rfl, trivial⟩
        rw [hIv54]
        exact hs
      refine Ls_literal [_] hs un25 inf3 rfl rfl rfl rfl rfl rfl (fun b69 w70 hs => ?_)
      simp only [List.flatMap_cons, List.flatMap_nil, Value.cells, List.cons_append, List.nil_append] at hs
      replace hs := hs.F2.F2
      replace hH := Hold.of (Ls := [_, _]) hs
      refine Ls_nil (Jm_An hH (An_only 2 (by kernel_rfl) rfl ?_))
      replace hs := hs.F3
      refine Ls_append hs un25 inf3 rfl (by decide) (by decide) rfl rfl (hs.rd_at 1 rfl) (flatKI_one _) (by omega) rfl (fun A71 c72 w73 hs => ?_)
      replace hs := hs.F2.F2
      replace hH := Hold.of (Ls := [_, _]) hs
      refine Ls_nil (Jm_An hH (An_only 4 (by kernel_rfl) rfl ?_))
      replace hs := hs.F2
      refine Ls_append hs un25 inf3 rfl (by decide) (by decide) rfl rfl (rd_block (hs.is_at 3 rfl).2 1 1 rfl) (by simp [Value.oneCell']) (by omega) rfl (fun A74 c75 w76 hs => ?_)
      replace hs := hs.E3
      simp only [Nat.zero_add, List.nil_append] at hs ⊢
      rw [show KI.flat es ++ [Value.int .i64 71] = KI.flat (es ++ [71]) from by rw [El.flat_append]; rfl] at hs
      obtain ⟨Am, hAm⟩ : ∃ z, A74 = z := ⟨_, rfl⟩
      obtain ⟨cm, hcm⟩ : ∃ z, c75 = z := ⟨_, rfl⟩
      rw [hAm, hcm] at hs ⊢
      have hcapm := (hs.rd_at 0 rfl).cap
      replace hs := hs.F2.F2
      replace hH := Hold.of (Ls := [_, _]) hs
      refine Ls_nil (Jm_An hH (Ya hH 7 rfl (by kernel_rfl) (fun x hx => run_as (run_slice_h un25 inf3 rfl rfl (by omega) (by omega)) (show _ = Value.slice Am m cm from by rw [hm]; rfl)) (Ya hH 8 rfl (by kernel_rfl) (fun x hx => run_assign rfl) (An_done (by kernel_rfl) ?_))))
      replace hs := hs.F8.F8.F3.F8.F8.F8.F8.F7.F8
      refine Jm_join (Am, cm) ?_ ?_
      · rw [hEn53]; exact sE ⟨rfl, rfl, rfl, rfl, rfl, trivial⟩
      rw [hIv54]
      exact hs
    refine Ls_literal [_] hs un25 inf3 rfl rfl rfl rfl rfl rfl (fun b77 w78 hs => ?_)
    simp only [List.flatMap_cons, List.flatMap_nil, Value.cells, List.cons_append, List.nil_append] at hs
    replace hs := hs.F2.F2
    replace hH := Hold.of (Ls := [_, _]) hs
    refine Ls_nil (Jm_An hH (An_only 0 (by kernel_rfl) rfl (Ls_literal [] hs un25 inf3 rfl rfl rfl rfl rfl rfl (fun b79 w80 hs => ?_))))
    simp only [List.flatMap_cons, List.flatMap_nil, Value.cells, List.cons_append, List.nil_append] at hs
    replace hs := Sat.own_block hs 1 0 rfl (by decide)
    replace hs := hs.F2.F2
    replace hH := Hold.of (Ls := [_, _]) hs
    refine Ls_nil (Jm_An hH (An_only 2 (by kernel_rfl) rfl ?_))
    replace hs := hs.F2
    refine Ls_append hs un25 inf3 rfl (by decide) (by decide) rfl rfl (hs.rd_at 1 rfl) (flatKI_one _) (by omega) rfl (fun A81 c82 w83 hs => ?_)
    replace hs := hs.F2.F2
    replace hH := Hold.of (Ls := [_, _]) hs
    refine Ls_nil (Jm_An hH (An_only 4 (by kernel_rfl) rfl ?_))
    replace hs := hs.F2
    refine Ls_append hs un25 inf3 rfl (by decide) (by decide) rfl rfl (rd_block (hs.is_at 3 rfl).2 1 1 rfl) (by simp [Value.oneCell']) (by omega) rfl (fun A84 c85 w86 hs => ?_)
    replace hs := hs.E3
    simp only [Nat.zero_add, List.nil_append] at hs ⊢
    rw [show KI.flat es ++ [Value.int .i64 71] = KI.flat (es ++ [71]) from by rw [El.flat_append]; rfl] at hs
    obtain ⟨Am, hAm⟩ : ∃ z, A84 = z := ⟨_, rfl⟩
    obtain ⟨cm, hcm⟩ : ∃ z, c85 = z := ⟨_, rfl⟩
    rw [hAm, hcm] at hs ⊢
    have hcapm := (hs.rd_at 0 rfl).cap
    replace hs := hs.F2.F2
    replace hH := Hold.of (Ls := [_, _]) hs
    refine Ls_nil (Jm_An hH (Ya hH 7 rfl (by kernel_rfl) (fun x hx => run_as (run_slice_h un25 inf3 rfl rfl (by omega) (by omega)) (show _ = Value.slice Am m cm from by rw [hm]; rfl)) (Ya hH 8 rfl (by kernel_rfl) (fun x hx => run_assign rfl) (An_done (by kernel_rfl) ?_))))
    replace hs := hs.F8.F8.F3.F8.F8.F8.F8.F7.F8
    refine Jm_join (Am, cm) ?_ ?_
    · rw [hEn53]; exact sE ⟨rfl, rfl, rfl, rfl, rfl, trivial⟩
    rw [hIv54]
    exact hs
  rintro ⟨Am, cm⟩ w55 hI87
  rw [hIv54] at hI87
  replace hs := hI87
  refine Jm_eqE (hEn53 _ _) ?_
  have hcapm := (hs.rd_at 0 rfl).cap
  refine Zq (St_seq ?_)
  replace hs := hs.F8.F8
  refine St_hold (Hold.of (Ls := [_, _]) hs) mixed (fun w88 q89 => ?_)
  replace hs := hs.quiet q89
  have hH := Hold.of (Ls := [_, _]) hs
  refine Ya hH 0 rfl (by kernel_rfl) (fun x hx => run_fd un31 inf28 rfl 9 rfl) (Ya hH 1 rfl (by kernel_rfl) (fun x hx => run_load sc28 rfl (hx.choose_spec.blk_at 0 rfl 9 rfl)) (Ya hH 2 rfl (by kernel_rfl) (fun x hx => run_load_agg agg43 inf43 rfl rfl (hx.choose_spec.blk_cells 1 rfl 0 7)) (Ym hH 3 rfl (by kernel_rfl) rfl (An_only 4 (by kernel_rfl) rfl (Zc fn16 rfl (labout_c w88 2 (T1 pq ops m, q1) _ _ _) rfl ?_)))))
  rintro v90 w91 ⟨rfl, hsF⟩
  replace hs := hs.T hsF
  replace hs := hs.F1.F1
  replace hH := Hold.of (Ls := [_, _]) hs
  refine Ls_nil (Jm_An hH (An_only 5 (by kernel_rfl) rfl ?_))
  replace hs := hs.F7.F7.F7
  obtain ⟨ht2, hC2⟩ := first_ready hC1 hmq honq hne
  refine Zc fn15 rfl (cTake_c w w91 _ bc bd bj pq ops [T1 pq ops m] false (j1 m) d1 hs hC1.jo hC1.rows (aboutT 2 (T1 pq ops m) es) ⟨Am, m, cm, none, 0, 0, none, 0, 0⟩ (fun w' X z => ⟨dI_pre (z.rd_at 3 rfl) m hel (by omega), Rd.none w' 1, Rd.none w' 3⟩) hel (by refine ⟨?_, ?_, ?_⟩ <;> simp only <;> omega) (by simp) (fun t ht => by rw [List.mem_singleton] at ht; subst ht; show ([] : List Int).length ≤ _; decide) (fun t ht => by rw [List.mem_singleton] at ht; subst ht; exact ⟨by show (List.replicate m (0 : Int)).length ≤ _; omega, fun y hy => by rw [List.eq_of_mem_replicate hy]; decide⟩)) rfl ?_
  rintro v92 w93 ⟨vb, rfl, hs⟩
  simp only [ht2] at hs ⊢
  obtain ⟨gb, Ab, cb, hvb, h9⟩ := hs.moSome
  subst hvb
  replace hs := h9
  have hrl2 : (sayM 3 (G1 pq ops m es) es).es.length = m := hel
  rw [hrl2] at hs
  replace hs := hs.F6.F6
  replace hH := Hold.of (Ls := [_, _]) hs
  refine Ls_nil (Jm_An hH (Ym hH 6 rfl (by kernel_rfl) rfl (Ya hH 7 rfl (by kernel_rfl) (fun x hx => run_extract rfl rfl) (Ya hH 8 rfl (by kernel_rfl) (fun x hx => run_extract rfl rfl) (Ya hH 9 rfl (by kernel_rfl) (fun x hx => run_assign rfl) (Ya hH 10 rfl (by kernel_rfl) (fun x hx => run_assign rfl) (An_done (by kernel_rfl) (Zq (St_seq (St_seq (St_draw (fun x => Below w93.heap.size w93 x) mixed (fun w94 q95 => ?_))))))))))))
  have hH := q95.below
  replace hs := hs.quiet q95
  refine An_grow hH ?_
  replace hH := Below.refl w94.heap.size w94
  refine Ym hH 0 rfl (by kernel_rfl) rfl (Ya hH 1 rfl (by kernel_rfl) (fun x hx => run_asB (c := false) (run_neq rfl rfl) (by decide)) (Ym hH 2 rfl (by kernel_rfl) rfl (Yo hH 3 rfl (by kernel_rfl) rfl (fun x hx => run_move rfl) (Yo hH 4 rfl (by kernel_rfl) rfl (fun x hx => run_len un29 rfl) (Yo hH 5 rfl (by kernel_rfl) rfl (fun x hx => run_asB (c := false) (run_neq rfl rfl) (by decide)) (Ya hH 6 rfl (by kernel_rfl) (fun x hx => run_pick_f rfl rfl) (Ym hH 7 rfl (by kernel_rfl) rfl (Yo hH 8 rfl (by kernel_rfl) rfl (fun x hx => run_move rfl) (Yo hH 9 rfl (by kernel_rfl) rfl (fun x hx => run_move rfl) (An_only 10 (by kernel_rfl) rfl (Zo rfl (Zc fn13 rfl (ints19_c w94 _ _ _ es _ _ _ es (dI_pre (hs.rd_at 7 rfl) m hel (by omega)) (hs.rd_at 8 rfl) (hmz)) rfl ?_))))))))))))
  rintro v96 w97 ⟨rfl, hsF⟩
  replace hs := hs.T hsF
  rw [decide_eq_true rfl]
  replace hH := (hsF.below : Below w94.heap.size w94 w97)
  refine Ls_nil (Jm_An hH (An_grow hH ?_))
  replace hH := Below.refl w97.heap.size w97
  refine Yo hH 11 rfl (by kernel_rfl) rfl (fun x hx => run_not rfl) (Ya hH 12 rfl (by kernel_rfl) (fun x hx => run_pick_f rfl rfl) (Ym hH 13 rfl (by kernel_rfl) rfl (Yo hH 14 rfl (by kernel_rfl) rfl (fun x hx => run_move rfl) (Yo hH 15 rfl (by kernel_rfl) rfl (fun x hx => run_fd un24 inf3 rfl 0 rfl) ?_))))
  have h71 : (es ++ [71]).getD ((m : Nat) : Int).toNat 0 = 71 := by rw [← hel]; simp
  refine Yo hH 16 rfl (by kernel_rfl) rfl (fun x hx => run_as (run_load sc3 rfl ((hs.grow hx).blk_at 10 rfl 0 rfl)) (show _ = Value.int .i64 (m : Int) by rw [hm])) (Yo hH 17 rfl (by kernel_rfl) rfl (fun x hx => run_add rfl rfl (w64 (by omega))) (Yo hH 18 rfl (by kernel_rfl) rfl (fun x hx => run_as (run_slice_h un25 inf3 rfl rfl (by omega) (by omega)) (show _ = Value.slice Am (m + 1) cm from rfl)) (Yo hH 19 rfl (by kernel_rfl) rfl (fun x hx => run_fd un24 inf3 rfl 0 rfl) (Yo hH 20 rfl (by kernel_rfl) rfl (fun x hx => run_as (run_load sc3 rfl ((hs.grow hx).blk_at 10 rfl 0 rfl)) (show _ = Value.int .i64 (m : Int) by rw [hm])) (An_index_on 21  (KI) rfl (by kernel_rfl) (by kernel_rfl) (by kernel_rfl) rfl rfl (fun _ _ _ _ h => h) hH (fun x hx => ((hs.rd_at 7 rfl).grow hx)) un25 inf3 rfl rfl (by omega) (by omega) h71 rfl (fun b98 o99 hc100 => (Yo hH 22 rfl (by kernel_rfl) rfl (fun x hx => run_load sc3 rfl ((hc100 x hx) 0 _ rfl)) (Yo hH 23 rfl (by kernel_rfl) rfl (fun x hx => run_asB (c := false) (run_neq rfl rfl) (by decide)) (Ya hH 24 rfl (by kernel_rfl) (fun x hx => run_pick_f rfl rfl) (An_done (by kernel_rfl) (Zq (St_iff rfl (St_skip (Zq (St_seq (Zs (Za rfl (Zj (St_block ?_)))))))))))))))))))
  replace hs := hs.F1.F1.F10.F7.F7.F7.F9.F7.F10.F9.F10
  obtain ⟨En102, hEn102⟩ := ex1 fun (i : Nat) => ([(2, .pointer (some ⟨b2, 0, none⟩)), (5, .pointer (some ⟨b11, 0, none⟩)), (9, .pointer (some ⟨b32, 0, none⟩)), (10, .slice eA m eC), (11, .slice Am m cm), (12, .slice (some ⟨gb, 0, none⟩) 1 1), (13, .int .i64 (i : Int))] : Env)
  obtain ⟨Iv103, hIv103⟩ := ew1 fun (i : Nat) (wr : World) => ∃ xs ys zs, Sat w wr [Own 3 1 (.slice Am (m + 1) cm) (m + 1) xs, Own 3 1 (.slice Ab m cb) m ys, Own 3 1 (.slice q1.fA (T1 pq ops m).fr.length q1.fc) (T1 pq ops m).fr.length zs, Blk gb (mcells (sayM 3 (G1 pq ops m es) es) ⟨Ab, m, cb, none, 0, 0, none, 0, 0⟩) 41, Own 3 1 (.slice eA m eC) m (KI.flat es), CA 79 43 bc bd bj pq ops [G1 pq ops m es] false, JA 108 3 bj (some ⟨bd, 0, none⟩) (j1 m), DiskA 122 125 5 bd d1, Blk b2 [.int .i64 p.pa, .int .i64 p.st, .int .i64 p.wo, .slice p.oA p.on p.oc, .int .i64 p.ag, .int .i64 p.ba, .int .i64 p.wi, .int .i64 p.gu] 24, Blk b11 [.int .i64 p.pa, .int .i64 p.st, .int .i64 p.wo, .slice p.oA p.on p.oc, .int .i64 p.ag, .int .i64 p.ba, .int .i64 p.wi, .int .i64 p.gu, .pointer (some ⟨bd, 0, none⟩), .pointer (some ⟨bc, 0, none⟩), .slice none 0 0] 31, Blk b32 [.int .i64 (T1 pq ops m, q1).1.b, .int .i64 (T1 pq ops m, q1).1.a, .int .i64 (T1 pq ops m, q1).1.nd, .int .i64 (T1 pq ops m, q1).1.ph, .int .i64 (T1 pq ops m, q1).1.ti, .slice (T1 pq ops m, q1).2.fA (T1 pq ops m, q1).1.fr.length (T1 pq ops m, q1).2.fc, .slice (T1 pq ops m, q1).2.tA (T1 pq ops m, q1).1.to.length (T1 pq ops m, q1).2.tc] 43] ∧ i ≤ m
  obtain ⟨ms104, hms104⟩ := ex1 fun (i : Nat) => (m - i : Nat)
  refine St_loop En102 Iv103 ms104 (0) ?_ ?_ ?_
  · rw [hIv103]
    exact ⟨_, _, _, hs, by omega⟩
  · rw [hEn102]; exact sE ⟨rfl, rfl, rfl, rfl, rfl, rfl, rfl, trivial⟩
  rintro i wr hI105
  rw [hIv103] at hI105
  obtain ⟨zx, zy, zz, hs, hi⟩ := hI105
  refine St_eqE (hEn102 _) ?_
  have hfl : (T1 pq ops m).fr.length = m := hlr
  refine St_seq (Zs (Zm rfl (Zf un24 inf3 rfl 0 rfl (Zr (run_as (run_load sc3 rfl (hs.blk_at 8 rfl 0 rfl)) (show _ = Value.int .i64 (m : Int) by rw [hm])) rfl (Zr (run_lss rfl rfl) rfl (Zj (St_ifP rfl (fun h106 => ?_) (fun h106 => ?_))))))))
  · refine St_skip (Zq (St_seq (St_block (Zs (Zm rfl (Zm rfl ?_))))))
    obtain ⟨g3, hg3⟩ := (hs.front 0 rfl).own_addr (by omega)
    refine Zr (run_as (run_index un25 inf3 rfl rfl hg3 (by omega) (by omega)) (show _ = Value.pointer (some ⟨g3, i, none⟩) from by simp)) rfl ?_
    rw [hg3] at hs
    refine Ls_storeOwn hs inf3 rfl rfl rfl (by omega) (fun w107 hs => ?_)
    rw [← hg3] at hs
    refine Zt (Zm rfl (Ls_index (KM) (msg_rd (hs.is_at 3 rfl).2) un29 inf41 rfl rfl (by omega) (by omega) rfl rfl (fun b108 o109 hc110 => (Zr (run_field un41 rfl inf25 (by decide) rfl) rfl (Zr (run_as (run_load sc25 rfl (hc110 6 _ rfl)) (show _ = Value.slice Ab m cb from rfl)) rfl (Zm rfl ?_))))))
    obtain ⟨g4, hg4⟩ := (hs.front 1 rfl).own_addr (by omega)
    refine Zr (run_as (run_index un25 inf3 rfl rfl hg4 (by omega) (by omega)) (show _ = Value.pointer (some ⟨g4, i, none⟩) from by simp)) rfl ?_
    replace hs := hs.F1
    rw [hg4] at hs
    refine Ls_storeOwn hs inf3 rfl rfl rfl (by omega) (fun w111 hs => ?_)
    rw [← hg4] at hs
    refine Zn (Zf un43 inf25 rfl 5 rfl (Zr (run_as (run_load sc25 rfl (hs.blk_at 10 rfl 5 rfl)) (show _ = Value.slice q1.fA (T1 pq ops m).fr.length q1.fc from rfl)) rfl (Zm rfl ?_)))
    obtain ⟨g5, hg5⟩ := (hs.front 2 rfl).own_addr (by omega)
    refine Zr (run_as (run_index un25 inf3 rfl rfl hg5 (by omega) (by omega)) (show _ = Value.pointer (some ⟨g5, i, none⟩) from by simp)) rfl ?_
    replace hs := hs.F2
    rw [hg5] at hs
    refine Ls_storeOwn hs inf3 rfl rfl rfl (by omega) (fun w112 hs => ?_)
    rw [← hg5] at hs
    refine Ls_nil (Jm_block_normal (Zq (St_region (Zm rfl (Zr (run_add rfl rfl (w64 (by omega))) rfl (Za rfl (Ls_nil ?_)))))))
    replace hs := hs.F10.F10.F10.F10.F10.F10.F10.F10.F8.F9.F10
    refine Jm_round (i + 1) ?_ ?_ ?_
    · rw [hEn102]; exact sE ⟨rfl, rfl, rfl, rfl, rfl, rfl, rfl, trivial⟩
    · rw [hIv103]
      exact ⟨_, _, _, hs, by omega⟩
    rw [hms104, hms104]
    omega
  refine St_exit (Jm_then_exit (Jm_then_exit (Jm_block_same (Zq (Zs (Zf un31 inf28 rfl 9 rfl (Zl sc28 rfl (hs.blk_at 9 rfl 9 rfl) ?_)))))))
  replace hs := hs.F5
  refine Zc fn12 rfl (cTries_c w wr _ bc bd bj pq ops [G1 pq ops m es] false hs (by simp) (fun t ht => by rw [List.mem_singleton] at ht; subst ht; exact ⟨by show (List.replicate m (0 : Int)).length ≤ _; omega, by show es.length ≤ _; omega⟩)) rfl ?_
  rintro v113 w114 ⟨vo, obA, obc, hvo, rfl, hs⟩
  obtain ⟨q2, hq2⟩ := one_row hvo
  subst hq2
  replace hs := two_rows hs
  refine Za rfl (Zj (St_seq (St_seq (St_draw (fun x => Below w114.heap.size w114 x) mixed (fun w115 q116 => ?_)))))
  have hH := q116.below
  replace hs := hs.quiet q116
  refine An_grow hH ?_
  replace hH := Below.refl w115.heap.size w115
  have hgl : (G1 pq ops m es).to.length = m := hel
  have hgf : (G1 pq ops m es).fr.length = m := hlr
  refine Ym hH 0 rfl (by kernel_rfl) rfl (Ya hH 1 rfl (by kernel_rfl) (fun x hx => run_len un44 rfl) (Ya hH 2 rfl (by kernel_rfl) (fun x hx => run_asB (c := false) (run_neq rfl rfl) (by simp)) (Ym hH 3 rfl (by kernel_rfl) rfl (Yo hH 4 rfl (by kernel_rfl) rfl (fun x hx => run_move rfl) (An_index_on 5  (KT) rfl (by kernel_rfl) (by kernel_rfl) (by kernel_rfl) rfl rfl (fun _ _ _ _ h => h) hH (fun x hx => ((hs.rd_at 0 rfl).grow hx)) un44 inf43 rfl rfl (by decide) (by simp) (show _ = (G1 pq ops m es, q2) from rfl) rfl (fun b117 o118 hc119 => (Yo hH 6 rfl (by kernel_rfl) rfl (fun x hx => run_field un43 rfl inf25 (by decide) rfl) (Yo hH 7 rfl (by kernel_rfl) rfl (fun x hx => run_as (run_load sc25 rfl ((hc119 x hx) 6 _ rfl)) (show _ = Value.slice q2.tA (G1 pq ops m es).to.length q2.tc from rfl)) (Yo hH 8 rfl (by kernel_rfl) rfl (fun x hx => run_move rfl) (An_only 9 (by kernel_rfl) rfl (Zo rfl (Zc fn13 rfl (ints19_c w115 _ _ _ es _ _ _ es (hs.rd_at 3 rfl) (hs.rd_at 8 rfl) (by rw [hgl]; exact hmz)) rfl ?_))))))))))))
  rintro v120 w121 ⟨rfl, hsF⟩
  replace hs := hs.T hsF
  rw [decide_eq_true rfl]
  replace hH := (hsF.below : Below w115.heap.size w115 w121)
  refine Ls_nil (Jm_An hH (An_grow hH ?_))
  replace hH := Below.refl w121.heap.size w121
  refine Yo hH 10 rfl (by kernel_rfl) rfl (fun x hx => run_not rfl) (Ya hH 11 rfl (by kernel_rfl) (fun x hx => run_pick_f rfl rfl) (Ym hH 12 rfl (by kernel_rfl) rfl (Yo hH 13 rfl (by kernel_rfl) rfl (fun x hx => run_move rfl) (An_index_on 14  (KT) rfl (by kernel_rfl) (by kernel_rfl) (by kernel_rfl) rfl rfl (fun _ _ _ _ h => h) hH (fun x hx => ((hs.rd_at 0 rfl).grow hx)) un44 inf43 rfl rfl (by decide) (by simp) (show _ = (G1 pq ops m es, q2) from rfl) rfl (fun b122 o123 hc124 => (Yo hH 15 rfl (by kernel_rfl) rfl (fun x hx => run_field un43 rfl inf25 (by decide) rfl) (Yo hH 16 rfl (by kernel_rfl) rfl (fun x hx => run_as (run_load sc25 rfl ((hc124 x hx) 5 _ rfl)) (show _ = Value.slice q2.fA (G1 pq ops m es).fr.length q2.fc from rfl)) (Yo hH 17 rfl (by kernel_rfl) rfl (fun x hx => run_fd un24 inf3 rfl 0 rfl) (Yo hH 18 rfl (by kernel_rfl) rfl (fun x hx => run_as (run_load sc3 rfl ((hs.grow hx).blk_at 11 rfl 0 rfl)) (show _ = Value.int .i64 (m : Int) by rw [hm])) (An_only 19 (by kernel_rfl) rfl (Zo rfl (Ls_make (m := m) (Sat.start w121) un25 infq3 rfl rfl rfl (by omega) (by omega) rfl (fun b125 w126 hsN127 => ?_)))))))))))))
  replace hs := hs.T hsN127
  replace hH := (hsN127.below : Below w121.heap.size w121 w126)
  refine Ls_nil (Jm_An hH (An_grow hH ?_))
  replace hH := Below.refl w126.heap.size w126
  refine An_only 20 (by kernel_rfl) rfl (Zo rfl (Zc fn13 rfl (ints19_c w126 _ _ _ (List.replicate m 0) _ _ _ (List.replicate m 0) (hs.rd_at 3 rfl) (by have h9 := hs.rd_at 0 rfl; rw [rep_ints] at h9; exact h9) (by rw [hgf]; exact hmz)) rfl ?_))
  rintro v128 w129 ⟨rfl, hsF⟩
  replace hs := hs.T hsF
  rw [decide_eq_true rfl]
  replace hH := (hsF.below : Below w126.heap.size w126 w129)
  refine Ls_nil (Jm_An hH (An_grow hH ?_))
  replace hH := Below.refl w129.heap.size w129
  refine Yo hH 21 rfl (by kernel_rfl) rfl (fun x hx => run_not rfl) (Ya hH 22 rfl (by kernel_rfl) (fun x hx => run_pick_f rfl rfl) (An_done (by kernel_rfl) (Zq (St_iff rfl (St_skip (Zq (Zs (Zm rfl (Ls_index (KT) (hs.rd_at 1 rfl) un44 inf43 rfl rfl (by decide) (by simp) (show _ = (G1 pq ops m es, q2) from rfl) rfl (fun b131 o132 hc133 => (Zr (run_field un43 rfl inf25 (by decide) rfl) rfl (Zr (run_as (run_load sc25 rfl (hc133 6 _ rfl)) (show _ = Value.slice q2.tA (G1 pq ops m es).to.length q2.tc from rfl)) rfl ?_))))))))))))
  obtain ⟨g6, hg6⟩ := (hs.front 4 rfl).own_addr (by omega)
  refine Zr (run_as (run_index un25 inf3 rfl rfl hg6 (by decide) (by omega)) (show _ = Value.pointer (some ⟨g6, 0, none⟩) from rfl)) rfl ?_
  replace hs := hs.F4
  rw [hg6] at hs
  refine Ls_storeOwn hs inf3 rfl rfl rfl (by omega) (fun w134 hs => ?_)
  rw [← hg6] at hs
  refine Zt (Zm rfl (Ls_index (KT) (hs.rd_at 2 rfl) un44 inf43 rfl rfl (by decide) (by simp) (show _ = (G1 pq ops m es, q2) from rfl) rfl (fun b135 o136 hc137 => (Zr (run_field un43 rfl inf25 (by decide) rfl) rfl (Zr (run_as (run_load sc25 rfl (hc137 5 _ rfl)) (show _ = Value.slice q2.fA (G1 pq ops m es).fr.length q2.fc from rfl)) rfl ?_)))))
  obtain ⟨g7, hg7⟩ := (hs.front 4 rfl).own_addr (by omega)
  refine Zr (run_as (run_index un25 inf3 rfl rfl hg7 (by decide) (by omega)) (show _ = Value.pointer (some ⟨g7, 0, none⟩) from rfl)) rfl ?_
  replace hs := hs.F4
  rw [hg7] at hs
  refine Ls_storeOwn hs inf3 rfl rfl rfl (by omega) (fun w138 hs => ?_)
  rw [← hg7] at hs
  refine Zj (St_seq ?_)
  replace hs := hs.F3
  replace hs := hs.front 13 rfl
  simp only [List.cons_append, List.nil_append, List.eraseIdx_cons_zero, List.eraseIdx_cons_succ] at hs
  refine St_hold (Hold.of (Ls := [_, _]) hs) mixed (fun w139 q140 => ?_)
  replace hs := hs.quiet q140
  have hH := Hold.of (Ls := [_, _]) hs
  refine Ya hH 0 rfl (by kernel_rfl) (fun x hx => run_fd un31 inf28 rfl 9 rfl) (Ya hH 1 rfl (by kernel_rfl) (fun x hx => run_load sc28 rfl (hx.choose_spec.blk_at 0 rfl 9 rfl)) (Ym hH 2 rfl (by kernel_rfl) rfl (An_index 3  (KT) rfl (by kernel_rfl) (by kernel_rfl) (by kernel_rfl) (fun _ _ _ _ h => h) hH (fun x hx => (hx.choose_spec.rd_at 1 rfl)) un44 inf43 rfl rfl (by decide) (by simp) (show _ = (G1 pq ops m es, q2) from rfl) rfl (fun b141 o142 hc143 => (Ya hH 4 rfl (by kernel_rfl) (fun x hx => run_as (run_load_agg agg43 inf43 rfl rfl (hc143 x hx)) (show _ = Value.agg #[.int .i64 (G1 pq ops m es, q2).1.b, .int .i64 (G1 pq ops m es, q2).1.a, .int .i64 (G1 pq ops m es, q2).1.nd, .int .i64 (G1 pq ops m es, q2).1.ph, .int .i64 (G1 pq ops m es, q2).1.ti, .slice (G1 pq ops m es, q2).2.fA (G1 pq ops m es, q2).1.fr.length (G1 pq ops m es, q2).2.fc, .slice (G1 pq ops m es, q2).2.tA (G1 pq ops m es, q2).1.to.length (G1 pq ops m es, q2).2.tc] from rfl)) (Ym hH 5 rfl (by kernel_rfl) rfl (An_only 6 (by kernel_rfl) rfl (Zc fn16 rfl (labout_c w139 8 (G1 pq ops m es, q2) _ _ _) rfl ?_))))))))
  rintro v144 w145 ⟨rfl, hsF⟩
  replace hs := hs.T hsF
  replace hs := hs.F1.F1
  replace hH := Hold.of (Ls := [_, _]) hs
  refine Ls_nil (Jm_An hH (An_only 7 (by kernel_rfl) rfl ?_))
  replace hs := hs.F12.F12.F7
  obtain ⟨d2, ht3, hC3, ha2⟩ := first_done hC2 (by rw [hmq, ← hm]; exact heb) ha1
  refine Zc fn15 rfl (cTake_c w w145 _ bc bd bj pq ops [G1 pq ops m es] false (j1 m) d1 hs hC2.jo hC2.rows (aboutT 8 (T1 pq ops m) es) ⟨eA, m, eC, none, 0, 0, none, 0, 0⟩ (fun w' X z => ⟨z.rd_at 10 rfl, Rd.none w' 1, Rd.none w' 3⟩) hel (by refine ⟨?_, ?_, ?_⟩ <;> simp only <;> omega) (by simp) (fun t ht => by rw [List.mem_singleton] at ht; subst ht; show es.length ≤ _; omega) (fun t ht => by rw [List.mem_singleton] at ht; subst ht; exact ⟨by show (List.replicate m (0 : Int)).length ≤ _; omega, fun y hy => by rw [List.eq_of_mem_replicate hy]; decide⟩)) rfl ?_
  rintro v146 w147 ⟨vb2, rfl, hs⟩
  simp only [ht3] at hs ⊢
  obtain ⟨hvc, h9⟩ := hs.moNone
  subst hvc
  replace hs := h9
  obtain ⟨j2, hj2⟩ : ∃ z, jnext (j1 m) ⟨1, List.replicate m 0, es, 1⟩ = z := ⟨_, rfl⟩
  have hjb : j2.n.batch = 1 := by rw [← hj2]; rfl
  have hjp : j2.n.prev = List.replicate m 0 := by rw [← hj2]; rfl
  have hjc : j2.n.cur = es := by rw [← hj2]; rfl
  have hjpl : j2.n.prev.length = m := by rw [hjp, hlr]
  have hjcl : j2.n.cur.length = m := by rw [hjc, hel]
  rw [hj2] at hs
  replace hs := hs.F4.F4
  replace hH := Hold.of (Ls := [_, _]) hs
  refine Ls_nil (Jm_An hH (Ym hH 8 rfl (by kernel_rfl) rfl (Ya hH 9 rfl (by kernel_rfl) (fun x hx => run_extract rfl rfl) (Ya hH 10 rfl (by kernel_rfl) (fun x hx => run_extract rfl rfl) (Ya hH 11 rfl (by kernel_rfl) (fun x hx => run_assign rfl) (An_done (by kernel_rfl) (Zq (Zs (Zf un31 inf28 rfl 9 rfl (Zl sc28 rfl (hs.blk_at 0 rfl 9 rfl) ?_))))))))))
  replace hs := hs.F3.F3
  refine Zc fn17 rfl (cNote_c w w147 _ bc bd bj pq ops [] false j2 hs (by omega)) rfl ?_
  rintro v148 w149 ⟨Nap, nap, Nac, nac, rfl, hs⟩
  simp only [hjp, hjc, hjb, hlr, hel] at hs ⊢
  refine Ls_alloc hs inf53 rfl (fun b151 w150 hs => (Ls_storeAgg hs inf53 rfl rfl rfl rfl (by simp [Value.oneCell', Value.cells, mcells, tcells]) (fun w152 hs => (Zj (St_seq (Zs (Zm rfl (Zr (run_asB (c := false) (run_neq rfl rfl) (by decide)) rfl (Zm rfl (Zo rfl (Zf un53 inf51 rfl 0 rfl (Zo rfl (Zf un51 inf3 rfl 0 rfl (Zo rfl (Zl sc3 rfl (hs.blk_at 0 rfl 0 rfl) (Zo rfl (Zr (run_asB (c := false) (run_neq rfl rfl) (by decide)) rfl (Zr (run_pick_f rfl rfl) rfl (Zm rfl (Zo rfl (Zf un53 inf51 rfl 0 rfl (Zo rfl (Zf un51 inf25 rfl 2 rfl (Zo rfl (Zl sc25 rfl (hs.blk_at 0 rfl 2 rfl) (Zo rfl (Zm rfl (Zo rfl (Zc fn13 rfl (ints19_c w152 _ _ _ es _ _ _ es (hs.rd_at 2 rfl) (hs.rd_at 15 rfl) (hmz)) rfl ?_)))))))))))))))))))))))))))))
  rintro v153 w154 ⟨rfl, hsF⟩
  replace hs := hs.T hsF
  rw [decide_eq_true rfl]
  refine Zo rfl (Zr (run_not rfl) rfl (Zr (run_pick_f rfl rfl) rfl (Zj (St_iff rfl (St_skip (Zq (Zs (Zf un53 inf51 rfl 0 rfl (Zf un51 inf25 rfl 2 rfl (Zl sc25 rfl (hs.blk_at 0 rfl 2 rfl) ?_))))))))))
  obtain ⟨g8, hg8⟩ := (hs.front 2 rfl).own_addr (by omega)
  refine Zr (run_as (run_index un25 inf3 rfl rfl hg8 (by decide) (by omega)) (show _ = Value.pointer (some ⟨g8, 0, none⟩) from rfl)) rfl ?_
  replace hs := hs.F2
  rw [hg8] at hs
  refine Ls_storeOwn hs inf3 rfl rfl rfl (by omega) (fun w156 hs => ?_)
  rw [← hg8] at hs
  refine Zt (Zf un53 inf51 rfl 0 rfl (Zf un51 inf25 rfl 1 rfl (Zl sc25 rfl (hs.blk_at 1 rfl 1 rfl) ?_)))
  obtain ⟨g9, hg9⟩ := (hs.front 2 rfl).own_addr (by omega)
  refine Zr (run_as (run_index un25 inf3 rfl rfl hg9 (by decide) (by omega)) (show _ = Value.pointer (some ⟨g9, 0, none⟩) from rfl)) rfl ?_
  replace hs := hs.F2
  rw [hg9] at hs
  refine Ls_storeOwn hs inf3 rfl rfl rfl (by omega) (fun w157 hs => ?_)
  rw [← hg9] at hs
  refine Zt (Zf un31 inf28 rfl 9 rfl (Zl sc28 rfl (hs.blk_at 5 rfl 9 rfl) ?_))
  replace hs := hs.F4.F4
  refine Zc fn17 rfl (cNote_c w w157 _ bc bd bj pq ops [] false j2 hs (by omega)) rfl ?_
  rintro v158 w159 ⟨Nbp, nbp, Nbc, nbc, rfl, hs⟩
  simp only [hjp, hjc, hjb, hlr, hel] at hs ⊢
  refine Ls_alloc hs inf53 rfl (fun b161 w160 hs => (Ls_storeAgg hs inf53 rfl rfl rfl rfl (by simp [Value.oneCell', Value.cells, mcells, tcells]) (fun w162 hs => (Zj (St_seq (St_draw (fun x => Below w162.heap.size w162 x) mixed (fun w163 q164 => ?_)))))))
  have hH := q164.below
  replace hs := hs.quiet q164
  refine An_grow hH ?_
  replace hH := Below.refl w163.heap.size w163
  refine Ya hH 0 rfl (by kernel_rfl) (fun x hx => run_fd un53 inf51 rfl 0 rfl) (Ya hH 1 rfl (by kernel_rfl) (fun x hx => run_fd un51 inf25 rfl 2 rfl) (Ya hH 2 rfl (by kernel_rfl) (fun x hx => run_load sc25 rfl ((hs.grow hx).blk_at 0 rfl 2 rfl)) (Ym hH 3 rfl (by kernel_rfl) rfl (An_only 4 (by kernel_rfl) rfl (Zc fn13 rfl (ints19_c w163 _ _ _ es _ _ _ es (hs.rd_at 2 rfl) (hs.rd_at 18 rfl) (hmz)) rfl ?_)))))
  rintro v165 w166 ⟨rfl, hsF⟩
  replace hs := hs.T hsF
  rw [decide_eq_true rfl]
  replace hH := (hsF.below : Below w163.heap.size w163 w166)
  refine Ls_nil (Jm_An hH (An_grow hH ?_))
  replace hH := Below.refl w166.heap.size w166
  refine Ym hH 5 rfl (by kernel_rfl) rfl (Yo hH 6 rfl (by kernel_rfl) rfl (fun x hx => run_fd un53 inf51 rfl 0 rfl) (Yo hH 7 rfl (by kernel_rfl) rfl (fun x hx => run_fd un51 inf25 rfl 1 rfl) (Yo hH 8 rfl (by kernel_rfl) rfl (fun x hx => run_load sc25 rfl ((hs.grow hx).blk_at 0 rfl 1 rfl)) (Yo hH 9 rfl (by kernel_rfl) rfl (fun x hx => run_fd un24 inf3 rfl 0 rfl) (Yo hH 10 rfl (by kernel_rfl) rfl (fun x hx => run_as (run_load sc3 rfl ((hs.grow hx).blk_at 19 rfl 0 rfl)) (show _ = Value.int .i64 (m : Int) by rw [hm])) (An_only 11 (by kernel_rfl) rfl (Zo rfl (Ls_make (m := m) (Sat.start w166) un25 infq3 rfl rfl rfl (by omega) (by omega) rfl (fun b167 w168 hsN169 => ?_)))))))))
  replace hs := hs.T hsN169
  replace hH := (hsN169.below : Below w166.heap.size w166 w168)
  refine Ls_nil (Jm_An hH (An_grow hH ?_))
  replace hH := Below.refl w168.heap.size w168
  refine An_only 12 (by kernel_rfl) rfl (Zo rfl (Zc fn13 rfl (ints19_c w168 _ _ _ (List.replicate m 0) _ _ _ (List.replicate m 0) (hs.rd_at 2 rfl) (by have h9 := hs.rd_at 0 rfl; rw [rep_ints] at h9; exact h9) (hmz)) rfl ?_))
  rintro v170 w171 ⟨rfl, hsF⟩
  replace hs := hs.T hsF
  rw [decide_eq_true rfl]
  replace hH := (hsF.below : Below w168.heap.size w168 w171)
  refine Ls_nil (Jm_An hH (An_grow hH ?_))
  replace hH := Below.refl w171.heap.size w171
  refine Ya hH 13 rfl (by kernel_rfl) (fun x hx => run_pick_t rfl rfl) (Ya hH 14 rfl (by kernel_rfl) (fun x hx => run_assign rfl) (An_done (by kernel_rfl) (Zq (St_ret (Jm_ret1 rfl rfl ?_)))))
  exact ⟨_, rfl, rfl, hs.below⟩
end Go.Proofs.Ytcifdianinbkeaa.Lg
set_option linter.unusedVariables false
set_option linter.unusedSimpArgs false
namespace Go.Proofs.Ytcifdianinbkeaa.coordMemory
open Go.ChangeShapes Go.WideShapes Go.ChangeAt Go.RowKit
open Go.Proofs.Ytcifdianinbkeaa.Lg Go.Proofs.Ytcifdianinbkeaa.PlanPure
theorem own : ownKnob Try.prog.godebug = none := by kernel_rfl
theorem laidOut : laidOutB Try.prog = true := by kernel_rfl
set_option maxRecDepth 100000 in
theorem lifted (os : Os) (started : os.Started) (H : Type) (enc : TypeId × Value → H) :
    ReturnsInHanded {} Try.checked os 3 .any (Rows.coordMemorySpec.pre6 enc Try.prog Try.f3 Rows.coordMemoryRow.domain false) (Rows.coordMemorySpec.post enc Try.prog Try.f3 false true false false) := by
  refine returnsInHanded_of_change_sized (C := Try.checked) own started (by kernel_rfl) Try.func3
    (ChangeSpec.witness6 (enc := enc) (C := Try.checked) false ⟨#[], #[.agg #[.int .i64 0, .int .i64 0, .int .i64 0, .slice none 0 0, .int .i64 0, .int .i64 0, .int .i64 0, .int .i64 0], .slice none 0 0], []⟩ 8 (by kernel_rfl) (by kernel_rfl) (by kernel_rfl) (by kernel_rfl)) ?_
  intro W base args ds gs before hval0 hW hcnd hsz0 _
  have hsz : (DataW.weightsEach Try.prog (Try.f3.params.toList ++ Rows.coordMemorySpec.plain.varTypes Try.prog) (ds ++ gs)).all (· ≤ reachBytes) = true := hsz0
  have hval : ∀ (j : Nat) t v, Try.f3.params[j]? = some t → args[j]? = some v → Value.okWide Try.prog W .any base t v := hval0
  have hW' := hW
  obtain ⟨p, q, hA0, hV, rfl, hfz, hnd⟩ := hW
  have hA : DataW.TrodAll enc Try.prog W 0 (fun _ => true) true Try.f3.params.toList args.toList ds p := hA0
  rw [Try.params3] at hA hval hsz
  obtain ⟨v0, vs0, d0, ds0, p0, q0, hargs, rfl, rfl, h0, r0⟩ := trodAll_cons hA
  obtain ⟨v1, vs1, d1, ds1, p1, q1, rfl, rfl, rfl, h1, r1⟩ := trodAll_cons r0
  obtain ⟨rfl, rfl, rfl⟩ := trodAll_nil r1
  obtain rfl : args = #[v0, v1] := by cases args; simp_all
  obtain ⟨rfl, rfl⟩ := trodVars_none hV
  obtain ⟨cs0, rfl, _⟩ := okWide_struct Try.underlying24 (hval 0 24 v0 rfl rfl)
  have k0 := h0
  have lt0 : ∀ x ∈ p0, x.block < W.heap.size := by obtain ⟨m, hm⟩ := k0; exact DataW.trod_lt m _ _ _ hm
  obtain ⟨fu0, hf0⟩ := h0
  obtain ⟨s0_0, s0_1, s0_2, s0_3, s0_3n, s0_3c, s0_4, s0_5, s0_6, s0_7, ec0, g0_0, g0_1, g0_2, g0_3, g0_4, g0_5, g0_6, g0_7, g0_8, g0_9⟩ := dec24 hf0
  obtain rfl : cs0 = #[.int .i64 s0_0, .int .i64 s0_1, .int .i64 s0_2, .slice s0_3 s0_3n s0_3c, .int .i64 s0_4, .int .i64 s0_5, .int .i64 s0_6, .int .i64 s0_7] := Array.ext' ec0
  obtain ⟨od0, op0, ot0, _⟩ := g0_3
  obtain ⟨ops0, rdo0, _, _⟩ := rd_slice' KOp (fun _ => True) Try.underlying22 (by kernel_rfl) (by decide) (fun n cs y hy => by obtain ⟨a, b, c, e, _⟩ := dec94 hy; exact ⟨(a, b, c), e.symm, trivial⟩) ot0
  have mo0 : s0_3n ≤ 9223372036854775807 := by have := g0_4; have := g0_5; simp only [maxLen] at this; omega
  have mp0 : chk ⟨s0_0, s0_1, s0_2, s0_3, s0_3n, s0_3c, s0_4, s0_5, s0_6, s0_7⟩ ops0 = 0 → s0_3n ≤ 67108864 := fun hc => by have h8 := chk_len hc; have h9 := lenKOp rdo0; omega
  obtain ⟨A1, len1, cap1, rfl⟩ := okWide_slice Try.underlying25 (hval 1 25 v1 rfl rfl)
  have k1 := h1
  have lt1 : ∀ x ∈ p1, x.block < W.heap.size := by obtain ⟨m, hm⟩ := k1; exact DataW.trod_lt m _ _ _ hm
  obtain ⟨l, rd1, ln1, wf1⟩ := rd_ints Try.underlying25 Try.underlying3 (by kernel_rfl) h1
  have sz1 : len1 * 8 ≤ 140737488351232 := sized_nums hsz (j := 1) (t := 25) rfl rfl Try.underlying25 Try.underlying3 (by kernel_rfl) (by kernel_rfl) h1
  clear hA0 hval0 hsz0 hsz
  refine (if hc : chk ⟨s0_0, s0_1, s0_2, s0_3, s0_3n, s0_3c, s0_4, s0_5, s0_6, s0_7⟩ ops0 = 0 then CoordMemory_ok W ⟨s0_0, s0_1, s0_2, s0_3, s0_3n, s0_3c, s0_4, s0_5, s0_6, s0_7⟩ ops0 rdo0 (mp0 hc) hc A1 len1 cap1 l rd1 (by omega) else CoordMemory_bad W ⟨s0_0, s0_1, s0_2, s0_3, s0_3n, s0_3c, s0_4, s0_5, s0_6, s0_7⟩ ops0 rdo0 mo0 hc A1 len1 cap1).mono fun e W' ⟨v, he, hv, bel⟩ => ?_
  subst he
  subst hv
  exact ⟨_, rfl, _, _, _, [], _, [], hW', trodAll_mk1 (shut_bool Try.underlying4 _), (trodAll_cons_mk (Below.trod laidOut (by kernel_rfl) (of_decide_eq_true (by kernel_rfl)) k0 bel lt0) (trodAll_cons_mk (Below.trod laidOut (by kernel_rfl) (of_decide_eq_true (by kernel_rfl)) k1 bel lt1) trodAll_mk0)), rfl, bel.frame _, fun h => by cases h⟩
theorem over : Rows.coordMemoryRow.holds Try.pinned (OpenSpec.ofChange Rows.coordMemorySpec) :=
  OpenClaim.holds_of_wide 3 Try.f3 rfl rfl rfl rfl rfl rfl rfl ⟨rfl, rfl, rfl, rfl, rfl⟩ rfl rfl rfl rfl rfl (by kernel_rfl) Try.func3 (by kernel_rfl)
    (of_decide_eq_true (by kernel_rfl)) (by unfold Func.isWrapper; first | (rw [if_pos (by decide +kernel)]; kernel_rfl) | (rw [if_neg (by decide +kernel)]; exact ⟨rfl, rfl⟩))
    (fun os started H enc _ => lifted os started H enc)
end Go.Proofs.Ytcifdianinbkeaa.coordMemory
namespace Go.Proofs.Ytcifdianinbkeaa
/-- The row, under a short name, for the claim. -/
theorem coordMemory_holds : Rows.CoordMemorySaid := coordMemory.over
end Go.Proofs.Ytcifdianinbkeaa
