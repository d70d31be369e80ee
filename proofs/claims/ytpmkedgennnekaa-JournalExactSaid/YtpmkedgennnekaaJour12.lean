/-
  The reference's notes and journals: small functions, walked. By program (gen/jour12.py).
-/
import Derived.Test.YtpmkedgennnekaaJour8
import Derived.Test.YtpmkedgennnekaaDiskO
set_option linter.unusedVariables false
set_option linter.unusedSimpArgs false
namespace Go.Proofs.Ytpmkedgennnekaa.Lg
open Go Go.RowKit Go.Proofs.Ytpmkedgennnekaa.WirePure
theorem rNums_ok (w : World) (A : Option Addr) (n c : Nat) (l : List Int) (hr : Rd w A n c 1 (KI.flat l)) (hn : n * 10 + 20 ≤ 140737488355328) (hw : ∀ x ∈ l, 0 ≤ x ∧ x ≤ 256) :
    Calls Try.prog 87 [.slice A n c].toArray w (Ret (fun v' w' => ∃ A' c', v' = .tuple #[.slice A' (nm l).length c', .int .i64 0] ∧ Sat w w' [Own 5 1 (.slice A' (nm l).length c') (nm l).length (bytesV (nm l))])) :=
  (rNums_c w A n c l hr hn (fun x hx => by have := hw x hx; omega)).mono fun e w' ⟨v, he, h2⟩ => ⟨v, he, by
    rcases h2 with ⟨⟨x, hx, h0⟩, _⟩ | ⟨_, A', c', rfl, hs⟩
    · exfalso; have := hw x hx; omega
    · exact ⟨A', c', rfl, hs⟩⟩
theorem fwd_eq {a b : List Int} : (fwd a b ∧ fwd b a) ↔ a = b := by
  constructor
  · rintro ⟨⟨h1, h2⟩, _, h3⟩
    refine List.ext_getElem h1 fun i hi hi2 => ?_
    have x := h2 i hi
    have y := h3 i hi2
    simp only [List.getD_eq_getElem?_getD, List.getElem?_eq_getElem hi, List.getElem?_eq_getElem hi2, Option.getD_some] at x y
    omega
  · rintro rfl; exact ⟨⟨rfl, fun i _ => Int.le_refl _⟩, rfl, fun i _ => Int.le_refl _⟩
/-- Right ends. -/
def r7ok (b : Int) (p c : List Int) : Prop := 0 ≤ b ∧ fwd p c ∧ ∀ i, i < c.length → 0 ≤ p.getD i 0 ∧ (b = 0 → c.getD i 0 = 0)
instance (b : Int) (p c : List Int) : Decidable (r7ok b p c) := by unfold r7ok; exact inferInstance
theorem note_r7 {n : NSt} {parts : Int} : noteOk n parts ↔ (r7ok n.batch n.prev n.cur ∧ n.batch ≤ 1099511627776 ∧ (n.cur.length : Int) = parts ∧ within n.att ∧ ∀ i, i < n.cur.length → n.cur.getD i 0 ≤ 256) := by
  unfold noteOk r7ok within
  constructor
  · rintro ⟨h1, h2, h3, h4, h5⟩
    exact ⟨⟨h1.1, h4, fun i hi => ⟨(h5 i hi).1, (h5 i hi).2.2⟩⟩, h1.2, by have := h4.1; omega, h2, fun i hi => (h5 i hi).2.1⟩
  · rintro ⟨⟨h1, h2, h3⟩, h4, h5, h6, h7⟩
    exact ⟨⟨h1, h4⟩, h6, by have := h2.1; omega, h2, fun i hi => ⟨(h3 i hi).1, h7 i hi, (h3 i hi).2⟩⟩
set_option maxRecDepth 100000 in
set_option maxHeartbeats 1000000 in
theorem rForward_c (w : World) (A : Option Addr) (n c : Nat) (l : List Int) (A2 : Option Addr) (n2 c2 : Nat) (l2 : List Int) (hr : Rd w A n c 1 (KI.flat l)) (hr2 : Rd w A2 n2 c2 1 (KI.flat l2)) (hn : n ≤ 9223372036854775807) :
    Calls Try.prog 95 [.slice A n c, .slice A2 n2 c2].toArray w (Ret (fun v' w' => v' = .bool (decide (fwd l l2)) ∧ Sat w w' [])) := by
  have hs := Sat.start w
  have hl := lenKI hr
  have hl2 := lenKI hr2
  refine Calls_body Try.func95 rfl rfl rfl (envE_cons (i := 0) (v := .slice A n c) rfl (envE_cons (i := 1) (v := .slice A2 n2 c2) rfl envE_nil)) ?_
  refine St_seq ?_
  refine St_region ?_
  refine Ls_run (run_assign rfl) rfl ?_
  refine Ls_nil ?_
  refine Jm_seq ?_
  refine St_seq ?_
  refine St_seq ?_
  refine St_region ?_
  refine Ls_run (run_move rfl) rfl ?_
  refine Ls_run (run_len Try.underlying62 rfl) rfl ?_
  refine Ls_run (run_move rfl) rfl ?_
  refine Ls_run (run_len Try.underlying62 rfl) rfl ?_
  refine Ls_run (run_neq rfl rfl) rfl ?_
  refine Ls_nil ?_
  refine Jm_seq ?_
  refine St_ifP rfl (fun h1 => ?_) (fun h1 => ?_)
  · skip
    refine St_seq ?_
    refine St_region ?_
    refine Ls_run (run_assign rfl) rfl ?_
    refine Ls_nil ?_
    refine Jm_seq ?_
    refine St_ret ?_
    refine Jm_then_ret  ?_
    refine Jm_ret1 rfl rfl ?_
    exact ⟨_, rfl, by rw [decide_eq_false (fun q => by have := q.1; omega)], hs⟩
  · skip
    refine St_skip ?_
    refine Jm_seq ?_
    refine St_seq ?_
    refine St_seq ?_
    refine St_region ?_
    refine Ls_run (run_assign rfl) rfl ?_
    refine Ls_nil ?_
    refine Jm_seq ?_
    refine St_block ?_
    obtain ⟨En2, hEn2⟩ : ∃ F : Nat → Env, ∀ (i : Nat), F i = [(0, .slice A n c), (1, .slice A2 n2 c2), (5, .int .i64 (i : Int))] := ⟨(fun (i : Nat) => [(0, .slice A n c), (1, .slice A2 n2 c2), (5, .int .i64 (i : Int))]), fun _ => rfl⟩
    obtain ⟨Iv3, hIv3⟩ : ∃ F : Nat → World → Prop, ∀ (i : Nat) (wr : World), F i wr = (Sat w wr [] ∧ i ≤ n ∧ n = n2 ∧ ∀ q, q < i → l.getD q 0 ≤ l2.getD q 0) := ⟨(fun (i : Nat) => fun (wr : World) => Sat w wr [] ∧ i ≤ n ∧ n = n2 ∧ ∀ q, q < i → l.getD q 0 ≤ l2.getD q 0), fun _ _ => rfl⟩
    obtain ⟨ms4, hms4⟩ : ∃ F : Nat → Nat, ∀ (i : Nat), F i = (n - i) := ⟨(fun (i : Nat) => n - i), fun _ => rfl⟩
    refine St_loop En2 Iv3 ms4 (0) ?_ ?_ ?_
    · skip
      rw [hIv3]
      exact ⟨hs, by omega, by omega, fun q hq => by omega⟩
    · rw [hEn2]; exact (subE_cons rfl (subE_cons rfl (subE_cons rfl subE_nil)))
    rintro i wr hI5
    rw [hIv3] at hI5
    obtain ⟨hs, hi, hnn, hle⟩ := hI5
    refine St_eqE (hEn2 _) ?_
    refine St_seq ?_
    refine St_seq ?_
    refine St_region ?_
    refine Ls_run (run_move rfl) rfl ?_
    refine Ls_run (run_move rfl) rfl ?_
    refine Ls_run (run_len Try.underlying62 rfl) rfl ?_
    refine Ls_run (run_lss rfl rfl) rfl ?_
    refine Ls_nil ?_
    refine Jm_seq ?_
    refine St_ifP rfl (fun h6 => ?_) (fun h6 => ?_)
    · skip
      refine St_skip ?_
      refine Jm_seq ?_
      refine St_seq ?_
      refine St_block ?_
      refine St_seq ?_
      refine St_draw (fun x => Below wr.heap.size wr x) mixed ?_
      intro w7 q8
      have hH := q8.below
      replace hs := hs.quiet q8
      refine An_grow hH ?_
      replace hH := Below.refl w7.heap.size w7
      refine An_take 0 rfl (by kernel_rfl) (by kernel_rfl) (by kernel_rfl) (fun _ _ _ h => h) hH (fun x hx => run_move rfl) rfl ?_
      refine An_take 1 rfl (by kernel_rfl) (by kernel_rfl) (by kernel_rfl) (fun _ _ _ h => h) hH (fun x hx => run_move rfl) rfl ?_
      refine An_index 2  (KI) rfl (by kernel_rfl) (by kernel_rfl) (by kernel_rfl) (fun _ _ _ _ h => h) hH (fun x hx => ((hr2.inB hs).grow hx)) Try.underlying62 inf3 rfl rfl (by omega) (by omega) (show _ = l2.getD i 0 from rfl) rfl ?_
      intro b9 o10 hc11
      refine An_take 3 rfl (by kernel_rfl) (by kernel_rfl) (by kernel_rfl) (fun _ _ _ h => h) hH (fun x hx => run_load sc3 rfl ((hc11 x hx) 0 _ rfl)) rfl ?_
      refine An_take 4 rfl (by kernel_rfl) (by kernel_rfl) (by kernel_rfl) (fun _ _ _ h => h) hH (fun x hx => run_move rfl) rfl ?_
      refine An_take 5 rfl (by kernel_rfl) (by kernel_rfl) (by kernel_rfl) (fun _ _ _ h => h) hH (fun x hx => run_move rfl) rfl ?_
      refine An_index 6  (KI) rfl (by kernel_rfl) (by kernel_rfl) (by kernel_rfl) (fun _ _ _ _ h => h) hH (fun x hx => ((hr.inB hs).grow hx)) Try.underlying62 inf3 rfl rfl (by omega) (by omega) (show _ = l.getD i 0 from rfl) rfl ?_
      intro b12 o13 hc14
      refine An_take 7 rfl (by kernel_rfl) (by kernel_rfl) (by kernel_rfl) (fun _ _ _ h => h) hH (fun x hx => run_load sc3 rfl ((hc14 x hx) 0 _ rfl)) rfl ?_
      refine An_take 8 rfl (by kernel_rfl) (by kernel_rfl) (by kernel_rfl) (fun _ _ _ h => h) hH (fun x hx => run_lss rfl rfl) rfl ?_
      refine An_done (by kernel_rfl) ?_
      refine Jm_seq ?_
      refine St_ifP rfl (fun h15 => ?_) (fun h15 => ?_)
      · skip
        refine St_seq ?_
        refine St_region ?_
        refine Ls_run (run_assign rfl) rfl ?_
        refine Ls_nil ?_
        refine Jm_seq ?_
        refine St_ret ?_
        refine Jm_block_ret (Jm_then_ret (Jm_then_ret (Jm_block_ret (Jm_then_ret  ?_))))
        refine Jm_ret1 rfl rfl ?_
        exact ⟨_, rfl, by rw [decide_eq_false (fun q => by have := q.2 i (by omega); omega)], hs⟩
      · skip
        refine St_skip ?_
        refine Jm_block_normal (Jm_seq ?_)
        refine St_region ?_
        refine Ls_run (run_move rfl) rfl ?_
        refine Ls_run (run_add rfl rfl (w64 (by omega))) rfl ?_
        refine Ls_run (run_assign rfl) rfl ?_
        refine Ls_nil ?_
        refine Jm_round (i + 1) ?_ ?_ ?_
        · rw [hEn2]; exact (subE_cons rfl (subE_cons rfl (subE_cons rfl subE_nil)))
        · skip
          rw [hIv3]
          refine ⟨hs, by omega, hnn, fun q hq => ?_⟩
          by_cases e : q = i
          · subst e; omega
          · exact hle q (by omega)
        · skip
          rw [hms4, hms4]
          omega
    · skip
      refine St_exit ?_
      refine Jm_then_exit (Jm_then_exit (Jm_block_same (Jm_seq ?_)))
      refine St_seq ?_
      refine St_region ?_
      refine Ls_run (run_assign rfl) rfl ?_
      refine Ls_nil ?_
      refine Jm_seq ?_
      refine St_ret ?_
      refine Jm_ret1 rfl rfl ?_
      exact ⟨_, rfl, by rw [decide_eq_true ⟨by omega, fun q hq => hle q (by omega)⟩], hs⟩
set_option maxRecDepth 100000 in
set_option maxHeartbeats 1000000 in
theorem rints_c (w : World) (A : Option Addr) (n c : Nat) (l : List Int) (A2 : Option Addr) (n2 c2 : Nat) (l2 : List Int) (hr : Rd w A n c 1 (KI.flat l)) (hr2 : Rd w A2 n2 c2 1 (KI.flat l2)) (hn : n ≤ 9223372036854775807) (hn2 : n2 ≤ 9223372036854775807) :
    Calls Try.prog 89 [.slice A n c, .slice A2 n2 c2].toArray w (Ret (fun v' w' => v' = .bool (decide (l = l2)) ∧ Sat w w' [])) := by
  have hs := Sat.start w
  have hl := lenKI hr
  have hl2 := lenKI hr2
  refine Calls_body Try.func89 rfl rfl rfl (envE_cons (i := 0) (v := .slice A n c) rfl (envE_cons (i := 1) (v := .slice A2 n2 c2) rfl envE_nil)) ?_
  refine St_seq ?_
  refine St_region ?_
  refine Ls_run (run_assign rfl) rfl ?_
  refine Ls_nil ?_
  refine Jm_seq ?_
  refine St_seq ?_
  refine St_region ?_
  refine Ls_run (run_move rfl) rfl ?_
  refine Ls_run (run_move rfl) rfl ?_
  refine Ls_call Try.func95 nm95 rfl rfl (rForward_c w _ _ _ l _ _ _ l2 (hr.inB hs) (hr2.inB hs) (by omega)) rfl ?_
  rintro v1 w2 ⟨rfl, hsF⟩
  replace hs := hs.trans hsF
  simp only [List.nil_append, List.cons_append] at hs
  refine Ls_run (run_move rfl) rfl ?_
  refine Ls_partP (t := 8) rfl (fun h3 => ?_) (fun h3 => ?_)
  · skip
    refine Ls_on rfl rfl ?_
    refine Ls_run (run_move rfl) rfl ?_
    refine Ls_on rfl rfl ?_
    refine Ls_run (run_move rfl) rfl ?_
    refine Ls_on rfl rfl ?_
    refine Ls_call Try.func95 nm95 rfl rfl (rForward_c w2 _ _ _ l2 _ _ _ l (hr2.inB hs) (hr.inB hs) (by omega)) rfl ?_
    rintro v4 w5 ⟨rfl, hsF⟩
    replace hs := hs.trans hsF
    simp only [List.nil_append, List.cons_append] at hs
    refine Ls_run (run_pick_t rfl rfl) rfl ?_
    refine Ls_run (run_assign rfl) rfl ?_
    refine Ls_nil ?_
    refine Jm_seq ?_
    refine St_ret ?_
    refine Jm_ret1 rfl rfl ?_
    first | exact ⟨_, rfl, congrArg Value.bool (decide_eq_decide.2 ⟨fun q => fwd_eq.1 ⟨by assumption, q⟩, fun q => (fwd_eq.2 q).2⟩), hs⟩ | exact ⟨_, rfl, congrArg Value.bool (decide_eq_false (fun q => absurd (fwd_eq.2 q).1 (by assumption))).symm, hs⟩
  · skip
    refine Ls_off rfl rfl rfl rfl ?_
    refine Ls_off rfl rfl rfl rfl ?_
    refine Ls_off rfl rfl rfl rfl ?_
    refine Ls_run (run_pick_f rfl rfl) rfl ?_
    refine Ls_run (run_assign rfl) rfl ?_
    refine Ls_nil ?_
    refine Jm_seq ?_
    refine St_ret ?_
    refine Jm_ret1 rfl rfl ?_
    first | exact ⟨_, rfl, congrArg Value.bool (decide_eq_decide.2 ⟨fun q => fwd_eq.1 ⟨by assumption, q⟩, fun q => (fwd_eq.2 q).2⟩), hs⟩ | exact ⟨_, rfl, congrArg Value.bool (decide_eq_false (fun q => absurd (fwd_eq.2 q).1 (by assumption))).symm, hs⟩
set_option maxRecDepth 100000 in
set_option maxHeartbeats 1000000 in
theorem rcopI_c (w : World) (A : Option Addr) (n c : Nat) (l : List Int) (hr : Rd w A n c 1 (KI.flat l)) (hn : n ≤ 1073741824) :
    Calls Try.prog 90 [.slice A n c].toArray w (Ret (fun v' w' => ∃ A' c', v' = .slice A' n c' ∧ Sat w w' [Own 3 1 v' n (KI.flat l)])) := by
  have hs := Sat.start w
  have hl := lenKI hr
  refine Calls_body Try.func90 rfl rfl rfl (envE_cons (i := 0) (v := .slice A n c) rfl envE_nil) ?_
  refine St_seq ?_
  refine St_region ?_
  refine Ls_run (run_assign rfl) rfl ?_
  refine Ls_nil ?_
  refine Jm_seq ?_
  refine St_seq ?_
  refine St_region ?_
  refine Ls_literal [] hs Try.underlying62 inf3 rfl rfl rfl rfl rfl rfl ?_
  intro b1 w2 hs
  simp only [List.flatMap_cons, List.flatMap_nil, Value.cells, List.cons_append, List.nil_append] at hs
  replace hs := Sat.own_block hs 1 0 rfl (by decide)
  refine Ls_run (run_assign rfl) rfl ?_
  refine Ls_nil ?_
  refine Jm_seq ?_
  refine St_seq ?_
  refine St_region ?_
  refine Ls_run (run_move rfl) rfl ?_
  refine Ls_run (run_move rfl) rfl ?_
  refine Ls_append hs Try.underlying62 inf3 rfl (by decide) (by decide) rfl rfl (hr.inB hs) (flatKI_one _) (by omega) rfl ?_
  intro A3 c4 w5 hs
  refine Ls_run (run_assign rfl) rfl ?_
  refine Ls_nil ?_
  refine Jm_seq ?_
  refine St_seq ?_
  refine St_region ?_
  refine Ls_run (run_move rfl) rfl ?_
  refine Ls_run (run_assign rfl) rfl ?_
  refine Ls_nil ?_
  refine Jm_seq ?_
  refine St_ret ?_
  refine Jm_ret1 rfl rfl ?_
  simp only [Nat.zero_add, List.nil_append] at hs ⊢
  exact ⟨_, rfl, _, _, rfl, hs⟩
set_option maxRecDepth 100000 in
set_option maxHeartbeats 1000000 in
theorem rRight7_c (w : World) (n : NSt) (Ap : Option Addr) (cp : Nat) (Ac : Option Addr) (cc : Nat) (hrp : Rd w Ap n.prev.length cp 1 (KI.flat n.prev)) (hrc : Rd w Ac n.cur.length cc 1 (KI.flat n.cur)) (hz : n.prev.length ≤ 9223372036854775807 ∧ n.cur.length ≤ 9223372036854775807) :
    Calls Try.prog 88 [.agg #[.int .i64 n.batch, .slice Ap n.prev.length cp, .slice Ac n.cur.length cc]].toArray w (Ret (fun v' w' => v' = .bool (decide (r7ok n.batch n.prev n.cur)) ∧ Sat w w' [])) := by
  have hs := Sat.start w
  refine Calls_body Try.func88 rfl rfl rfl (envE_cons (i := 0) (v := .agg #[.int .i64 n.batch, .slice Ap n.prev.length cp, .slice Ac n.cur.length cc]) rfl envE_nil) ?_
  refine St_seq ?_
  refine St_region ?_
  refine Ls_box hs rfl rfl ?_
  intro b2 w1 hs
  refine Ls_run (run_assign rfl) rfl ?_
  refine Ls_nil ?_
  refine Jm_seq ?_
  refine St_seq ?_
  refine St_seq ?_
  refine St_region ?_
  refine Ls_run (run_as (run_field Try.underlying64 rfl inf3 (by decide) rfl) (show _ = Value.pointer (some ⟨b2, 0, none⟩) from rfl)) rfl ?_
  refine Ls_run (run_load sc3 rfl (hs.blk_at 0 rfl 0 rfl)) rfl ?_
  refine Ls_run (run_lss rfl rfl) rfl ?_
  refine Ls_run (run_move rfl) rfl ?_
  refine Ls_partP (t := 7) rfl (fun h3 => ?_) (fun h3 => ?_)
  · skip
    refine Ls_off rfl rfl rfl rfl ?_
    refine Ls_off rfl rfl rfl rfl ?_
    refine Ls_off rfl rfl rfl rfl ?_
    refine Ls_off rfl rfl rfl rfl ?_
    refine Ls_off rfl rfl rfl rfl ?_
    refine Ls_off rfl rfl rfl rfl ?_
    refine Ls_run (run_pick_t rfl rfl) rfl ?_
    refine Ls_nil ?_
    refine Jm_seq ?_
    refine St_ift rfl ?_
    refine St_seq ?_
    refine St_region ?_
    refine Ls_run (run_assign rfl) rfl ?_
    refine Ls_nil ?_
    refine Jm_seq ?_
    refine St_ret ?_
    refine Jm_then_ret  ?_
    refine Jm_ret1 rfl rfl ?_
    first
    | exact ⟨_, rfl, congrArg Value.bool (decide_eq_false (fun q => by first | (have := q.1; omega) | exact absurd q.2.1 (by assumption))).symm, hs.forget⟩
    | exact ⟨_, rfl, congrArg Value.bool (decide_eq_false (fun q => by have q1 := q.2.2 i (by omega); omega)).symm, hs.forget⟩
    | exact ⟨_, rfl, congrArg Value.bool (decide_eq_true ⟨hpre.1, hpre.2, fun q hq => hen q (by omega)⟩).symm, hs.forget⟩
  · skip
    refine Ls_on rfl rfl ?_
    refine Ls_run (run_as (run_field Try.underlying64 rfl inf62 (by decide) rfl) (show _ = Value.pointer (some ⟨b2, 1, none⟩) from rfl)) rfl ?_
    refine Ls_on rfl rfl ?_
    refine Ls_run (run_load sc62 rfl (hs.blk_at 0 rfl 1 rfl)) rfl ?_
    refine Ls_on rfl rfl ?_
    refine Ls_run (run_as (run_field Try.underlying64 rfl inf62 (by decide) rfl) (show _ = Value.pointer (some ⟨b2, 2, none⟩) from rfl)) rfl ?_
    refine Ls_on rfl rfl ?_
    refine Ls_run (run_load sc62 rfl (hs.blk_at 0 rfl 2 rfl)) rfl ?_
    refine Ls_on rfl rfl ?_
    refine Ls_call Try.func95 nm95 rfl rfl (rForward_c w1 _ _ _ n.prev _ _ _ n.cur (hrp.inB hs) (hrc.inB hs) (by omega)) rfl ?_
    rintro v5 w6 ⟨rfl, hsF⟩
    replace hs := hs.trans hsF
    simp only [List.nil_append, List.cons_append] at hs
    refine Ls_on rfl rfl ?_
    refine Ls_run (run_not rfl) rfl ?_
    refine Ls_run (run_pick_f rfl rfl) rfl ?_
    refine Ls_nil ?_
    refine Jm_seq ?_
    refine St_ifN rfl (fun h7 => ?_) (fun h7 => ?_)
    · skip
      refine St_seq ?_
      refine St_region ?_
      refine Ls_run (run_assign rfl) rfl ?_
      refine Ls_nil ?_
      refine Jm_seq ?_
      refine St_ret ?_
      refine Jm_then_ret  ?_
      refine Jm_ret1 rfl rfl ?_
      first
      | exact ⟨_, rfl, congrArg Value.bool (decide_eq_false (fun q => by first | (have := q.1; omega) | exact absurd q.2.1 (by assumption))).symm, hs.forget⟩
      | exact ⟨_, rfl, congrArg Value.bool (decide_eq_false (fun q => by have q1 := q.2.2 i (by omega); omega)).symm, hs.forget⟩
      | exact ⟨_, rfl, congrArg Value.bool (decide_eq_true ⟨hpre.1, hpre.2, fun q hq => hen q (by omega)⟩).symm, hs.forget⟩
    · skip
      refine St_skip ?_
      refine Jm_seq ?_
      refine St_seq ?_
      refine St_seq ?_
      refine St_region ?_
      refine Ls_run (run_assign rfl) rfl ?_
      refine Ls_nil ?_
      refine Jm_seq ?_
      refine St_block ?_
      obtain ⟨En8, hEn8⟩ : ∃ F : Nat → Env, ∀ (i : Nat), F i = [(1, .pointer (some ⟨b2, 0, none⟩)), (3, .int .i64 (i : Int))] := ⟨(fun (i : Nat) => [(1, .pointer (some ⟨b2, 0, none⟩)), (3, .int .i64 (i : Int))]), fun _ => rfl⟩
      obtain ⟨Iv9, hIv9⟩ : ∃ F : Nat → World → Prop, ∀ (i : Nat) (wr : World), F i wr = (Sat w wr [Blk b2 [.int .i64 n.batch, .slice Ap n.prev.length cp, .slice Ac n.cur.length cc] 64] ∧ i ≤ n.cur.length ∧ (0 ≤ n.batch ∧ fwd n.prev n.cur) ∧ ∀ q, q < i → 0 ≤ n.prev.getD q 0 ∧ (n.batch = 0 → n.cur.getD q 0 = 0)) := ⟨(fun (i : Nat) => fun (wr : World) => Sat w wr [Blk b2 [.int .i64 n.batch, .slice Ap n.prev.length cp, .slice Ac n.cur.length cc] 64] ∧ i ≤ n.cur.length ∧ (0 ≤ n.batch ∧ fwd n.prev n.cur) ∧ ∀ q, q < i → 0 ≤ n.prev.getD q 0 ∧ (n.batch = 0 → n.cur.getD q 0 = 0)), fun _ _ => rfl⟩
      obtain ⟨ms10, hms10⟩ : ∃ F : Nat → Nat, ∀ (i : Nat), F i = (n.cur.length - i) := ⟨(fun (i : Nat) => n.cur.length - i), fun _ => rfl⟩
      refine St_loop En8 Iv9 ms10 (0) ?_ ?_ ?_
      · skip
        rw [hIv9]
        refine ⟨hs, by omega, ⟨by omega, ?_⟩, fun q hq => by omega⟩
        first | assumption | (apply Decidable.not_not.1; assumption)
      · rw [hEn8]; exact (subE_cons rfl (subE_cons rfl subE_nil))
      rintro i wr hI11
      rw [hIv9] at hI11
      obtain ⟨hs, hi, hpre, hen⟩ := hI11
      refine St_eqE (hEn8 _) ?_
      have hfl := hpre.2.1
      refine St_seq ?_
      refine St_seq ?_
      refine St_region ?_
      refine Ls_run (run_move rfl) rfl ?_
      refine Ls_run (run_as (run_field Try.underlying64 rfl inf62 (by decide) rfl) (show _ = Value.pointer (some ⟨b2, 2, none⟩) from rfl)) rfl ?_
      refine Ls_run (run_load sc62 rfl (hs.blk_at 0 rfl 2 rfl)) rfl ?_
      refine Ls_run (run_len Try.underlying62 rfl) rfl ?_
      refine Ls_run (run_lss rfl rfl) rfl ?_
      refine Ls_nil ?_
      refine Jm_seq ?_
      refine St_ifP rfl (fun h12 => ?_) (fun h12 => ?_)
      · skip
        refine St_skip ?_
        refine Jm_seq ?_
        refine St_seq ?_
        refine St_block ?_
        refine St_seq ?_
        refine St_region ?_
        refine Ls_run (run_as (run_field Try.underlying64 rfl inf62 (by decide) rfl) (show _ = Value.pointer (some ⟨b2, 1, none⟩) from rfl)) rfl ?_
        refine Ls_run (run_load sc62 rfl (hs.blk_at 0 rfl 1 rfl)) rfl ?_
        refine Ls_run (run_move rfl) rfl ?_
        refine Ls_index (KI) (hrp.inB hs) Try.underlying62 inf3 rfl rfl (by omega) (by omega) (show _ = n.prev.getD i 0 from rfl) rfl ?_
        intro b13 o14 hc15
        refine Ls_run (run_load sc3 rfl (hc15 0 _ rfl)) rfl ?_
        refine Ls_run (run_lss rfl rfl) rfl ?_
        refine Ls_run (run_move rfl) rfl ?_
        refine Ls_partP (t := 28) rfl (fun h16 => ?_) (fun h16 => ?_)
        · skip
          refine Ls_off rfl rfl rfl rfl ?_
          refine Ls_off rfl rfl rfl rfl ?_
          refine Ls_off rfl rfl rfl rfl ?_
          refine Ls_off rfl rfl rfl rfl ?_
          refine Ls_off' rfl rfl rfl ?_
          refine Ls_off' rfl rfl rfl ?_
          refine Ls_off' rfl rfl rfl ?_
          refine Ls_off' rfl rfl rfl ?_
          refine Ls_off' rfl rfl rfl ?_
          refine Ls_off' rfl rfl rfl ?_
          refine Ls_off rfl rfl rfl rfl ?_
          refine Ls_run (run_pick_t rfl rfl) rfl ?_
          refine Ls_nil ?_
          refine Jm_seq ?_
          refine St_ift rfl ?_
          refine St_seq ?_
          refine St_region ?_
          refine Ls_run (run_assign rfl) rfl ?_
          refine Ls_nil ?_
          refine Jm_seq ?_
          refine St_ret ?_
          refine Jm_block_ret (Jm_then_ret (Jm_then_ret (Jm_block_ret (Jm_then_ret  ?_))))
          refine Jm_ret1 rfl rfl ?_
          first
          | exact ⟨_, rfl, congrArg Value.bool (decide_eq_false (fun q => by first | (have := q.1; omega) | exact absurd q.2.1 (by assumption))).symm, hs.forget⟩
          | exact ⟨_, rfl, congrArg Value.bool (decide_eq_false (fun q => by have q1 := q.2.2 i (by omega); omega)).symm, hs.forget⟩
          | exact ⟨_, rfl, congrArg Value.bool (decide_eq_true ⟨hpre.1, hpre.2, fun q hq => hen q (by omega)⟩).symm, hs.forget⟩
        · skip
          refine Ls_on rfl rfl ?_
          refine Ls_run (run_as (run_field Try.underlying64 rfl inf3 (by decide) rfl) (show _ = Value.pointer (some ⟨b2, 0, none⟩) from rfl)) rfl ?_
          refine Ls_on rfl rfl ?_
          refine Ls_run (run_load sc3 rfl (hs.blk_at 0 rfl 0 rfl)) rfl ?_
          refine Ls_on rfl rfl ?_
          refine Ls_run (run_eql rfl rfl) rfl ?_
          refine Ls_on rfl rfl ?_
          refine Ls_run (run_move rfl) rfl ?_
          refine Ls_partP (t := 32) rfl (fun h18 => ?_) (fun h18 => ?_)
          · skip
            refine Ls_on rfl rfl ?_
            refine Ls_run (run_as (run_field Try.underlying64 rfl inf62 (by decide) rfl) (show _ = Value.pointer (some ⟨b2, 2, none⟩) from rfl)) rfl ?_
            refine Ls_on rfl rfl ?_
            refine Ls_run (run_load sc62 rfl (hs.blk_at 0 rfl 2 rfl)) rfl ?_
            refine Ls_on rfl rfl ?_
            refine Ls_run (run_move rfl) rfl ?_
            refine Ls_on rfl rfl ?_
            refine Ls_index (KI) (hrc.inB hs) Try.underlying62 inf3 rfl rfl (by omega) (by omega) (show _ = n.cur.getD i 0 from rfl) rfl ?_
            intro b19 o20 hc21
            refine Ls_on rfl rfl ?_
            refine Ls_run (run_load sc3 rfl (hc21 0 _ rfl)) rfl ?_
            refine Ls_on rfl rfl ?_
            refine Ls_run (run_neq rfl rfl) rfl ?_
            refine Ls_on rfl rfl ?_
            refine Ls_run (run_pick_t rfl rfl) rfl ?_
            refine Ls_run (run_pick_f rfl rfl) rfl ?_
            refine Ls_nil ?_
            refine Jm_seq ?_
            refine St_ifP rfl (fun h22 => ?_) (fun h22 => ?_)
            · skip
              refine St_seq ?_
              refine St_region ?_
              refine Ls_run (run_assign rfl) rfl ?_
              refine Ls_nil ?_
              refine Jm_seq ?_
              refine St_ret ?_
              refine Jm_block_ret (Jm_then_ret (Jm_then_ret (Jm_block_ret (Jm_then_ret  ?_))))
              refine Jm_ret1 rfl rfl ?_
              first
              | exact ⟨_, rfl, congrArg Value.bool (decide_eq_false (fun q => by first | (have := q.1; omega) | exact absurd q.2.1 (by assumption))).symm, hs.forget⟩
              | exact ⟨_, rfl, congrArg Value.bool (decide_eq_false (fun q => by have q1 := q.2.2 i (by omega); omega)).symm, hs.forget⟩
              | exact ⟨_, rfl, congrArg Value.bool (decide_eq_true ⟨hpre.1, hpre.2, fun q hq => hen q (by omega)⟩).symm, hs.forget⟩
            · skip
              refine St_skip ?_
              refine Jm_block_normal (Jm_seq ?_)
              refine St_region ?_
              refine Ls_run (run_move rfl) rfl ?_
              refine Ls_run (run_add rfl rfl (w64 (by omega))) rfl ?_
              refine Ls_run (run_assign rfl) rfl ?_
              refine Ls_nil ?_
              refine Jm_round (i + 1) ?_ ?_ ?_
              · rw [hEn8]; exact (subE_cons rfl (subE_cons rfl subE_nil))
              · skip
                rw [hIv9]
                refine ⟨hs, by omega, hpre, fun q hq => ?_⟩
                by_cases e : q = i
                · subst e; refine ⟨by omega, fun h0 => ?_⟩; omega
                · exact hen q (by omega)
              · skip
                rw [hms10, hms10]
                omega
          · skip
            refine Ls_off rfl rfl rfl rfl ?_
            refine Ls_off rfl rfl rfl rfl ?_
            refine Ls_off rfl rfl rfl rfl ?_
            refine Ls_off rfl rfl rfl rfl ?_
            refine Ls_off rfl rfl rfl rfl ?_
            refine Ls_off rfl rfl rfl rfl ?_
            refine Ls_on rfl rfl ?_
            refine Ls_run (run_pick_f rfl rfl) rfl ?_
            refine Ls_run (run_pick_f rfl rfl) rfl ?_
            refine Ls_nil ?_
            refine Jm_seq ?_
            refine St_iff rfl ?_
            refine St_skip ?_
            refine Jm_block_normal (Jm_seq ?_)
            refine St_region ?_
            refine Ls_run (run_move rfl) rfl ?_
            refine Ls_run (run_add rfl rfl (w64 (by omega))) rfl ?_
            refine Ls_run (run_assign rfl) rfl ?_
            refine Ls_nil ?_
            refine Jm_round (i + 1) ?_ ?_ ?_
            · rw [hEn8]; exact (subE_cons rfl (subE_cons rfl subE_nil))
            · skip
              rw [hIv9]
              refine ⟨hs, by omega, hpre, fun q hq => ?_⟩
              by_cases e : q = i
              · subst e; refine ⟨by omega, fun h0 => ?_⟩; omega
              · exact hen q (by omega)
            · skip
              rw [hms10, hms10]
              omega
      · skip
        refine St_exit ?_
        refine Jm_then_exit (Jm_then_exit (Jm_block_same (Jm_seq ?_)))
        refine St_seq ?_
        refine St_region ?_
        refine Ls_run (run_assign rfl) rfl ?_
        refine Ls_nil ?_
        refine Jm_seq ?_
        refine St_ret ?_
        refine Jm_ret1 rfl rfl ?_
        first
        | exact ⟨_, rfl, congrArg Value.bool (decide_eq_false (fun q => by first | (have := q.1; omega) | exact absurd q.2.1 (by assumption))).symm, hs.forget⟩
        | exact ⟨_, rfl, congrArg Value.bool (decide_eq_false (fun q => by have q1 := q.2.2 i (by omega); omega)).symm, hs.forget⟩
        | exact ⟨_, rfl, congrArg Value.bool (decide_eq_true ⟨hpre.1, hpre.2, fun q hq => hen q (by omega)⟩).symm, hs.forget⟩
set_option maxRecDepth 100000 in
set_option maxHeartbeats 1000000 in
theorem rRight_c (w : World) (n : NSt) (Ap : Option Addr) (cp : Nat) (Ac : Option Addr) (cc : Nat) (hrp : Rd w Ap n.prev.length cp 1 (KI.flat n.prev)) (hrc : Rd w Ac n.cur.length cc 1 (KI.flat n.cur)) (hz : n.prev.length ≤ 9223372036854775807 ∧ n.cur.length ≤ 9223372036854775807) (parts : Int) :
    Calls Try.prog 72 [.agg #[.int .i64 n.batch, .slice Ap n.prev.length cp, .slice Ac n.cur.length cc, .int .i64 n.att], .int .i64 parts].toArray w (Ret (fun v' w' => v' = .bool (decide (noteOk n parts)) ∧ Sat w w' [])) := by
  have hs := Sat.start w
  refine Calls_body Try.func72 rfl rfl rfl (envE_cons (i := 0) (v := .agg #[.int .i64 n.batch, .slice Ap n.prev.length cp, .slice Ac n.cur.length cc, .int .i64 n.att]) rfl (envE_cons (i := 1) (v := .int .i64 parts) rfl envE_nil)) ?_
  refine St_seq ?_
  refine St_region ?_
  refine Ls_box hs rfl rfl ?_
  intro b2 w1 hs
  refine Ls_run (run_assign rfl) rfl ?_
  refine Ls_nil ?_
  refine Jm_seq ?_
  refine St_seq ?_
  refine St_region ?_
  refine Ls_run (run_as (run_field Try.underlying66 rfl inf64 (by decide) rfl) (show _ = Value.pointer (some ⟨b2, 0, none⟩) from rfl)) rfl ?_
  refine Ls_run (run_load_agg agg64 inf64 rfl rfl (hs.blk_cells 0 rfl 0 3)) rfl ?_
  refine Ls_alloc hs inf64 rfl ?_
  intro b4 w3 hs
  refine Ls_storeAgg hs inf64 rfl rfl rfl rfl (by simp [Value.oneCell', Value.cells, jcells]) ?_
  intro w5 hs
  refine Ls_nil ?_
  refine Jm_seq ?_
  refine St_seq ?_
  refine St_seq ?_
  refine St_region ?_
  refine Ls_run (run_load_agg agg64 inf64 rfl rfl (hs.blk_cells 0 rfl 0 3)) rfl ?_
  refine Ls_call Try.func88 nm88 rfl rfl (rRight7_c w5 n _ _ _ _ (hrp.inB hs) (hrc.inB hs) hz) rfl ?_
  rintro v6 w7 ⟨rfl, hsF⟩
  replace hs := hs.trans hsF
  simp only [List.nil_append, List.cons_append] at hs
  refine Ls_run (run_not rfl) rfl ?_
  refine Ls_run (run_move rfl) rfl ?_
  refine Ls_partN (t := 12) rfl (fun h8 => ?_) (fun h8 => ?_)
  · skip
    refine Ls_off rfl rfl rfl rfl ?_
    refine Ls_off rfl rfl rfl rfl ?_
    refine Ls_off rfl rfl rfl rfl ?_
    refine Ls_run (run_pick_t rfl rfl) rfl ?_
    refine Ls_run (run_move rfl) rfl ?_
    refine Ls_off rfl rfl rfl rfl ?_
    refine Ls_off rfl rfl rfl rfl ?_
    refine Ls_off rfl rfl rfl rfl ?_
    refine Ls_off rfl rfl rfl rfl ?_
    refine Ls_off rfl rfl rfl rfl ?_
    refine Ls_run (run_pick_t rfl rfl) rfl ?_
    refine Ls_run (run_move rfl) rfl ?_
    refine Ls_off rfl rfl rfl rfl ?_
    refine Ls_off rfl rfl rfl rfl ?_
    refine Ls_off rfl rfl rfl rfl ?_
    refine Ls_run (run_pick_t rfl rfl) rfl ?_
    refine Ls_run (run_move rfl) rfl ?_
    refine Ls_off rfl rfl rfl rfl ?_
    refine Ls_off rfl rfl rfl rfl ?_
    refine Ls_off rfl rfl rfl rfl ?_
    refine Ls_run (run_pick_t rfl rfl) rfl ?_
    refine Ls_nil ?_
    refine Jm_seq ?_
    refine St_ift rfl ?_
    refine St_seq ?_
    refine St_region ?_
    refine Ls_run (run_assign rfl) rfl ?_
    refine Ls_nil ?_
    refine Jm_seq ?_
    refine St_ret ?_
    refine Jm_then_ret  ?_
    refine Jm_ret1 rfl rfl ?_
    first
    | exact ⟨_, rfl, congrArg Value.bool (decide_eq_false (fun q => by have q := note_r7.1 q; first | exact absurd q.1 (by assumption) | (have h1 := q.2.1; have h2 := q.2.2.1; have h3 := q.2.2.2.1; unfold within at h3; omega))).symm, hs.forget⟩
    | exact ⟨_, rfl, congrArg Value.bool (decide_eq_false (fun q => by have q1 := (note_r7.1 q).2.2.2.2 i (by omega); omega)).symm, hs.forget⟩
    | exact ⟨_, rfl, congrArg Value.bool (decide_eq_true (note_r7.2 ⟨hpre.1, hpre.2.1, hpre.2.2.1, hpre.2.2.2, fun q hq => hen q (by omega)⟩)).symm, hs.forget⟩
  · skip
    refine Ls_on rfl rfl ?_
    refine Ls_run (run_as (run_field Try.underlying64 rfl inf3 (by decide) rfl) (show _ = Value.pointer (some ⟨b4, 0, none⟩) from rfl)) rfl ?_
    refine Ls_on rfl rfl ?_
    refine Ls_run (run_load sc3 rfl (hs.blk_at 0 rfl 0 rfl)) rfl ?_
    refine Ls_on rfl rfl ?_
    refine Ls_run (run_gtr rfl rfl) rfl ?_
    refine Ls_run (run_pick_f rfl rfl) rfl ?_
    refine Ls_run (run_move rfl) rfl ?_
    refine Ls_partP (t := 17) rfl (fun h10 => ?_) (fun h10 => ?_)
    · skip
      refine Ls_off rfl rfl rfl rfl ?_
      refine Ls_off rfl rfl rfl rfl ?_
      refine Ls_off rfl rfl rfl rfl ?_
      refine Ls_off rfl rfl rfl rfl ?_
      refine Ls_off rfl rfl rfl rfl ?_
      refine Ls_run (run_pick_t rfl rfl) rfl ?_
      refine Ls_run (run_move rfl) rfl ?_
      refine Ls_off rfl rfl rfl rfl ?_
      refine Ls_off rfl rfl rfl rfl ?_
      refine Ls_off rfl rfl rfl rfl ?_
      refine Ls_run (run_pick_t rfl rfl) rfl ?_
      refine Ls_run (run_move rfl) rfl ?_
      refine Ls_off rfl rfl rfl rfl ?_
      refine Ls_off rfl rfl rfl rfl ?_
      refine Ls_off rfl rfl rfl rfl ?_
      refine Ls_run (run_pick_t rfl rfl) rfl ?_
      refine Ls_nil ?_
      refine Jm_seq ?_
      refine St_ift rfl ?_
      refine St_seq ?_
      refine St_region ?_
      refine Ls_run (run_assign rfl) rfl ?_
      refine Ls_nil ?_
      refine Jm_seq ?_
      refine St_ret ?_
      refine Jm_then_ret  ?_
      refine Jm_ret1 rfl rfl ?_
      first
      | exact ⟨_, rfl, congrArg Value.bool (decide_eq_false (fun q => by have q := note_r7.1 q; first | exact absurd q.1 (by assumption) | (have h1 := q.2.1; have h2 := q.2.2.1; have h3 := q.2.2.2.1; unfold within at h3; omega))).symm, hs.forget⟩
      | exact ⟨_, rfl, congrArg Value.bool (decide_eq_false (fun q => by have q1 := (note_r7.1 q).2.2.2.2 i (by omega); omega)).symm, hs.forget⟩
      | exact ⟨_, rfl, congrArg Value.bool (decide_eq_true (note_r7.2 ⟨hpre.1, hpre.2.1, hpre.2.2.1, hpre.2.2.2, fun q hq => hen q (by omega)⟩)).symm, hs.forget⟩
    · skip
      refine Ls_on rfl rfl ?_
      refine Ls_run (run_as (run_field Try.underlying64 rfl inf62 (by decide) rfl) (show _ = Value.pointer (some ⟨b4, 2, none⟩) from rfl)) rfl ?_
      refine Ls_on rfl rfl ?_
      refine Ls_run (run_load sc62 rfl (hs.blk_at 0 rfl 2 rfl)) rfl ?_
      refine Ls_on rfl rfl ?_
      refine Ls_run (run_len Try.underlying62 rfl) rfl ?_
      refine Ls_on rfl rfl ?_
      refine Ls_run (run_move rfl) rfl ?_
      refine Ls_on rfl rfl ?_
      refine Ls_run (run_neq rfl rfl) rfl ?_
      refine Ls_run (run_pick_f rfl rfl) rfl ?_
      refine Ls_run (run_move rfl) rfl ?_
      refine Ls_partP (t := 24) rfl (fun h12 => ?_) (fun h12 => ?_)
      · skip
        refine Ls_off rfl rfl rfl rfl ?_
        refine Ls_off rfl rfl rfl rfl ?_
        refine Ls_off rfl rfl rfl rfl ?_
        refine Ls_run (run_pick_t rfl rfl) rfl ?_
        refine Ls_run (run_move rfl) rfl ?_
        refine Ls_off rfl rfl rfl rfl ?_
        refine Ls_off rfl rfl rfl rfl ?_
        refine Ls_off rfl rfl rfl rfl ?_
        refine Ls_run (run_pick_t rfl rfl) rfl ?_
        refine Ls_nil ?_
        refine Jm_seq ?_
        refine St_ift rfl ?_
        refine St_seq ?_
        refine St_region ?_
        refine Ls_run (run_assign rfl) rfl ?_
        refine Ls_nil ?_
        refine Jm_seq ?_
        refine St_ret ?_
        refine Jm_then_ret  ?_
        refine Jm_ret1 rfl rfl ?_
        first
        | exact ⟨_, rfl, congrArg Value.bool (decide_eq_false (fun q => by have q := note_r7.1 q; first | exact absurd q.1 (by assumption) | (have h1 := q.2.1; have h2 := q.2.2.1; have h3 := q.2.2.2.1; unfold within at h3; omega))).symm, hs.forget⟩
        | exact ⟨_, rfl, congrArg Value.bool (decide_eq_false (fun q => by have q1 := (note_r7.1 q).2.2.2.2 i (by omega); omega)).symm, hs.forget⟩
        | exact ⟨_, rfl, congrArg Value.bool (decide_eq_true (note_r7.2 ⟨hpre.1, hpre.2.1, hpre.2.2.1, hpre.2.2.2, fun q hq => hen q (by omega)⟩)).symm, hs.forget⟩
      · skip
        refine Ls_on rfl rfl ?_
        refine Ls_run (run_as (run_field Try.underlying66 rfl inf3 (by decide) rfl) (show _ = Value.pointer (some ⟨b2, 3, none⟩) from rfl)) rfl ?_
        refine Ls_on rfl rfl ?_
        refine Ls_run (run_load sc3 rfl (hs.blk_at 1 rfl 3 rfl)) rfl ?_
        refine Ls_on rfl rfl ?_
        refine Ls_run (run_lss rfl rfl) rfl ?_
        refine Ls_run (run_pick_f rfl rfl) rfl ?_
        refine Ls_run (run_move rfl) rfl ?_
        refine Ls_partP (t := 29) rfl (fun h14 => ?_) (fun h14 => ?_)
        · skip
          refine Ls_off rfl rfl rfl rfl ?_
          refine Ls_off rfl rfl rfl rfl ?_
          refine Ls_off rfl rfl rfl rfl ?_
          refine Ls_run (run_pick_t rfl rfl) rfl ?_
          refine Ls_nil ?_
          refine Jm_seq ?_
          refine St_ift rfl ?_
          refine St_seq ?_
          refine St_region ?_
          refine Ls_run (run_assign rfl) rfl ?_
          refine Ls_nil ?_
          refine Jm_seq ?_
          refine St_ret ?_
          refine Jm_then_ret  ?_
          refine Jm_ret1 rfl rfl ?_
          first
          | exact ⟨_, rfl, congrArg Value.bool (decide_eq_false (fun q => by have q := note_r7.1 q; first | exact absurd q.1 (by assumption) | (have h1 := q.2.1; have h2 := q.2.2.1; have h3 := q.2.2.2.1; unfold within at h3; omega))).symm, hs.forget⟩
          | exact ⟨_, rfl, congrArg Value.bool (decide_eq_false (fun q => by have q1 := (note_r7.1 q).2.2.2.2 i (by omega); omega)).symm, hs.forget⟩
          | exact ⟨_, rfl, congrArg Value.bool (decide_eq_true (note_r7.2 ⟨hpre.1, hpre.2.1, hpre.2.2.1, hpre.2.2.2, fun q hq => hen q (by omega)⟩)).symm, hs.forget⟩
        · skip
          refine Ls_on rfl rfl ?_
          refine Ls_run (run_as (run_field Try.underlying66 rfl inf3 (by decide) rfl) (show _ = Value.pointer (some ⟨b2, 3, none⟩) from rfl)) rfl ?_
          refine Ls_on rfl rfl ?_
          refine Ls_run (run_load sc3 rfl (hs.blk_at 1 rfl 3 rfl)) rfl ?_
          refine Ls_on rfl rfl ?_
          refine Ls_run (run_gtr rfl rfl) rfl ?_
          refine Ls_run (run_pick_f rfl rfl) rfl ?_
          refine Ls_nil ?_
          refine Jm_seq ?_
          refine St_ifP rfl (fun h16 => ?_) (fun h16 => ?_)
          · skip
            refine St_seq ?_
            refine St_region ?_
            refine Ls_run (run_assign rfl) rfl ?_
            refine Ls_nil ?_
            refine Jm_seq ?_
            refine St_ret ?_
            refine Jm_then_ret  ?_
            refine Jm_ret1 rfl rfl ?_
            first
            | exact ⟨_, rfl, congrArg Value.bool (decide_eq_false (fun q => by have q := note_r7.1 q; first | exact absurd q.1 (by assumption) | (have h1 := q.2.1; have h2 := q.2.2.1; have h3 := q.2.2.2.1; unfold within at h3; omega))).symm, hs.forget⟩
            | exact ⟨_, rfl, congrArg Value.bool (decide_eq_false (fun q => by have q1 := (note_r7.1 q).2.2.2.2 i (by omega); omega)).symm, hs.forget⟩
            | exact ⟨_, rfl, congrArg Value.bool (decide_eq_true (note_r7.2 ⟨hpre.1, hpre.2.1, hpre.2.2.1, hpre.2.2.2, fun q hq => hen q (by omega)⟩)).symm, hs.forget⟩
          · skip
            refine St_skip ?_
            refine Jm_seq ?_
            refine St_seq ?_
            refine St_seq ?_
            refine St_region ?_
            refine Ls_run (run_assign rfl) rfl ?_
            refine Ls_nil ?_
            refine Jm_seq ?_
            refine St_block ?_
            replace hs := hs.erase 1
            simp only [List.cons_append, List.nil_append, List.eraseIdx_cons_zero, List.eraseIdx_cons_succ] at hs
            obtain ⟨En17, hEn17⟩ : ∃ F : Nat → Env, ∀ (i : Nat), F i = [(1, .int .i64 parts), (5, .pointer (some ⟨b4, 0, none⟩)), (6, .int .i64 (i : Int))] := ⟨(fun (i : Nat) => [(1, .int .i64 parts), (5, .pointer (some ⟨b4, 0, none⟩)), (6, .int .i64 (i : Int))]), fun _ => rfl⟩
            obtain ⟨Iv18, hIv18⟩ : ∃ F : Nat → World → Prop, ∀ (i : Nat) (wr : World), F i wr = (Sat w wr [Blk b4 [.int .i64 n.batch, .slice Ap n.prev.length cp, .slice Ac n.cur.length cc] 64] ∧ i ≤ n.cur.length ∧ (r7ok n.batch n.prev n.cur ∧ n.batch ≤ 1099511627776 ∧ (n.cur.length : Int) = parts ∧ within n.att) ∧ ∀ q, q < i → n.cur.getD q 0 ≤ 256) := ⟨(fun (i : Nat) => fun (wr : World) => Sat w wr [Blk b4 [.int .i64 n.batch, .slice Ap n.prev.length cp, .slice Ac n.cur.length cc] 64] ∧ i ≤ n.cur.length ∧ (r7ok n.batch n.prev n.cur ∧ n.batch ≤ 1099511627776 ∧ (n.cur.length : Int) = parts ∧ within n.att) ∧ ∀ q, q < i → n.cur.getD q 0 ≤ 256), fun _ _ => rfl⟩
            obtain ⟨ms19, hms19⟩ : ∃ F : Nat → Nat, ∀ (i : Nat), F i = (n.cur.length - i) := ⟨(fun (i : Nat) => n.cur.length - i), fun _ => rfl⟩
            refine St_loop En17 Iv18 ms19 (0) ?_ ?_ ?_
            · skip
              rw [hIv18]
              refine ⟨hs, by omega, ⟨?_, by omega, by omega, ⟨by omega, by omega⟩⟩, fun q hq => by omega⟩
              first | assumption | (apply Decidable.not_not.1; assumption)
            · rw [hEn17]; exact (subE_cons rfl (subE_cons rfl (subE_cons rfl subE_nil)))
            rintro i wr hI20
            rw [hIv18] at hI20
            obtain ⟨hs, hi, hpre, hen⟩ := hI20
            refine St_eqE (hEn17 _) ?_
            have hpl := hpre.2.2.1
            refine St_seq ?_
            refine St_seq ?_
            refine St_region ?_
            refine Ls_run (run_move rfl) rfl ?_
            refine Ls_run (run_move rfl) rfl ?_
            refine Ls_run (run_lss rfl rfl) rfl ?_
            refine Ls_nil ?_
            refine Jm_seq ?_
            refine St_ifP rfl (fun h21 => ?_) (fun h21 => ?_)
            · skip
              refine St_skip ?_
              refine Jm_seq ?_
              refine St_seq ?_
              refine St_block ?_
              refine St_seq ?_
              refine St_region ?_
              refine Ls_run (run_as (run_field Try.underlying64 rfl inf62 (by decide) rfl) (show _ = Value.pointer (some ⟨b4, 2, none⟩) from rfl)) rfl ?_
              refine Ls_run (run_load sc62 rfl (hs.blk_at 0 rfl 2 rfl)) rfl ?_
              refine Ls_run (run_move rfl) rfl ?_
              refine Ls_index (KI) (hrc.inB hs) Try.underlying62 inf3 rfl rfl (by omega) (by omega) (show _ = n.cur.getD i 0 from rfl) rfl ?_
              intro b22 o23 hc24
              refine Ls_run (run_load sc3 rfl (hc24 0 _ rfl)) rfl ?_
              refine Ls_run (run_gtr rfl rfl) rfl ?_
              refine Ls_nil ?_
              refine Jm_seq ?_
              refine St_ifP rfl (fun h25 => ?_) (fun h25 => ?_)
              · skip
                refine St_seq ?_
                refine St_region ?_
                refine Ls_run (run_assign rfl) rfl ?_
                refine Ls_nil ?_
                refine Jm_seq ?_
                refine St_ret ?_
                refine Jm_block_ret (Jm_then_ret (Jm_then_ret (Jm_block_ret (Jm_then_ret  ?_))))
                refine Jm_ret1 rfl rfl ?_
                first
                | exact ⟨_, rfl, congrArg Value.bool (decide_eq_false (fun q => by have q := note_r7.1 q; first | exact absurd q.1 (by assumption) | (have h1 := q.2.1; have h2 := q.2.2.1; have h3 := q.2.2.2.1; unfold within at h3; omega))).symm, hs.forget⟩
                | exact ⟨_, rfl, congrArg Value.bool (decide_eq_false (fun q => by have q1 := (note_r7.1 q).2.2.2.2 i (by omega); omega)).symm, hs.forget⟩
                | exact ⟨_, rfl, congrArg Value.bool (decide_eq_true (note_r7.2 ⟨hpre.1, hpre.2.1, hpre.2.2.1, hpre.2.2.2, fun q hq => hen q (by omega)⟩)).symm, hs.forget⟩
              · skip
                refine St_skip ?_
                refine Jm_block_normal (Jm_seq ?_)
                refine St_region ?_
                refine Ls_run (run_move rfl) rfl ?_
                refine Ls_run (run_add rfl rfl (w64 (by omega))) rfl ?_
                refine Ls_run (run_assign rfl) rfl ?_
                refine Ls_nil ?_
                refine Jm_round (i + 1) ?_ ?_ ?_
                · rw [hEn17]; exact (subE_cons rfl (subE_cons rfl (subE_cons rfl subE_nil)))
                · skip
                  rw [hIv18]
                  refine ⟨hs, by omega, hpre, fun q hq => ?_⟩
                  by_cases e : q = i
                  · subst e; omega
                  · exact hen q (by omega)
                · skip
                  rw [hms19, hms19]
                  omega
            · skip
              refine St_exit ?_
              refine Jm_then_exit (Jm_then_exit (Jm_block_same (Jm_seq ?_)))
              refine St_seq ?_
              refine St_region ?_
              refine Ls_run (run_assign rfl) rfl ?_
              refine Ls_nil ?_
              refine Jm_seq ?_
              refine St_ret ?_
              refine Jm_ret1 rfl rfl ?_
              first
              | exact ⟨_, rfl, congrArg Value.bool (decide_eq_false (fun q => by have q := note_r7.1 q; first | exact absurd q.1 (by assumption) | (have h1 := q.2.1; have h2 := q.2.2.1; have h3 := q.2.2.2.1; unfold within at h3; omega))).symm, hs.forget⟩
              | exact ⟨_, rfl, congrArg Value.bool (decide_eq_false (fun q => by have q1 := (note_r7.1 q).2.2.2.2 i (by omega); omega)).symm, hs.forget⟩
              | exact ⟨_, rfl, congrArg Value.bool (decide_eq_true (note_r7.2 ⟨hpre.1, hpre.2.1, hpre.2.2.1, hpre.2.2.2, fun q hq => hen q (by omega)⟩)).symm, hs.forget⟩
set_option maxRecDepth 100000 in
set_option maxHeartbeats 1000000 in
theorem rCopied_c (w : World) (n : NSt) (Ap : Option Addr) (cp : Nat) (Ac : Option Addr) (cc : Nat) (hrp : Rd w Ap n.prev.length cp 1 (KI.flat n.prev)) (hrc : Rd w Ac n.cur.length cc 1 (KI.flat n.cur)) (hz : n.prev.length ≤ 1073741824 ∧ n.cur.length ≤ 1073741824) :
    Calls Try.prog 74 [.agg #[.int .i64 n.batch, .slice Ap n.prev.length cp, .slice Ac n.cur.length cc, .int .i64 n.att]].toArray w (Ret (fun v' w' => ∃ Ap' cp' Ac' cc', v' = .agg #[.int .i64 n.batch, .slice Ap' n.prev.length cp', .slice Ac' n.cur.length cc', .int .i64 n.att] ∧ Sat w w' [Own 3 1 (.slice Ap' n.prev.length cp') n.prev.length (KI.flat n.prev), Own 3 1 (.slice Ac' n.cur.length cc') n.cur.length (KI.flat n.cur)])) := by
  have hs := Sat.start w
  refine Calls_body Try.func74 rfl rfl rfl (envE_cons (i := 0) (v := .agg #[.int .i64 n.batch, .slice Ap n.prev.length cp, .slice Ac n.cur.length cc, .int .i64 n.att]) rfl envE_nil) ?_
  refine St_seq ?_
  refine St_region ?_
  refine Ls_box hs rfl rfl ?_
  intro b2 w1 hs
  refine Ls_alloc hs inf66 rfl ?_
  intro b4 w3 hs
  refine Ls_nil ?_
  refine Jm_seq ?_
  refine St_seq ?_
  refine St_drawC 15 (fun x => Below w3.heap.size w3 x) mixed ?_
  intro w5 q6
  have hH := q6.below
  replace hs := hs.quiet q6
  refine AnC_grow hH ?_
  replace hH := Below.refl w5.heap.size w5
  refine AnC_takeP 0 (by kernel_rfl) rfl (by kernel_rfl) (by kernel_rfl) (by kernel_rfl) (fun _ _ _ h => h) (fun _ => hH) (fun x => run_as (run_field Try.underlying66 rfl inf64 (by decide) rfl) (show _ = Value.pointer (some ⟨b2, 0, none⟩) from rfl)) rfl ?_
  refine AnC_takeP 1 (by kernel_rfl) rfl (by kernel_rfl) (by kernel_rfl) (by kernel_rfl) (fun _ _ _ h => h) (fun _ => hH) (fun x => run_as (run_field Try.underlying64 rfl inf3 (by decide) rfl) (show _ = Value.pointer (some ⟨b2, 0, none⟩) from rfl)) rfl ?_
  refine AnC_take 2 [15, 2] rfl (by kernel_rfl) (by kernel_rfl) (by kernel_rfl) (by kernel_rfl) (fun _ _ _ h => h) hH (fun x hx => run_load sc3 rfl ((hs.grow hx).blk_at 1 rfl 0 rfl)) rfl ?_
  refine AnC_takeP 3 (by kernel_rfl) rfl (by kernel_rfl) (by kernel_rfl) (by kernel_rfl) (fun _ _ _ h => h) (fun _ => hH) (fun x => run_as (run_field Try.underlying66 rfl inf64 (by decide) rfl) (show _ = Value.pointer (some ⟨b2, 0, none⟩) from rfl)) rfl ?_
  refine AnC_takeP 4 (by kernel_rfl) rfl (by kernel_rfl) (by kernel_rfl) (by kernel_rfl) (fun _ _ _ h => h) (fun _ => hH) (fun x => run_as (run_field Try.underlying64 rfl inf62 (by decide) rfl) (show _ = Value.pointer (some ⟨b2, 1, none⟩) from rfl)) rfl ?_
  refine AnC_take 5 [15, 5] rfl (by kernel_rfl) (by kernel_rfl) (by kernel_rfl) (by kernel_rfl) (fun _ _ _ h => h) hH (fun x hx => run_load sc62 rfl ((hs.grow hx).blk_at 1 rfl 1 rfl)) rfl ?_
  refine AnC_takeP 7 (by kernel_rfl) rfl (by kernel_rfl) (by kernel_rfl) (by kernel_rfl) (fun _ _ _ h => h) (fun _ => hH) (fun x => run_as (run_field Try.underlying66 rfl inf64 (by decide) rfl) (show _ = Value.pointer (some ⟨b2, 0, none⟩) from rfl)) rfl ?_
  refine AnC_takeP 8 (by kernel_rfl) rfl (by kernel_rfl) (by kernel_rfl) (by kernel_rfl) (fun _ _ _ h => h) (fun _ => hH) (fun x => run_as (run_field Try.underlying64 rfl inf62 (by decide) rfl) (show _ = Value.pointer (some ⟨b2, 2, none⟩) from rfl)) rfl ?_
  refine AnC_take 9 [15, 9] rfl (by kernel_rfl) (by kernel_rfl) (by kernel_rfl) (by kernel_rfl) (fun _ _ _ h => h) hH (fun x hx => run_load sc62 rfl ((hs.grow hx).blk_at 1 rfl 2 rfl)) rfl ?_
  refine AnC_takeP 12 (by kernel_rfl) rfl (by kernel_rfl) (by kernel_rfl) (by kernel_rfl) (fun _ _ _ h => h) (fun _ => hH) (fun x => run_as (run_field Try.underlying66 rfl inf3 (by decide) rfl) (show _ = Value.pointer (some ⟨b2, 3, none⟩) from rfl)) rfl ?_
  refine AnC_take 13 [15, 13] rfl (by kernel_rfl) (by kernel_rfl) (by kernel_rfl) (by kernel_rfl) (fun _ _ _ h => h) hH (fun x hx => run_load sc3 rfl ((hs.grow hx).blk_at 1 rfl 3 rfl)) rfl ?_
  refine AnC_only 6 (by kernel_rfl) rfl ?_
  refine Ls_call Try.func90 nm90 rfl rfl (rcopI_c w5 _ _ _ n.prev (hrp.inB hs) (by omega)) rfl ?_
  rintro v7 w9 ⟨Aop, cop, rfl, hsop⟩
  replace hs := hs.trans hsop
  simp only [List.nil_append, List.cons_append] at hs
  replace hH := (hsop.below : Below w5.heap.size w5 w9)
  refine Ls_nil (Jm_AnC (fun _ => hH) ?_)
  refine AnC_grow hH ?_
  replace hH := Below.refl w9.heap.size w9
  refine AnC_only 10 (by kernel_rfl) rfl ?_
  refine Ls_call Try.func90 nm90 rfl rfl (rcopI_c w9 _ _ _ n.cur (hrc.inB hs) (by omega)) rfl ?_
  rintro v10 w11 ⟨Aoc, coc, rfl, hsoc⟩
  replace hs := hs.trans hsoc
  simp only [List.nil_append, List.cons_append] at hs
  replace hH := (hsoc.below : Below w9.heap.size w9 w11)
  refine Ls_nil (Jm_AnC (fun _ => hH) ?_)
  refine AnC_grow hH ?_
  replace hH := Below.refl w11.heap.size w11
  refine AnC_takeP 11 (by kernel_rfl) rfl (by kernel_rfl) (by kernel_rfl) (by kernel_rfl) (fun _ _ _ h => h) (fun _ => hH) (fun x => run_buildO (pv := [(0, _), (1, _), (2, _)]) rfl (bld64_0_1_2 _ _ _ _ _ _ _)) rfl ?_
  refine AnC_takeP 14 (by kernel_rfl) rfl (by kernel_rfl) (by kernel_rfl) (by kernel_rfl) (fun _ _ _ h => h) (fun _ => hH) (fun x => run_buildO (pv := [(0, _), (1, _)]) rfl (bld66_0_1 _ _ _ _ _ _ _ _)) rfl ?_
  refine AnC_only 15 (by kernel_rfl) rfl ?_
  replace hs := hs.front 2 rfl
  simp only [List.cons_append, List.nil_append, List.eraseIdx_cons_zero, List.eraseIdx_cons_succ] at hs
  refine Ls_storeAgg hs inf66 rfl rfl rfl rfl (by simp [Value.oneCell', Value.cells, jcells]) ?_
  intro w12 hs
  refine Ls_nil (Jm_AnC_closed (by kernel_rfl) ?_)
  refine AnC_switch (H' := fun x => Below w12.heap.size w12 x) 16 (by kernel_rfl) ?_
  replace hH := Below.refl w12.heap.size w12
  refine AnC_done (by kernel_rfl) ?_
  refine Jm_seq ?_
  refine St_ret ?_
  refine Jm_retC rfl agg66 inf66 rfl rfl (hs.blk_cells 0 rfl 0 4) ?_
  replace hs := hs.front 1 rfl
  simp only [List.cons_append, List.nil_append, List.eraseIdx_cons_zero, List.eraseIdx_cons_succ] at hs
  replace hs := hs.front 2 rfl
  simp only [List.cons_append, List.nil_append, List.eraseIdx_cons_zero, List.eraseIdx_cons_succ] at hs
  exact ⟨_, rfl, Aop, cop, Aoc, coc, rfl, Sat.pre (L1 := [_, _]) hs⟩
set_option maxRecDepth 100000 in
set_option maxHeartbeats 1000000 in
theorem rBytes_c (w : World) (n : NSt) (Ap : Option Addr) (cp : Nat) (Ac : Option Addr) (cc : Nat) (hrp : Rd w Ap n.prev.length cp 1 (KI.flat n.prev)) (hrc : Rd w Ac n.cur.length cc 1 (KI.flat n.cur)) (hz : n.prev.length ≤ 1073741824 ∧ n.cur.length ≤ 1073741824) (gen parts : Int) (hok : noteOk n parts) (hp4 : parts ≤ 4) (hg : 0 ≤ gen ∧ gen ≤ 1099511627777) :
    Calls Try.prog 71 [.int .i64 gen, .agg #[.int .i64 n.batch, .slice Ap n.prev.length cp, .slice Ac n.cur.length cc, .int .i64 n.att]].toArray w (Ret (fun v' w' => ∃ A c, v' = .slice A (nbytes gen n).length c ∧ Sat w w' [Own 5 1 (.slice A (nbytes gen n).length c) (nbytes gen n).length (bytesV (nbytes gen n))])) := by
  have hs := Sat.start w
  obtain ⟨hpsnp, hpsnc⟩ := noteOk_pos hok
  have hwb := hok.1
  have hwa := hok.2.1
  unfold within at hwb hwa
  obtain ⟨hl1, hl2⟩ := noteOk_len hok
  have a1 := pb_len10 (n := gen.toNat) (by omega)
  have a2 := pb_len10 (n := n.batch.toNat) (by omega)
  have a3 := pb_len10 (n := n.att.toNat) (by omega)
  have a4 := nm_len (l := n.prev) (fun x hx => by have := hpsnp x hx; omega) (by omega)
  have a5 := nm_len (l := n.cur) (fun x hx => by have := hpsnc x hx; omega) (by omega)
  refine Calls_body Try.func71 rfl rfl rfl (envE_cons (i := 0) (v := .int .i64 gen) rfl (envE_cons (i := 1) (v := .agg #[.int .i64 n.batch, .slice Ap n.prev.length cp, .slice Ac n.cur.length cc, .int .i64 n.att]) rfl envE_nil)) ?_
  refine St_seq ?_
  refine St_region ?_
  refine Ls_box hs rfl rfl ?_
  intro b2 w1 hs
  refine Ls_run (run_assign rfl) rfl ?_
  refine Ls_nil ?_
  refine Jm_seq ?_
  refine St_seq ?_
  refine St_region ?_
  refine Ls_run (run_move rfl) rfl ?_
  refine Ls_run (run_conv_int Try.underlying114 us3 rfl (show _ = ((gen).toNat : Int) by rw [wu64 (by omega)]; omega)) rfl ?_
  refine Ls_call Try.func86 nm86 rfl rfl (rPut_c w1 (gen).toNat (by omega)) rfl ?_
  rintro v3 w4 ⟨Ap1, cp1, rfl, hsp1⟩
  replace hs := hs.trans hsp1
  simp only [List.nil_append, List.cons_append] at hs
  refine Ls_run (run_assign rfl) rfl ?_
  refine Ls_nil ?_
  refine Jm_seq ?_
  refine St_seq ?_
  refine St_region ?_
  refine Ls_run (run_move rfl) rfl ?_
  refine Ls_run (run_as (run_field Try.underlying66 rfl inf64 (by decide) rfl) (show _ = Value.pointer (some ⟨b2, 0, none⟩) from rfl)) rfl ?_
  refine Ls_run (run_as (run_field Try.underlying64 rfl inf3 (by decide) rfl) (show _ = Value.pointer (some ⟨b2, 0, none⟩) from rfl)) rfl ?_
  refine Ls_run (run_load sc3 rfl (hs.blk_at 1 rfl 0 rfl)) rfl ?_
  refine Ls_run (run_conv_int Try.underlying114 us3 rfl (show _ = ((n.batch).toNat : Int) by rw [wu64 (by omega)]; omega)) rfl ?_
  refine Ls_call Try.func86 nm86 rfl rfl (rPut_c w4 (n.batch).toNat (by omega)) rfl ?_
  rintro v5 w6 ⟨Ap2, cp2, rfl, hsp2⟩
  replace hs := hs.trans hsp2
  simp only [List.nil_append, List.cons_append] at hs
  replace hs := hs.front 1 rfl
  simp only [List.cons_append, List.nil_append, List.eraseIdx_cons_zero, List.eraseIdx_cons_succ] at hs
  refine Ls_append hs Try.underlying31 inf5 rfl (by decide) (by decide) rfl rfl (hs.rd_at 1 rfl) (bytesV_one' _) (by omega) rfl ?_
  intro A7 c8 w9 hs
  refine Ls_run (run_assign rfl) rfl ?_
  refine Ls_nil ?_
  refine Jm_seq ?_
  refine St_seq ?_
  refine St_region ?_
  refine Ls_run (run_move rfl) rfl ?_
  refine Ls_run (run_as (run_field Try.underlying66 rfl inf3 (by decide) rfl) (show _ = Value.pointer (some ⟨b2, 3, none⟩) from rfl)) rfl ?_
  refine Ls_run (run_load sc3 rfl (hs.blk_at 2 rfl 3 rfl)) rfl ?_
  refine Ls_run (run_conv_int Try.underlying114 us3 rfl (show _ = ((n.att).toNat : Int) by rw [wu64 (by omega)]; omega)) rfl ?_
  refine Ls_call Try.func86 nm86 rfl rfl (rPut_c w9 (n.att).toNat (by omega)) rfl ?_
  rintro v10 w11 ⟨Ap3, cp3, rfl, hsp3⟩
  replace hs := hs.trans hsp3
  simp only [List.nil_append, List.cons_append] at hs
  replace hs := hs.front 1 rfl
  simp only [List.cons_append, List.nil_append, List.eraseIdx_cons_zero, List.eraseIdx_cons_succ] at hs
  refine Ls_append hs Try.underlying31 inf5 rfl (by decide) (by decide) rfl rfl (hs.rd_at 1 rfl) (bytesV_one' _) (by omega) rfl ?_
  intro A12 c13 w14 hs
  refine Ls_run (run_assign rfl) rfl ?_
  refine Ls_nil ?_
  refine Jm_seq ?_
  refine St_seq ?_
  refine St_region ?_
  refine Ls_run (run_as (run_field Try.underlying66 rfl inf64 (by decide) rfl) (show _ = Value.pointer (some ⟨b2, 0, none⟩) from rfl)) rfl ?_
  refine Ls_run (run_as (run_field Try.underlying64 rfl inf62 (by decide) rfl) (show _ = Value.pointer (some ⟨b2, 1, none⟩) from rfl)) rfl ?_
  refine Ls_run (run_load sc62 rfl (hs.blk_at 3 rfl 1 rfl)) rfl ?_
  refine Ls_call Try.func87 nm87 rfl rfl (rNums_ok w14 _ _ _ n.prev (hrp.inB hs) (by omega) hpsnp) rfl ?_
  rintro v15 w16 ⟨Anp, cnp, rfl, hsnp⟩
  replace hs := hs.trans hsnp
  simp only [List.nil_append, List.cons_append] at hs
  refine Ls_run (run_move rfl) rfl ?_
  refine Ls_run (run_extract rfl rfl) rfl ?_
  refine Ls_run (run_extract rfl rfl) rfl ?_
  refine Ls_run (run_assign rfl) rfl ?_
  refine Ls_run (run_assign rfl) rfl ?_
  refine Ls_nil ?_
  refine Jm_seq ?_
  refine St_seq ?_
  refine St_region ?_
  refine Ls_run (run_as (run_field Try.underlying66 rfl inf64 (by decide) rfl) (show _ = Value.pointer (some ⟨b2, 0, none⟩) from rfl)) rfl ?_
  refine Ls_run (run_as (run_field Try.underlying64 rfl inf62 (by decide) rfl) (show _ = Value.pointer (some ⟨b2, 2, none⟩) from rfl)) rfl ?_
  refine Ls_run (run_load sc62 rfl (hs.blk_at 4 rfl 2 rfl)) rfl ?_
  refine Ls_call Try.func87 nm87 rfl rfl (rNums_ok w16 _ _ _ n.cur (hrc.inB hs) (by omega) hpsnc) rfl ?_
  rintro v17 w18 ⟨Anc, cnc, rfl, hsnc⟩
  replace hs := hs.trans hsnc
  simp only [List.nil_append, List.cons_append] at hs
  refine Ls_run (run_move rfl) rfl ?_
  refine Ls_run (run_extract rfl rfl) rfl ?_
  refine Ls_run (run_extract rfl rfl) rfl ?_
  refine Ls_run (run_assign rfl) rfl ?_
  refine Ls_run (run_assign rfl) rfl ?_
  refine Ls_nil ?_
  refine Jm_seq ?_
  refine St_seq ?_
  refine St_region ?_
  refine Ls_run (run_move rfl) rfl ?_
  refine Ls_run (run_move rfl) rfl ?_
  replace hs := hs.front 2 rfl
  simp only [List.cons_append, List.nil_append, List.eraseIdx_cons_zero, List.eraseIdx_cons_succ] at hs
  refine Ls_append hs Try.underlying31 inf5 rfl (by decide) (by decide) rfl rfl (hs.rd_at 2 rfl) (bytesV_one' _) (by omega) rfl ?_
  intro A19 c20 w21 hs
  refine Ls_run (run_assign rfl) rfl ?_
  refine Ls_nil ?_
  refine Jm_seq ?_
  refine St_seq ?_
  refine St_region ?_
  refine Ls_run (run_move rfl) rfl ?_
  refine Ls_run (run_move rfl) rfl ?_
  refine Ls_append hs Try.underlying31 inf5 rfl (by decide) (by decide) rfl rfl (hs.rd_at 1 rfl) (bytesV_one' _) (by omega) rfl ?_
  intro A22 c23 w24 hs
  refine Ls_run (run_assign rfl) rfl ?_
  refine Ls_nil ?_
  refine Jm_seq ?_
  refine St_seq ?_
  refine St_region ?_
  refine Ls_run (run_move rfl) rfl ?_
  refine Ls_run (run_assign rfl) rfl ?_
  refine Ls_nil ?_
  refine Jm_seq ?_
  refine St_ret ?_
  refine Jm_ret1 rfl rfl ?_
  have e1 : nbytes gen n = pb gen.toNat ++ pb n.batch.toNat ++ pb n.att.toNat ++ nm n.prev ++ nm n.cur := by simp [nbytes, List.append_assoc]
  have e2 : (nbytes gen n).length = (pb gen.toNat).length + (pb n.batch.toNat).length + (pb n.att.toNat).length + (nm n.prev).length + (nm n.cur).length := by rw [e1]; simp only [List.length_append]
  have e3 : bytesV (nbytes gen n) = bytesV (pb gen.toNat) ++ bytesV (pb n.batch.toNat) ++ bytesV (pb n.att.toNat) ++ bytesV (nm n.prev) ++ bytesV (nm n.cur) := by rw [e1]; simp only [bytesV_append]
  rw [e2, e3]
  exact ⟨_, rfl, _, _, rfl, Sat.pre (L1 := [_]) hs⟩
end Go.Proofs.Ytpmkedgennnekaa.Lg
