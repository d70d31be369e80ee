/-
  The journal's readEntry, walked. By program (gen/jour7.py).
-/
import Derived.Test.YtpmkedgennnekaaJour6
import Derived.Test.YtpmkedgennnekaaJRead
set_option linter.unusedVariables false
set_option linter.unusedSimpArgs false
namespace Go.Proofs.Ytpmkedgennnekaa.Lg
open Go Go.RowKit Go.Proofs.Ytpmkedgennnekaa.WirePure
theorem three {k : Nat} (hk : k < 3) : k = 0 ∨ k = 1 ∨ k = 2 := by omega
theorem sel3p {k : Nat} (hk : k < 3) (g : Nat) : ([Value.pointer (some ⟨g, 4, none⟩), .pointer (some ⟨g, 0, none⟩), .pointer (some ⟨g, 3, none⟩)]).getD k nilV = .pointer (some ⟨g, sel3 k 4 0 3, none⟩) := by
  rcases three hk with rfl | rfl | rfl <;> rfl
theorem sel3b {k : Nat} (hk : k < 3) {a b c d e : Value} : Nat.blt (sel3 k 4 0 3) ([a, b, c, d, e]).length = true := by
  rcases three hk with rfl | rfl | rfl <;> rfl
theorem sel3s {k : Nat} (hk : k < 3) {x0 x1 x2 x : Int} {b c : Value} : ([Value.int .i64 x1, b, c, .int .i64 x2, .int .i64 x0]).set (sel3 k 4 0 3) (.int .i64 x) = [.int .i64 (if k = 1 then x else x1), b, c, .int .i64 (if k = 2 then x else x2), .int .i64 (if k = 0 then x else x0)] := by
  rcases three hk with rfl | rfl | rfl <;> rfl
theorem two {k : Nat} (hk : k < 2) : k = 0 ∨ k = 1 := by omega
theorem sel2p {k : Nat} (hk : k < 2) (g : Nat) : ([Value.pointer (some ⟨g, 1, none⟩), .pointer (some ⟨g, 2, none⟩)]).getD k nilV = .pointer (some ⟨g, sel3 k 1 2 2, none⟩) := by
  rcases two hk with rfl | rfl <;> rfl
theorem sel2b {k : Nat} (hk : k < 2) {a b c d e : Value} : Nat.blt (sel3 k 1 2 2) ([a, b, c, d, e]).length = true := by
  rcases two hk with rfl | rfl <;> rfl
theorem sel2s {k : Nat} (hk : k < 2) {a b c d e v : Value} : ([a, b, c, d, e]).set (sel3 k 1 2 2) v = [a, if k = 0 then v else b, if k = 0 then c else v, d, e] := by
  rcases two hk with rfl | rfl <;> rfl
theorem Sat.pick2 {B w : World} {T : Nat} {vN v1 v2 : Value} {lN l1 l2 : List Int} {L : List Assn} {k : Nat} (hk : k < 2) (hs : Sat B w (Own T 1 vN lN.length (KI.flat lN) :: Own T 1 v1 l1.length (KI.flat l1) :: Own T 1 v2 l2.length (KI.flat l2) :: L)) :
    Sat B w (Own T 1 (if k = 0 then vN else v1) (if k = 0 then lN else l1).length (KI.flat (if k = 0 then lN else l1)) :: Own T 1 (if k = 0 then v2 else vN) (if k = 0 then l2 else lN).length (KI.flat (if k = 0 then l2 else lN)) :: L) := by
  rcases two hk with rfl | rfl
  · exact hs.erase 1
  · exact (hs.front 1 rfl).erase 2
theorem IsBytes.dropn {l : List Int} (h : IsBytes l) (i : Nat) : IsBytes (l.drop i) := fun q hq => h q (List.mem_of_mem_drop hq)
set_option maxRecDepth 100000 in
set_option maxHeartbeats 1000000 in
theorem readEntry_c (w : World) (A : Option Addr) (n c : Nat) (b : List Int) (hr : Rd w A n c 1 (bytesV b)) (hb : IsBytes b) (hn : n ≤ 1000000) (parts : Int) :
    Calls Try.prog 70 [.slice A n c, .int .i64 parts].toArray w (Ret (fun v' w' => ∃ (q : NSt) (g : Int) (Ap : Option Addr) (cp : Nat) (Ac : Option Addr) (cc : Nat) (ok : Bool), v' = .tuple #[.agg #[.int .i64 q.batch, .slice Ap q.prev.length cp, .slice Ac q.cur.length cc, .int .i64 q.att, .int .i64 g], .bool ok] ∧ Sat w w' [Own 3 1 (.slice Ap q.prev.length cp) q.prev.length (KI.flat q.prev), Own 3 1 (.slice Ac q.cur.length cc) q.cur.length (KI.flat q.cur)] ∧ ((ok = true ∧ rentry b parts = some (q, g)) ∨ (ok = false ∧ rentry b parts = none)))) := by
  have hs := Sat.start w
  refine Calls_body Try.func70 rfl rfl rfl (envE_cons (i := 0) (v := .slice A n c) rfl (envE_cons (i := 1) (v := .int .i64 parts) rfl envE_nil)) ?_
  refine St_seq ?_
  refine St_region ?_
  refine Ls_alloc hs inf96 rfl ?_
  intro b2 w1 hs
  refine Ls_run (run_assign rfl) rfl ?_
  refine Ls_nil ?_
  refine Jm_seq ?_
  refine St_seq ?_
  refine St_region ?_
  refine Ls_alloc hs inf96 rfl ?_
  intro b4 w3 hs
  refine Ls_nil ?_
  refine Jm_seq ?_
  refine St_seq ?_
  refine St_seq ?_
  refine St_region ?_
  refine Ls_run (run_as (run_field Try.underlying96 rfl inf3 (by decide) rfl) (show _ = Value.pointer (some ⟨b4, 4, none⟩) from rfl)) rfl ?_
  refine Ls_run (run_as (run_field Try.underlying96 rfl inf66 (by decide) rfl) (show _ = Value.pointer (some ⟨b4, 0, none⟩) from rfl)) rfl ?_
  refine Ls_run (run_as (run_field Try.underlying66 rfl inf64 (by decide) rfl) (show _ = Value.pointer (some ⟨b4, 0, none⟩) from rfl)) rfl ?_
  refine Ls_run (run_as (run_field Try.underlying64 rfl inf3 (by decide) rfl) (show _ = Value.pointer (some ⟨b4, 0, none⟩) from rfl)) rfl ?_
  refine Ls_run (run_as (run_field Try.underlying96 rfl inf66 (by decide) rfl) (show _ = Value.pointer (some ⟨b4, 0, none⟩) from rfl)) rfl ?_
  refine Ls_run (run_as (run_field Try.underlying66 rfl inf3 (by decide) rfl) (show _ = Value.pointer (some ⟨b4, 3, none⟩) from rfl)) rfl ?_
  refine Ls_literal [_, _, _] hs Try.underlying118 inf117 rfl rfl rfl rfl rfl rfl ?_
  intro b5 w6 hs
  simp only [List.flatMap_cons, List.flatMap_nil, Value.cells, List.cons_append, List.nil_append] at hs
  refine Ls_run (run_len Try.underlying118 rfl) rfl ?_
  refine Ls_run (run_move rfl) rfl ?_
  refine Ls_nil ?_
  refine Jm_seq ?_
  refine St_block ?_
  replace hs := hs.front 2 rfl
  simp only [List.cons_append, List.nil_append, List.eraseIdx_cons_zero, List.eraseIdx_cons_succ] at hs
  replace hs := hs.front 1 rfl
  simp only [List.cons_append, List.nil_append, List.eraseIdx_cons_zero, List.eraseIdx_cons_succ] at hs
  replace hs := hs.front 2 rfl
  simp only [List.cons_append, List.nil_append, List.eraseIdx_cons_zero, List.eraseIdx_cons_succ] at hs
  obtain ⟨En7, hEn7⟩ : ∃ F : Nat × Int × Int × Int × Option Addr × Nat × Nat × List Int → Env, ∀ (k : Nat) (x0 : Int) (x1 : Int) (x2 : Int) (A1 : Option Addr) (n1 : Nat) (c1 : Nat) (b1 : List Int), F (k, x0, x1, x2, A1, n1, c1, b1) = [(0, .slice A1 n1 c1), (1, .int .i64 parts), (4, .pointer (some ⟨b2, 0, none⟩)), (6, .pointer (some ⟨b4, 0, none⟩)), (23, .slice (some ⟨b5, 0, none⟩) 3 3), (24, .int .i64 ((3 : Nat) : Int)), (25, .int .i64 (k : Int))] := ⟨(fun (s : Nat × Int × Int × Int × Option Addr × Nat × Nat × List Int) => match s with | (k, x0, x1, x2, A1, n1, c1, b1) => [(0, .slice A1 n1 c1), (1, .int .i64 parts), (4, .pointer (some ⟨b2, 0, none⟩)), (6, .pointer (some ⟨b4, 0, none⟩)), (23, .slice (some ⟨b5, 0, none⟩) 3 3), (24, .int .i64 ((3 : Nat) : Int)), (25, .int .i64 (k : Int))]), fun _ _ _ _ _ _ _ _ => rfl⟩
  obtain ⟨Iv8, hIv8⟩ : ∃ F : Nat × Int × Int × Int × Option Addr × Nat × Nat × List Int → World → Prop, ∀ (k : Nat) (x0 : Int) (x1 : Int) (x2 : Int) (A1 : Option Addr) (n1 : Nat) (c1 : Nat) (b1 : List Int) (wr : World), F (k, x0, x1, x2, A1, n1, c1, b1) wr = (Sat w wr [Blk b4 [.int .i64 x1, .slice none 0 0, .slice none 0 0, .int .i64 x2, .int .i64 x0] 96, Blk b5 [.pointer (some ⟨b4, 4, none⟩), .pointer (some ⟨b4, 0, none⟩), .pointer (some ⟨b4, 3, none⟩)] 117, Blk b2 [.int .i64 0, .slice none 0 0, .slice none 0 0, .int .i64 0, .int .i64 0] 96] ∧ k ≤ 3 ∧ rentry b parts = rdK k x0 x1 x2 b1 parts ∧ Rd w A1 n1 c1 1 (bytesV b1) ∧ IsBytes b1 ∧ n1 ≤ 1000000) := ⟨(fun (s : Nat × Int × Int × Int × Option Addr × Nat × Nat × List Int) => match s with | (k, x0, x1, x2, A1, n1, c1, b1) => fun (wr : World) => Sat w wr [Blk b4 [.int .i64 x1, .slice none 0 0, .slice none 0 0, .int .i64 x2, .int .i64 x0] 96, Blk b5 [.pointer (some ⟨b4, 4, none⟩), .pointer (some ⟨b4, 0, none⟩), .pointer (some ⟨b4, 3, none⟩)] 117, Blk b2 [.int .i64 0, .slice none 0 0, .slice none 0 0, .int .i64 0, .int .i64 0] 96] ∧ k ≤ 3 ∧ rentry b parts = rdK k x0 x1 x2 b1 parts ∧ Rd w A1 n1 c1 1 (bytesV b1) ∧ IsBytes b1 ∧ n1 ≤ 1000000), fun _ _ _ _ _ _ _ _ _ => rfl⟩
  obtain ⟨ms9, hms9⟩ : ∃ F : Nat × Int × Int × Int × Option Addr × Nat × Nat × List Int → Nat, ∀ (k : Nat) (x0 : Int) (x1 : Int) (x2 : Int) (A1 : Option Addr) (n1 : Nat) (c1 : Nat) (b1 : List Int), F (k, x0, x1, x2, A1, n1, c1, b1) = (3 - k) := ⟨(fun (s : Nat × Int × Int × Int × Option Addr × Nat × Nat × List Int) => match s with | (k, x0, x1, x2, A1, n1, c1, b1) => 3 - k), fun _ _ _ _ _ _ _ _ => rfl⟩
  refine St_loop En7 Iv8 ms9 (0, 0, 0, 0, A, n, c, b) ?_ ?_ ?_
  · skip
    rw [hIv8]
    exact ⟨hs, by omega, rfl, hr, hb, hn⟩
  · rw [hEn7]; exact (subE_cons rfl (subE_cons rfl (subE_cons rfl (subE_cons rfl (subE_cons rfl (subE_cons rfl (subE_cons rfl subE_nil)))))))
  rintro ⟨k, x0, x1, x2, A1, n1, c1, b1⟩ wr hI10
  rw [hIv8] at hI10
  obtain ⟨hs, hk, hre, hr1, hb1, hn1⟩ := hI10
  refine St_eqE (hEn7 _ _ _ _ _ _ _ _) ?_
  refine St_seq ?_
  refine St_region ?_
  refine Ls_run (run_lss rfl rfl) rfl ?_
  refine Ls_nil ?_
  refine Jm_seq ?_
  refine St_seq ?_
  refine St_ifP rfl (fun h11 => ?_) (fun h11 => ?_)
  · skip
    refine St_skip ?_
    refine Jm_seq ?_
    refine St_seq ?_
    refine St_block ?_
    refine St_seq ?_
    refine St_region ?_
    have hk3 : k < 3 := by omega
    refine Ls_index (El.val) ((show Rd _ _ 3 3 1 (El.val.flat [.pointer (some ⟨b4, 4, none⟩), .pointer (some ⟨b4, 0, none⟩), .pointer (some ⟨b4, 3, none⟩)]) from rd_block (hs.is_at 1 rfl).2 1 3 rfl)) Try.underlying118 inf117 rfl rfl (by omega) (by omega) (sel3p hk3 _) rfl ?_
    intro b12 o13 hc14
    refine Ls_run (run_load sc117 rfl (hc14 0 _ rfl)) rfl ?_
    refine Ls_run (run_assign rfl) rfl ?_
    refine Ls_nil ?_
    refine Jm_seq ?_
    refine St_seq ?_
    refine St_region ?_
    refine Ls_run (run_move rfl) rfl ?_
    refine Ls_call Try.func84 nm84 rfl rfl (Take_c wr A1 n1 c1 b1 (hr1.inB hs) hb1 (by omega)) rfl ?_
    rintro v15 w16 ⟨rfl, rfl⟩
    obtain ⟨⟨xv, a, e⟩, htk⟩ : ∃ q, tk 0 0 b1 = q := ⟨_, rfl⟩
    rw [tkV_eq htk]
    refine Ls_run (run_move rfl) rfl ?_
    refine Ls_run (run_extract rfl rfl) rfl ?_
    refine Ls_run (run_extract rfl rfl) rfl ?_
    refine Ls_run (run_extract rfl rfl) rfl ?_
    refine Ls_run (run_assign rfl) rfl ?_
    refine Ls_run (run_assign rfl) rfl ?_
    refine Ls_run (run_assign rfl) rfl ?_
    refine Ls_nil ?_
    refine Jm_seq ?_
    refine St_seq ?_
    refine St_seq ?_
    refine St_region ?_
    refine Ls_run (run_move rfl) rfl ?_
    refine Ls_run (run_neq rfl rfl) rfl ?_
    refine Ls_run (run_move rfl) rfl ?_
    refine Ls_partP (t := 37) rfl (fun h17 => ?_) (fun h17 => ?_)
    · skip
      refine Ls_off rfl rfl rfl rfl ?_
      refine Ls_off rfl rfl rfl rfl ?_
      refine Ls_run (run_pick_t rfl rfl) rfl ?_
      refine Ls_nil ?_
      refine Jm_seq ?_
      refine St_ift rfl ?_
      refine St_seq ?_
      refine St_region ?_
      refine Ls_run (run_buildO (pv := []) rfl (bld96 )) rfl ?_
      replace hs := hs.front 2 rfl
      simp only [List.cons_append, List.nil_append, List.eraseIdx_cons_zero, List.eraseIdx_cons_succ] at hs
      refine Ls_storeAgg hs inf96 rfl rfl rfl rfl (by simp [Value.oneCell', Value.cells, jcells]) ?_
      intro w19 hs
      refine Ls_run (run_assign rfl) rfl ?_
      refine Ls_nil ?_
      refine Jm_seq ?_
      refine St_ret ?_
      refine Jm_then_ret (Jm_block_ret (Jm_then_ret (Jm_then_ret (Jm_block_ret (Jm_then_ret  ?_)))))
      refine Jm_retCT rfl agg96 inf96 rfl rfl rfl (hs.blk_cells 0 rfl 0 5) ?_
      first
      | exact ⟨_, rfl, ⟨0, [], [], 0⟩, 0, none, 0, none, 0, false, rfl, (hs.forget.own_nil 3 1).own_nil 3 1, .inr ⟨rfl, by rw [hre, rdK_none (by omega) (tk1_none htk (by omega))]⟩⟩
      | exact ⟨_, rfl, ⟨0, [], [], 0⟩, 0, none, 0, none, 0, false, rfl, (hs.forget.own_nil 3 1).own_nil 3 1, .inr ⟨rfl, by rw [hre2, rdN_none (by omega) (tn1_none htn (by assumption))]⟩⟩
      | exact ⟨_, rfl, ⟨0, [], [], 0⟩, 0, none, 0, none, 0, false, rfl, (hs.forget.own_nil 3 1).own_nil 3 1, .inr ⟨rfl, by rw [hre2]; unfold rdF; rw [if_pos (.inl (by omega))]⟩⟩
      | exact ⟨_, rfl, ⟨0, [], [], 0⟩, 0, none, 0, none, 0, false, rfl, (hs.forget.own_nil 3 1).own_nil 3 1, .inr ⟨rfl, by rw [hre2]; unfold rdF; rw [if_pos (.inr (.inl (by assumption)))]⟩⟩
      | exact ⟨_, rfl, ⟨0, [], [], 0⟩, 0, none, 0, none, 0, false, rfl, (hs.forget.own_nil 3 1).own_nil 3 1, .inr ⟨rfl, by rw [hre2]; unfold rdF; rw [if_pos (.inr (.inr (by assumption)))]⟩⟩
    · skip
      refine Ls_on rfl rfl ?_
      refine Ls_run (run_move rfl) rfl ?_
      refine Ls_on rfl rfl ?_
      refine Ls_run (run_gtr rfl rfl) rfl ?_
      refine Ls_run (run_pick_f rfl rfl) rfl ?_
      refine Ls_nil ?_
      refine Jm_seq ?_
      refine St_ifP rfl (fun h20 => ?_) (fun h20 => ?_)
      · skip
        refine St_seq ?_
        refine St_region ?_
        refine Ls_run (run_buildO (pv := []) rfl (bld96 )) rfl ?_
        replace hs := hs.front 2 rfl
        simp only [List.cons_append, List.nil_append, List.eraseIdx_cons_zero, List.eraseIdx_cons_succ] at hs
        refine Ls_storeAgg hs inf96 rfl rfl rfl rfl (by simp [Value.oneCell', Value.cells, jcells]) ?_
        intro w21 hs
        refine Ls_run (run_assign rfl) rfl ?_
        refine Ls_nil ?_
        refine Jm_seq ?_
        refine St_ret ?_
        refine Jm_then_ret (Jm_block_ret (Jm_then_ret (Jm_then_ret (Jm_block_ret (Jm_then_ret  ?_)))))
        refine Jm_retCT rfl agg96 inf96 rfl rfl rfl (hs.blk_cells 0 rfl 0 5) ?_
        first
        | exact ⟨_, rfl, ⟨0, [], [], 0⟩, 0, none, 0, none, 0, false, rfl, (hs.forget.own_nil 3 1).own_nil 3 1, .inr ⟨rfl, by rw [hre, rdK_none (by omega) (tk1_none htk (by omega))]⟩⟩
        | exact ⟨_, rfl, ⟨0, [], [], 0⟩, 0, none, 0, none, 0, false, rfl, (hs.forget.own_nil 3 1).own_nil 3 1, .inr ⟨rfl, by rw [hre2, rdN_none (by omega) (tn1_none htn (by assumption))]⟩⟩
        | exact ⟨_, rfl, ⟨0, [], [], 0⟩, 0, none, 0, none, 0, false, rfl, (hs.forget.own_nil 3 1).own_nil 3 1, .inr ⟨rfl, by rw [hre2]; unfold rdF; rw [if_pos (.inl (by omega))]⟩⟩
        | exact ⟨_, rfl, ⟨0, [], [], 0⟩, 0, none, 0, none, 0, false, rfl, (hs.forget.own_nil 3 1).own_nil 3 1, .inr ⟨rfl, by rw [hre2]; unfold rdF; rw [if_pos (.inr (.inl (by assumption)))]⟩⟩
        | exact ⟨_, rfl, ⟨0, [], [], 0⟩, 0, none, 0, none, 0, false, rfl, (hs.forget.own_nil 3 1).own_nil 3 1, .inr ⟨rfl, by rw [hre2]; unfold rdF; rw [if_pos (.inr (.inr (by assumption)))]⟩⟩
      · skip
        refine St_skip ?_
        refine Jm_seq ?_
        refine St_drawC 7 (fun x => Below wr.heap.size wr x) mixed ?_
        intro w22 q23
        have hH := q23.below
        replace hs := hs.quiet q23
        refine AnC_grow hH ?_
        replace hH := Below.refl w22.heap.size w22
        have he0 : e = 0 := by omega
        subst he0
        have hrg := tk_range hb1 htk
        obtain ⟨an, rfl⟩ : ∃ an : Nat, a = (an : Int) := ⟨a.toNat, by omega⟩
        have hl1 := rdB_len hr1
        have hc1 := hr1.cap
        refine AnC_takeP 0 (by kernel_rfl) rfl (by kernel_rfl) (by kernel_rfl) (by kernel_rfl) (fun _ _ _ h => h) (fun _ => hH) (fun x => run_move rfl) rfl ?_
        refine AnC_takeP 1 (by kernel_rfl) rfl (by kernel_rfl) (by kernel_rfl) (by kernel_rfl) (fun _ _ _ h => h) (fun _ => hH) (fun x => run_move rfl) rfl ?_
        refine AnC_takeP 2 (by kernel_rfl) rfl (by kernel_rfl) (by kernel_rfl) (by kernel_rfl) (fun _ _ _ h => h) (fun _ => hH) (fun x => run_conv_int Try.underlying3 us114 rfl (show _ = xv by rw [w64 (by omega)])) rfl ?_
        refine AnC_takeP 3 (by kernel_rfl) rfl (by kernel_rfl) (by kernel_rfl) (by kernel_rfl) (fun _ _ _ h => h) (fun _ => hH) (fun x => run_move rfl) rfl ?_
        refine AnC_takeP 4 (by kernel_rfl) rfl (by kernel_rfl) (by kernel_rfl) (by kernel_rfl) (fun _ _ _ h => h) (fun _ => hH) (fun x => run_move rfl) rfl ?_
        refine AnC_takeP 5 (by kernel_rfl) rfl (by kernel_rfl) (by kernel_rfl) (by kernel_rfl) (fun _ _ _ h => h) (fun _ => hH) (fun x => run_as (run_slice_l Try.underlying31 inf5 rfl rfl (by omega) (by omega)) (show _ = Value.slice (if c1 = an then A1 else A1.map (·.add (an * 1))) (n1 - an) (c1 - an) from rfl)) rfl ?_
        refine AnC_takeP 6 (by kernel_rfl) rfl (by kernel_rfl) (by kernel_rfl) (by kernel_rfl) (fun _ _ _ h => h) (fun _ => hH) (fun x => run_nilCheck rfl) rfl ?_
        refine AnC_only 7 (by kernel_rfl) rfl ?_
        refine Ls_store hs inf3 rfl rfl rfl (sel3b hk3) ?_
        intro w24 hs
        rw [sel3s hk3] at hs
        refine Ls_nil (Jm_AnC_closed (by kernel_rfl) ?_)
        refine AnC_switch (H' := fun x => Below w24.heap.size w24 x) 9 (by kernel_rfl) ?_
        replace hH := Below.refl w24.heap.size w24
        refine AnC_takeP 8 (by kernel_rfl) rfl (by kernel_rfl) (by kernel_rfl) (by kernel_rfl) (fun _ _ _ h => h) (fun _ => hH) (fun x => run_assign rfl) rfl ?_
        refine AnC_done (by kernel_rfl) ?_
        refine Jm_block_normal (Jm_seq ?_)
        refine St_region ?_
        refine Ls_run (run_add rfl rfl (w64 (by omega))) rfl ?_
        refine Ls_run (run_move rfl) rfl ?_
        refine Ls_nil ?_
        refine Jm_round (k + 1, if k = 0 then xv else x0, if k = 1 then xv else x1, if k = 2 then xv else x2, (if c1 = an then A1 else A1.map (·.add (an * 1))), n1 - an, c1 - an, b1.drop an) ?_ ?_ ?_
        · rw [hEn7]; exact (subE_cons rfl (subE_cons rfl (subE_cons rfl (subE_cons rfl (subE_cons rfl (subE_cons rfl (subE_cons rfl subE_nil)))))))
        · skip
          rw [hIv8]
          exact ⟨hs, by omega, by rw [hre, rdK_some hk3 (tk1_some htk (by omega))]; rfl, rdB_drop hr1 an (by omega), hb1.dropn an, by omega⟩
        · skip
          rw [hms9, hms9]
          omega
  · skip
    refine St_exit ?_
    refine Jm_then_exit (Jm_then_exit (Jm_block_same (Jm_seq ?_)))
    refine St_seq ?_
    refine St_seq ?_
    refine St_region ?_
    have hk9 : k = 3 := by omega
    rw [hk9, rdK_3] at hre
    replace hs := (hs.own_nil 3 1).own_nil 3 1
    refine Ls_run (run_as (run_field Try.underlying96 rfl inf66 (by decide) rfl) (show _ = Value.pointer (some ⟨b4, 0, none⟩) from rfl)) rfl ?_
    refine Ls_run (run_as (run_field Try.underlying66 rfl inf64 (by decide) rfl) (show _ = Value.pointer (some ⟨b4, 0, none⟩) from rfl)) rfl ?_
    refine Ls_run (run_as (run_field Try.underlying64 rfl inf62 (by decide) rfl) (show _ = Value.pointer (some ⟨b4, 1, none⟩) from rfl)) rfl ?_
    refine Ls_run (run_as (run_field Try.underlying96 rfl inf66 (by decide) rfl) (show _ = Value.pointer (some ⟨b4, 0, none⟩) from rfl)) rfl ?_
    refine Ls_run (run_as (run_field Try.underlying66 rfl inf64 (by decide) rfl) (show _ = Value.pointer (some ⟨b4, 0, none⟩) from rfl)) rfl ?_
    refine Ls_run (run_as (run_field Try.underlying64 rfl inf62 (by decide) rfl) (show _ = Value.pointer (some ⟨b4, 2, none⟩) from rfl)) rfl ?_
    refine Ls_literal [_, _] hs Try.underlying122 inf121 rfl rfl rfl rfl rfl rfl ?_
    intro b25 w26 hs
    simp only [List.flatMap_cons, List.flatMap_nil, Value.cells, List.cons_append, List.nil_append] at hs
    refine Ls_run (run_len Try.underlying122 rfl) rfl ?_
    refine Ls_run (run_move rfl) rfl ?_
    refine Ls_nil ?_
    refine Jm_seq ?_
    refine St_block ?_
    replace hs := hs.erase 4
    simp only [List.cons_append, List.nil_append, List.eraseIdx_cons_zero, List.eraseIdx_cons_succ] at hs
    replace hs := hs.front 2 rfl
    simp only [List.cons_append, List.nil_append, List.eraseIdx_cons_zero, List.eraseIdx_cons_succ] at hs
    replace hs := hs.front 2 rfl
    simp only [List.cons_append, List.nil_append, List.eraseIdx_cons_zero, List.eraseIdx_cons_succ] at hs
    replace hs := hs.front 4 rfl
    simp only [List.cons_append, List.nil_append, List.eraseIdx_cons_zero, List.eraseIdx_cons_succ] at hs
    replace hs := hs.front 3 rfl
    simp only [List.cons_append, List.nil_append, List.eraseIdx_cons_zero, List.eraseIdx_cons_succ] at hs
    replace hs := hs.front 4 rfl
    simp only [List.cons_append, List.nil_append, List.eraseIdx_cons_zero, List.eraseIdx_cons_succ] at hs
    obtain ⟨En27, hEn27⟩ : ∃ F : Nat × Value × Value × List Int × List Int × Option Addr × Nat × Nat × List Int → Env, ∀ (k2 : Nat) (v1 : Value) (v2 : Value) (l1 : List Int) (l2 : List Int) (Ab : Option Addr) (nb : Nat) (cb : Nat) (bb : List Int), F (k2, v1, v2, l1, l2, Ab, nb, cb, bb) = [(0, .slice Ab nb cb), (1, .int .i64 parts), (4, .pointer (some ⟨b2, 0, none⟩)), (6, .pointer (some ⟨b4, 0, none⟩)), (56, .slice (some ⟨b25, 0, none⟩) 2 2), (57, .int .i64 ((2 : Nat) : Int)), (58, .int .i64 (k2 : Int))] := ⟨(fun (s : Nat × Value × Value × List Int × List Int × Option Addr × Nat × Nat × List Int) => match s with | (k2, v1, v2, l1, l2, Ab, nb, cb, bb) => [(0, .slice Ab nb cb), (1, .int .i64 parts), (4, .pointer (some ⟨b2, 0, none⟩)), (6, .pointer (some ⟨b4, 0, none⟩)), (56, .slice (some ⟨b25, 0, none⟩) 2 2), (57, .int .i64 ((2 : Nat) : Int)), (58, .int .i64 (k2 : Int))]), fun _ _ _ _ _ _ _ _ _ => rfl⟩
    obtain ⟨Iv28, hIv28⟩ : ∃ F : Nat × Value × Value × List Int × List Int × Option Addr × Nat × Nat × List Int → World → Prop, ∀ (k2 : Nat) (v1 : Value) (v2 : Value) (l1 : List Int) (l2 : List Int) (Ab : Option Addr) (nb : Nat) (cb : Nat) (bb : List Int) (wr2 : World), F (k2, v1, v2, l1, l2, Ab, nb, cb, bb) wr2 = (Sat w wr2 [Blk b4 [.int .i64 x1, v1, v2, .int .i64 x2, .int .i64 x0] 96, Blk b25 [.pointer (some ⟨b4, 1, none⟩), .pointer (some ⟨b4, 2, none⟩)] 121, Blk b2 [.int .i64 0, .slice none 0 0, .slice none 0 0, .int .i64 0, .int .i64 0] 96, Own 3 1 v1 l1.length (KI.flat l1), Own 3 1 v2 l2.length (KI.flat l2)] ∧ k2 ≤ 2 ∧ rentry b parts = rdN k2 x0 x1 x2 l1 l2 bb parts ∧ Rd w Ab nb cb 1 (bytesV bb) ∧ IsBytes bb ∧ nb ≤ 1000000 ∧ l1.length ≤ 4 ∧ l2.length ≤ 4) := ⟨(fun (s : Nat × Value × Value × List Int × List Int × Option Addr × Nat × Nat × List Int) => match s with | (k2, v1, v2, l1, l2, Ab, nb, cb, bb) => fun (wr2 : World) => Sat w wr2 [Blk b4 [.int .i64 x1, v1, v2, .int .i64 x2, .int .i64 x0] 96, Blk b25 [.pointer (some ⟨b4, 1, none⟩), .pointer (some ⟨b4, 2, none⟩)] 121, Blk b2 [.int .i64 0, .slice none 0 0, .slice none 0 0, .int .i64 0, .int .i64 0] 96, Own 3 1 v1 l1.length (KI.flat l1), Own 3 1 v2 l2.length (KI.flat l2)] ∧ k2 ≤ 2 ∧ rentry b parts = rdN k2 x0 x1 x2 l1 l2 bb parts ∧ Rd w Ab nb cb 1 (bytesV bb) ∧ IsBytes bb ∧ nb ≤ 1000000 ∧ l1.length ≤ 4 ∧ l2.length ≤ 4), fun _ _ _ _ _ _ _ _ _ _ => rfl⟩
    obtain ⟨ms29, hms29⟩ : ∃ F : Nat × Value × Value × List Int × List Int × Option Addr × Nat × Nat × List Int → Nat, ∀ (k2 : Nat) (v1 : Value) (v2 : Value) (l1 : List Int) (l2 : List Int) (Ab : Option Addr) (nb : Nat) (cb : Nat) (bb : List Int), F (k2, v1, v2, l1, l2, Ab, nb, cb, bb) = (2 - k2) := ⟨(fun (s : Nat × Value × Value × List Int × List Int × Option Addr × Nat × Nat × List Int) => match s with | (k2, v1, v2, l1, l2, Ab, nb, cb, bb) => 2 - k2), fun _ _ _ _ _ _ _ _ _ => rfl⟩
    refine St_loop En27 Iv28 ms29 (0, .slice none 0 0, .slice none 0 0, [], [], A1, n1, c1, b1) ?_ ?_ ?_
    · skip
      rw [hIv28]
      exact ⟨hs, by omega, hre, hr1, hb1, hn1, by simp, by simp⟩
    · rw [hEn27]; exact (subE_cons rfl (subE_cons rfl (subE_cons rfl (subE_cons rfl (subE_cons rfl (subE_cons rfl (subE_cons rfl subE_nil)))))))
    rintro ⟨k2, v1, v2, l1, l2, Ab, nb, cb, bb⟩ wr2 hI30
    rw [hIv28] at hI30
    obtain ⟨hs, hkk, hre2, hrb, hbb, hnb, hl1, hl2⟩ := hI30
    refine St_eqE (hEn27 _ _ _ _ _ _ _ _ _) ?_
    refine St_seq ?_
    refine St_region ?_
    refine Ls_run (run_lss rfl rfl) rfl ?_
    refine Ls_nil ?_
    refine Jm_seq ?_
    refine St_seq ?_
    refine St_ifP rfl (fun h31 => ?_) (fun h31 => ?_)
    · skip
      refine St_skip ?_
      refine Jm_seq ?_
      refine St_seq ?_
      refine St_block ?_
      refine St_seq ?_
      refine St_region ?_
      have hk2 : k2 < 2 := by omega
      refine Ls_index (El.val) ((show Rd _ _ 2 2 1 (El.val.flat [.pointer (some ⟨b4, 1, none⟩), .pointer (some ⟨b4, 2, none⟩)]) from rd_block (hs.is_at 1 rfl).2 1 2 rfl)) Try.underlying122 inf121 rfl rfl (by omega) (by omega) (sel2p hk2 _) rfl ?_
      intro b32 o33 hc34
      refine Ls_run (run_load sc121 rfl (hc34 0 _ rfl)) rfl ?_
      refine Ls_run (run_assign rfl) rfl ?_
      refine Ls_nil ?_
      refine Jm_seq ?_
      refine St_seq ?_
      refine St_region ?_
      refine Ls_run (run_move rfl) rfl ?_
      refine Ls_call Try.func85 nm85 rfl rfl (TakeNums_c wr2 Ab nb cb bb 4 (hrb.inB hs) hbb (by omega) (by decide)) rfl ?_
      rintro v35 w36 ⟨AT, cT, rfl, hsT⟩
      obtain ⟨⟨l, a2, e2⟩, htn⟩ : ∃ q, tnum bb 4 = q := ⟨_, rfl⟩
      simp only [htn] at hsT ⊢
      replace hs := hs.trans hsT
      simp only [List.cons_append, List.nil_append] at hs
      refine Ls_run (run_move rfl) rfl ?_
      refine Ls_run (run_extract rfl rfl) rfl ?_
      refine Ls_run (run_extract rfl rfl) rfl ?_
      refine Ls_run (run_extract rfl rfl) rfl ?_
      refine Ls_run (run_assign rfl) rfl ?_
      refine Ls_run (run_assign rfl) rfl ?_
      refine Ls_run (run_assign rfl) rfl ?_
      refine Ls_nil ?_
      refine Jm_seq ?_
      refine St_seq ?_
      refine St_seq ?_
      refine St_region ?_
      refine Ls_run (run_move rfl) rfl ?_
      refine Ls_run (run_neq rfl rfl) rfl ?_
      refine Ls_nil ?_
      refine Jm_seq ?_
      refine St_ifP rfl (fun h37 => ?_) (fun h37 => ?_)
      · skip
        refine St_seq ?_
        refine St_region ?_
        refine Ls_run (run_buildO (pv := []) rfl (bld96 )) rfl ?_
        replace hs := hs.front 3 rfl
        simp only [List.cons_append, List.nil_append, List.eraseIdx_cons_zero, List.eraseIdx_cons_succ] at hs
        refine Ls_storeAgg hs inf96 rfl rfl rfl rfl (by simp [Value.oneCell', Value.cells, jcells]) ?_
        intro w38 hs
        refine Ls_run (run_assign rfl) rfl ?_
        refine Ls_nil ?_
        refine Jm_seq ?_
        refine St_ret ?_
        refine Jm_then_ret (Jm_block_ret (Jm_then_ret (Jm_then_ret (Jm_block_ret (Jm_then_ret  ?_)))))
        refine Jm_retCT rfl agg96 inf96 rfl rfl rfl (hs.blk_cells 0 rfl 0 5) ?_
        first
        | exact ⟨_, rfl, ⟨0, [], [], 0⟩, 0, none, 0, none, 0, false, rfl, (hs.forget.own_nil 3 1).own_nil 3 1, .inr ⟨rfl, by rw [hre, rdK_none (by omega) (tk1_none htk (by omega))]⟩⟩
        | exact ⟨_, rfl, ⟨0, [], [], 0⟩, 0, none, 0, none, 0, false, rfl, (hs.forget.own_nil 3 1).own_nil 3 1, .inr ⟨rfl, by rw [hre2, rdN_none (by omega) (tn1_none htn (by assumption))]⟩⟩
        | exact ⟨_, rfl, ⟨0, [], [], 0⟩, 0, none, 0, none, 0, false, rfl, (hs.forget.own_nil 3 1).own_nil 3 1, .inr ⟨rfl, by rw [hre2]; unfold rdF; rw [if_pos (.inl (by omega))]⟩⟩
        | exact ⟨_, rfl, ⟨0, [], [], 0⟩, 0, none, 0, none, 0, false, rfl, (hs.forget.own_nil 3 1).own_nil 3 1, .inr ⟨rfl, by rw [hre2]; unfold rdF; rw [if_pos (.inr (.inl (by assumption)))]⟩⟩
        | exact ⟨_, rfl, ⟨0, [], [], 0⟩, 0, none, 0, none, 0, false, rfl, (hs.forget.own_nil 3 1).own_nil 3 1, .inr ⟨rfl, by rw [hre2]; unfold rdF; rw [if_pos (.inr (.inr (by assumption)))]⟩⟩
      · skip
        refine St_skip ?_
        refine Jm_seq ?_
        refine St_drawC 6 (fun x => Below w36.heap.size w36 x) mixed ?_
        intro w39 q40
        have hH := q40.below
        replace hs := hs.quiet q40
        refine AnC_grow hH ?_
        replace hH := Below.refl w39.heap.size w39
        have he0 : e2 = 0 := by omega
        subst he0
        have hrg := tnum_at hbb htn
        obtain ⟨an, rfl⟩ : ∃ an : Nat, a2 = (an : Int) := ⟨a2.toNat, by omega⟩
        have hlb := rdB_len hrb
        have hcb := hrb.cap
        refine AnC_takeP 0 (by kernel_rfl) rfl (by kernel_rfl) (by kernel_rfl) (by kernel_rfl) (fun _ _ _ h => h) (fun _ => hH) (fun x => run_move rfl) rfl ?_
        refine AnC_takeP 1 (by kernel_rfl) rfl (by kernel_rfl) (by kernel_rfl) (by kernel_rfl) (fun _ _ _ h => h) (fun _ => hH) (fun x => run_move rfl) rfl ?_
        refine AnC_takeP 2 (by kernel_rfl) rfl (by kernel_rfl) (by kernel_rfl) (by kernel_rfl) (fun _ _ _ h => h) (fun _ => hH) (fun x => run_move rfl) rfl ?_
        refine AnC_takeP 3 (by kernel_rfl) rfl (by kernel_rfl) (by kernel_rfl) (by kernel_rfl) (fun _ _ _ h => h) (fun _ => hH) (fun x => run_move rfl) rfl ?_
        refine AnC_takeP 4 (by kernel_rfl) rfl (by kernel_rfl) (by kernel_rfl) (by kernel_rfl) (fun _ _ _ h => h) (fun _ => hH) (fun x => run_as (run_slice_l Try.underlying31 inf5 rfl rfl (by omega) (by omega)) (show _ = Value.slice (if cb = an then Ab else Ab.map (·.add (an * 1))) (nb - an) (cb - an) from rfl)) rfl ?_
        refine AnC_takeP 5 (by kernel_rfl) rfl (by kernel_rfl) (by kernel_rfl) (by kernel_rfl) (fun _ _ _ h => h) (fun _ => hH) (fun x => run_nilCheck rfl) rfl ?_
        refine AnC_only 6 (by kernel_rfl) rfl ?_
        replace hs := hs.front 1 rfl
        simp only [List.cons_append, List.nil_append, List.eraseIdx_cons_zero, List.eraseIdx_cons_succ] at hs
        refine Ls_store hs inf62 rfl rfl rfl (sel2b hk2) ?_
        intro w41 hs
        rw [sel2s hk2] at hs
        replace hs := hs.front 5 rfl
        simp only [List.cons_append, List.nil_append, List.eraseIdx_cons_zero, List.eraseIdx_cons_succ] at hs
        replace hs := hs.front 5 rfl
        simp only [List.cons_append, List.nil_append, List.eraseIdx_cons_zero, List.eraseIdx_cons_succ] at hs
        replace hs := hs.front 3 rfl
        simp only [List.cons_append, List.nil_append, List.eraseIdx_cons_zero, List.eraseIdx_cons_succ] at hs
        replace hs := hs.pick2 hk2
        refine Ls_nil (Jm_AnC_closed (by kernel_rfl) ?_)
        refine AnC_switch (H' := fun x => Below w41.heap.size w41 x) 8 (by kernel_rfl) ?_
        replace hH := Below.refl w41.heap.size w41
        refine AnC_takeP 7 (by kernel_rfl) rfl (by kernel_rfl) (by kernel_rfl) (by kernel_rfl) (fun _ _ _ h => h) (fun _ => hH) (fun x => run_assign rfl) rfl ?_
        refine AnC_done (by kernel_rfl) ?_
        refine Jm_block_normal (Jm_seq ?_)
        refine St_region ?_
        refine Ls_run (run_add rfl rfl (w64 (by omega))) rfl ?_
        refine Ls_run (run_move rfl) rfl ?_
        refine Ls_nil ?_
        replace hs := hs.front 1 rfl
        simp only [List.cons_append, List.nil_append, List.eraseIdx_cons_zero, List.eraseIdx_cons_succ] at hs
        replace hs := hs.front 1 rfl
        simp only [List.cons_append, List.nil_append, List.eraseIdx_cons_zero, List.eraseIdx_cons_succ] at hs
        replace hs := hs.front 4 rfl
        simp only [List.cons_append, List.nil_append, List.eraseIdx_cons_zero, List.eraseIdx_cons_succ] at hs
        replace hs := hs.front 4 rfl
        simp only [List.cons_append, List.nil_append, List.eraseIdx_cons_zero, List.eraseIdx_cons_succ] at hs
        replace hs := hs.front 4 rfl
        simp only [List.cons_append, List.nil_append, List.eraseIdx_cons_zero, List.eraseIdx_cons_succ] at hs
        refine Jm_round (k2 + 1, if k2 = 0 then Value.slice AT l.length cT else v1, if k2 = 0 then v2 else Value.slice AT l.length cT, if k2 = 0 then l else l1, if k2 = 0 then l2 else l, (if cb = an then Ab else Ab.map (·.add (an * 1))), nb - an, cb - an, bb.drop an) ?_ ?_ ?_
        · rw [hEn27]; exact (subE_cons rfl (subE_cons rfl (subE_cons rfl (subE_cons rfl (subE_cons rfl (subE_cons rfl (subE_cons rfl subE_nil)))))))
        · skip
          rw [hIv28]
          exact ⟨hs, by omega, by rw [hre2, rdN_some hk2 (tn1_some htn)]; rfl, rdB_drop hrb an (by omega), hbb.dropn an, by omega, by split <;> omega, by split <;> omega⟩
        · skip
          rw [hms29, hms29]
          omega
    · skip
      refine St_exit ?_
      refine Jm_then_exit (Jm_then_exit (Jm_block_same (Jm_seq ?_)))
      refine St_seq ?_
      refine St_seq ?_
      refine St_region ?_
      have hk9 : k2 = 2 := by omega
      rw [hk9, rdN_2] at hre2
      have hlb := rdB_len hrb
      obtain ⟨P1, q1, hv1, _, _, _⟩ := (hs.front 3 rfl).own_form
      obtain ⟨P2, q2, hv2, _, _, _⟩ := (hs.front 4 rfl).own_form
      subst hv1
      subst hv2
      refine Ls_run (run_move rfl) rfl ?_
      refine Ls_run (run_len Try.underlying31 rfl) rfl ?_
      refine Ls_run (run_gtr rfl rfl) rfl ?_
      refine Ls_run (run_move rfl) rfl ?_
      refine Ls_partP (t := 81) rfl (fun h42 => ?_) (fun h42 => ?_)
      · skip
        refine Ls_off rfl rfl rfl rfl ?_
        refine Ls_off rfl rfl rfl rfl ?_
        refine Ls_off rfl rfl rfl rfl ?_
        refine Ls_run (run_pick_t rfl rfl) rfl ?_
        refine Ls_run (run_move rfl) rfl ?_
        refine Ls_off rfl rfl rfl rfl ?_
        refine Ls_off rfl rfl rfl rfl ?_
        refine Ls_off rfl rfl rfl rfl ?_
        refine Ls_off rfl rfl rfl rfl ?_
        refine Ls_off rfl rfl rfl rfl ?_
        refine Ls_run (run_pick_t rfl rfl) rfl ?_
        refine Ls_nil ?_
        refine Jm_seq ?_
        refine St_ift rfl ?_
        refine St_seq ?_
        refine St_region ?_
        refine Ls_run (run_buildO (pv := []) rfl (bld96 )) rfl ?_
        replace hs := hs.front 2 rfl
        simp only [List.cons_append, List.nil_append, List.eraseIdx_cons_zero, List.eraseIdx_cons_succ] at hs
        refine Ls_storeAgg hs inf96 rfl rfl rfl rfl (by simp [Value.oneCell', Value.cells, jcells]) ?_
        intro w44 hs
        refine Ls_run (run_assign rfl) rfl ?_
        refine Ls_nil ?_
        refine Jm_seq ?_
        refine St_ret ?_
        refine Jm_then_ret  ?_
        refine Jm_retCT rfl agg96 inf96 rfl rfl rfl (hs.blk_cells 0 rfl 0 5) ?_
        first
        | exact ⟨_, rfl, ⟨0, [], [], 0⟩, 0, none, 0, none, 0, false, rfl, (hs.forget.own_nil 3 1).own_nil 3 1, .inr ⟨rfl, by rw [hre, rdK_none (by omega) (tk1_none htk (by omega))]⟩⟩
        | exact ⟨_, rfl, ⟨0, [], [], 0⟩, 0, none, 0, none, 0, false, rfl, (hs.forget.own_nil 3 1).own_nil 3 1, .inr ⟨rfl, by rw [hre2, rdN_none (by omega) (tn1_none htn (by assumption))]⟩⟩
        | exact ⟨_, rfl, ⟨0, [], [], 0⟩, 0, none, 0, none, 0, false, rfl, (hs.forget.own_nil 3 1).own_nil 3 1, .inr ⟨rfl, by rw [hre2]; unfold rdF; rw [if_pos (.inl (by omega))]⟩⟩
        | exact ⟨_, rfl, ⟨0, [], [], 0⟩, 0, none, 0, none, 0, false, rfl, (hs.forget.own_nil 3 1).own_nil 3 1, .inr ⟨rfl, by rw [hre2]; unfold rdF; rw [if_pos (.inr (.inl (by assumption)))]⟩⟩
        | exact ⟨_, rfl, ⟨0, [], [], 0⟩, 0, none, 0, none, 0, false, rfl, (hs.forget.own_nil 3 1).own_nil 3 1, .inr ⟨rfl, by rw [hre2]; unfold rdF; rw [if_pos (.inr (.inr (by assumption)))]⟩⟩
      · skip
        refine Ls_on rfl rfl ?_
        refine Ls_run (run_as (run_field Try.underlying96 rfl inf3 (by decide) rfl) (show _ = Value.pointer (some ⟨b4, 4, none⟩) from rfl)) rfl ?_
        refine Ls_on rfl rfl ?_
        refine Ls_run (run_load sc3 rfl (hs.blk_at 0 rfl 4 rfl)) rfl ?_
        refine Ls_on rfl rfl ?_
        refine Ls_run (run_eql rfl rfl) rfl ?_
        refine Ls_run (run_pick_f rfl rfl) rfl ?_
        refine Ls_run (run_move rfl) rfl ?_
        refine Ls_partP (t := 86) rfl (fun h45 => ?_) (fun h45 => ?_)
        · skip
          refine Ls_off rfl rfl rfl rfl ?_
          refine Ls_off rfl rfl rfl rfl ?_
          refine Ls_off rfl rfl rfl rfl ?_
          refine Ls_off rfl rfl rfl rfl ?_
          refine Ls_off rfl rfl rfl rfl ?_
          refine Ls_run (run_pick_t rfl rfl) rfl ?_
          refine Ls_nil ?_
          refine Jm_seq ?_
          refine St_ift rfl ?_
          refine St_seq ?_
          refine St_region ?_
          refine Ls_run (run_buildO (pv := []) rfl (bld96 )) rfl ?_
          replace hs := hs.front 2 rfl
          simp only [List.cons_append, List.nil_append, List.eraseIdx_cons_zero, List.eraseIdx_cons_succ] at hs
          refine Ls_storeAgg hs inf96 rfl rfl rfl rfl (by simp [Value.oneCell', Value.cells, jcells]) ?_
          intro w47 hs
          refine Ls_run (run_assign rfl) rfl ?_
          refine Ls_nil ?_
          refine Jm_seq ?_
          refine St_ret ?_
          refine Jm_then_ret  ?_
          refine Jm_retCT rfl agg96 inf96 rfl rfl rfl (hs.blk_cells 0 rfl 0 5) ?_
          first
          | exact ⟨_, rfl, ⟨0, [], [], 0⟩, 0, none, 0, none, 0, false, rfl, (hs.forget.own_nil 3 1).own_nil 3 1, .inr ⟨rfl, by rw [hre, rdK_none (by omega) (tk1_none htk (by omega))]⟩⟩
          | exact ⟨_, rfl, ⟨0, [], [], 0⟩, 0, none, 0, none, 0, false, rfl, (hs.forget.own_nil 3 1).own_nil 3 1, .inr ⟨rfl, by rw [hre2, rdN_none (by omega) (tn1_none htn (by assumption))]⟩⟩
          | exact ⟨_, rfl, ⟨0, [], [], 0⟩, 0, none, 0, none, 0, false, rfl, (hs.forget.own_nil 3 1).own_nil 3 1, .inr ⟨rfl, by rw [hre2]; unfold rdF; rw [if_pos (.inl (by omega))]⟩⟩
          | exact ⟨_, rfl, ⟨0, [], [], 0⟩, 0, none, 0, none, 0, false, rfl, (hs.forget.own_nil 3 1).own_nil 3 1, .inr ⟨rfl, by rw [hre2]; unfold rdF; rw [if_pos (.inr (.inl (by assumption)))]⟩⟩
          | exact ⟨_, rfl, ⟨0, [], [], 0⟩, 0, none, 0, none, 0, false, rfl, (hs.forget.own_nil 3 1).own_nil 3 1, .inr ⟨rfl, by rw [hre2]; unfold rdF; rw [if_pos (.inr (.inr (by assumption)))]⟩⟩
        · skip
          refine Ls_on rfl rfl ?_
          refine Ls_run (run_as (run_field Try.underlying96 rfl inf66 (by decide) rfl) (show _ = Value.pointer (some ⟨b4, 0, none⟩) from rfl)) rfl ?_
          refine Ls_on rfl rfl ?_
          refine Ls_run (run_load_agg agg66 inf66 rfl rfl (hs.blk_cells 0 rfl 0 4)) rfl ?_
          refine Ls_on rfl rfl ?_
          refine Ls_run (run_move rfl) rfl ?_
          refine Ls_on rfl rfl ?_
          refine Ls_call Try.func68 nm68 rfl rfl (isNote_c wr2 ⟨x1, l1, l2, x2⟩ _ _ _ _ (hs.rd_at 3 rfl) (hs.rd_at 4 rfl) (show l1.length ≤ _ ∧ l2.length ≤ _ by omega) parts) rfl ?_
          rintro v48 w49 ⟨rfl, hsI⟩
          replace hs := hs.trans hsI
          simp only [List.cons_append, List.nil_append] at hs
          refine Ls_on rfl rfl ?_
          refine Ls_run (run_not rfl) rfl ?_
          refine Ls_run (run_pick_f rfl rfl) rfl ?_
          refine Ls_nil ?_
          refine Jm_seq ?_
          refine St_ifN rfl (fun h50 => ?_) (fun h50 => ?_)
          · skip
            refine St_seq ?_
            refine St_region ?_
            refine Ls_run (run_buildO (pv := []) rfl (bld96 )) rfl ?_
            replace hs := hs.front 2 rfl
            simp only [List.cons_append, List.nil_append, List.eraseIdx_cons_zero, List.eraseIdx_cons_succ] at hs
            refine Ls_storeAgg hs inf96 rfl rfl rfl rfl (by simp [Value.oneCell', Value.cells, jcells]) ?_
            intro w51 hs
            refine Ls_run (run_assign rfl) rfl ?_
            refine Ls_nil ?_
            refine Jm_seq ?_
            refine St_ret ?_
            refine Jm_then_ret  ?_
            refine Jm_retCT rfl agg96 inf96 rfl rfl rfl (hs.blk_cells 0 rfl 0 5) ?_
            first
            | exact ⟨_, rfl, ⟨0, [], [], 0⟩, 0, none, 0, none, 0, false, rfl, (hs.forget.own_nil 3 1).own_nil 3 1, .inr ⟨rfl, by rw [hre, rdK_none (by omega) (tk1_none htk (by omega))]⟩⟩
            | exact ⟨_, rfl, ⟨0, [], [], 0⟩, 0, none, 0, none, 0, false, rfl, (hs.forget.own_nil 3 1).own_nil 3 1, .inr ⟨rfl, by rw [hre2, rdN_none (by omega) (tn1_none htn (by assumption))]⟩⟩
            | exact ⟨_, rfl, ⟨0, [], [], 0⟩, 0, none, 0, none, 0, false, rfl, (hs.forget.own_nil 3 1).own_nil 3 1, .inr ⟨rfl, by rw [hre2]; unfold rdF; rw [if_pos (.inl (by omega))]⟩⟩
            | exact ⟨_, rfl, ⟨0, [], [], 0⟩, 0, none, 0, none, 0, false, rfl, (hs.forget.own_nil 3 1).own_nil 3 1, .inr ⟨rfl, by rw [hre2]; unfold rdF; rw [if_pos (.inr (.inl (by assumption)))]⟩⟩
            | exact ⟨_, rfl, ⟨0, [], [], 0⟩, 0, none, 0, none, 0, false, rfl, (hs.forget.own_nil 3 1).own_nil 3 1, .inr ⟨rfl, by rw [hre2]; unfold rdF; rw [if_pos (.inr (.inr (by assumption)))]⟩⟩
          · skip
            refine St_skip ?_
            refine Jm_seq ?_
            refine St_seq ?_
            refine St_region ?_
            refine Ls_run (run_load_agg agg96 inf96 rfl rfl (hs.blk_cells 0 rfl 0 5)) rfl ?_
            replace hs := hs.front 2 rfl
            simp only [List.cons_append, List.nil_append, List.eraseIdx_cons_zero, List.eraseIdx_cons_succ] at hs
            refine Ls_storeAgg hs inf96 rfl rfl rfl rfl (by simp [Value.oneCell', Value.cells, jcells]) ?_
            intro w52 hs
            refine Ls_run (run_assign rfl) rfl ?_
            refine Ls_nil ?_
            refine Jm_seq ?_
            refine St_ret ?_
            refine Jm_retCT rfl agg96 inf96 rfl rfl rfl (hs.blk_cells 0 rfl 0 5) ?_
            replace hs := hs.erase 0
            simp only [List.cons_append, List.nil_append, List.eraseIdx_cons_zero, List.eraseIdx_cons_succ] at hs
            replace hs := hs.erase 0
            simp only [List.cons_append, List.nil_append, List.eraseIdx_cons_zero, List.eraseIdx_cons_succ] at hs
            replace hs := hs.erase 0
            simp only [List.cons_append, List.nil_append, List.eraseIdx_cons_zero, List.eraseIdx_cons_succ] at hs
            replace hs := hs.front 1 rfl
            simp only [List.cons_append, List.nil_append, List.eraseIdx_cons_zero, List.eraseIdx_cons_succ] at hs
            replace hs := hs.front 1 rfl
            simp only [List.cons_append, List.nil_append, List.eraseIdx_cons_zero, List.eraseIdx_cons_succ] at hs
            exact ⟨_, rfl, ⟨x1, l1, l2, x2⟩, x0, P1, q1, P2, q2, true, rfl, hs, .inl ⟨rfl, by rw [hre2]; unfold rdF; rw [if_neg (fun q => by rcases q with q | q | q; (· omega); (· exact absurd q (by assumption)); (· exact absurd (by assumption) q))]⟩⟩
end Go.Proofs.Ytpmkedgennnekaa.Lg
