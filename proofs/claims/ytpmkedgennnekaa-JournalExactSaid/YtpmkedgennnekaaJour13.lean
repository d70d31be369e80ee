/-
  The reference's journal: Ended, Note, follows, Format, Save, walked. By program (gen/jour13.py).
-/
import Derived.Test.YtpmkedgennnekaaJour12
import Derived.Test.YtpmkedgennnekaaJRef
set_option linter.unusedVariables false
set_option linter.unusedSimpArgs false
namespace Go.Proofs.Ytpmkedgennnekaa.Lg
open Go Go.RowKit Go.Proofs.Ytpmkedgennnekaa.WirePure
theorem Sat.rhd {B w : World} {TD TS TB b : Nat} {s : RSt} {L : List Assn} (hs : Sat B w (RefA TD TS TB b s :: L)) : ∃ (A : Option Addr) (c : Nat), w.heap[b]? = some (.cells (rcells s A c).toArray TD (0, 0)) := by
  obtain ⟨vs, A, c, _, h⟩ := hs.ropen
  exact ⟨A, c, (h.is_at 0 rfl).2⟩
set_option maxRecDepth 100000 in
set_option maxHeartbeats 1000000 in
theorem rEnded_c (w : World) (bj : Nat) (p : Option Addr) (j : JSt) (Ap : Option Addr) (cp : Nat) (Ac : Option Addr) (cc : Nat) (hd : w.heap[bj]? = some (.cells (jcells p j Ap cp Ac cc).toArray 107 (0, 0))) :
    Calls Try.prog 46 [.pointer (some ⟨bj, 0, none⟩)].toArray w (Ret (fun v' w' => w = w' ∧ v' = .bool j.ended)) := by
  have hs := Sat.ofBlk hd
  refine Calls_body Try.func46 rfl rfl rfl (envE_cons (i := 0) (v := .pointer (some ⟨bj, 0, none⟩)) rfl envE_nil) ?_
  refine St_seq ?_
  refine St_region ?_
  refine Ls_run (run_assign rfl) rfl ?_
  refine Ls_nil ?_
  refine Jm_seq ?_
  refine St_seq ?_
  refine St_region ?_
  refine Ls_run (run_move rfl) rfl ?_
  refine Ls_run (run_asB (c := true) (run_neq_ptr_nil Try.underlying76 rfl rfl) rfl) rfl ?_
  refine Ls_run (run_move rfl) rfl ?_
  refine Ls_on rfl rfl ?_
  refine Ls_run (run_move rfl) rfl ?_
  refine Ls_on rfl rfl ?_
  refine Ls_run (run_nilCheck rfl) rfl ?_
  refine Ls_on rfl rfl ?_
  refine Ls_run (run_as (run_field Try.underlying107 rfl inf4 (by decide) rfl) (show _ = Value.pointer (some ⟨bj, 8, none⟩) from rfl)) rfl ?_
  refine Ls_on rfl rfl ?_
  refine Ls_run (run_load sc4 rfl (hs.blk_at 0 rfl 8 rfl)) rfl ?_
  refine Ls_run (run_pick_t rfl rfl) rfl ?_
  refine Ls_run (run_assign rfl) rfl ?_
  refine Ls_nil ?_
  refine Jm_seq ?_
  refine St_ret ?_
  refine Jm_ret1 rfl rfl ?_
  exact ⟨_, rfl, rfl, rfl⟩
set_option maxRecDepth 100000 in
set_option maxHeartbeats 1000000 in
theorem rEnded_nil (w : World) :
    Calls Try.prog 46 [.pointer none].toArray w (Ret (fun v' w' => w = w' ∧ v' = .bool false)) := by
  refine Calls_body Try.func46 rfl rfl rfl (envE_cons (i := 0) (v := .pointer none) rfl envE_nil) ?_
  refine St_seq ?_
  refine St_region ?_
  refine Ls_run (run_assign rfl) rfl ?_
  refine Ls_nil ?_
  refine Jm_seq ?_
  refine St_seq ?_
  refine St_region ?_
  refine Ls_run (run_move rfl) rfl ?_
  refine Ls_run (run_asB (c := false) (run_neq_ptr_nil Try.underlying76 rfl rfl) rfl) rfl ?_
  refine Ls_run (run_move rfl) rfl ?_
  refine Ls_off rfl rfl rfl rfl ?_
  refine Ls_off rfl rfl rfl rfl ?_
  refine Ls_off rfl rfl rfl rfl ?_
  refine Ls_off rfl rfl rfl rfl ?_
  refine Ls_run (run_pick_f rfl rfl) rfl ?_
  refine Ls_run (run_assign rfl) rfl ?_
  refine Ls_nil ?_
  refine Jm_seq ?_
  refine St_ret ?_
  refine Jm_ret1 rfl rfl ?_
  exact ⟨_, rfl, rfl, rfl⟩
theorem Sat.rswapL3 {B w : World} {X Y : Assn} {L : List Assn} {bj : Nat} {p : Option Addr} {j : JSt} {Ap : Option Addr} {cp : Nat} {Ac : Option Addr} {cc : Nat} (hs : Sat B w (X :: Y :: Blk bj (jcells p j Ap cp Ac cc) 107 :: Own 3 1 (.slice Ap j.n.prev.length cp) j.n.prev.length (KI.flat j.n.prev) :: Own 3 1 (.slice Ac j.n.cur.length cc) j.n.cur.length (KI.flat j.n.cur) :: L)) : Sat B w (X :: Y :: JA 107 3 bj p j :: L) := by
  have h1 := Sat.jshut (hs.perm (show List.Perm _ (_ :: _ :: _ :: X :: Y :: L) from (List.perm_append_comm (l₁ := [X, Y]) (l₂ := [_, _, _])).append_right L))
  exact h1.perm ((List.perm_append_comm (l₁ := [_]) (l₂ := [X, Y])).append_right L)
set_option maxRecDepth 100000 in
set_option maxHeartbeats 1000000 in
theorem rNote_c (B w : World) (L : List Assn) (bj : Nat) (p : Option Addr) (j : JSt) (hs : Sat B w (JA 107 3 bj p j :: L)) (hz : j.n.prev.length ≤ 1073741824 ∧ j.n.cur.length ≤ 1073741824) :
    Calls Try.prog 44 [.pointer (some ⟨bj, 0, none⟩)].toArray w (Ret (fun v' w' => ∃ Ap' cp' Ac' cc', v' = .agg #[.int .i64 j.n.batch, .slice Ap' j.n.prev.length cp', .slice Ac' j.n.cur.length cc', .int .i64 j.n.att] ∧ Sat B w' (Own 3 1 (.slice Ap' j.n.prev.length cp') j.n.prev.length (KI.flat j.n.prev) :: Own 3 1 (.slice Ac' j.n.cur.length cc') j.n.cur.length (KI.flat j.n.cur) :: JA 107 3 bj p j :: L))) := by
  obtain ⟨Ap, cp, Ac, cc, hs⟩ := hs.jopen
  refine Calls_body Try.func44 rfl rfl rfl (envE_cons (i := 0) (v := .pointer (some ⟨bj, 0, none⟩)) rfl envE_nil) ?_
  refine St_seq ?_
  refine St_region ?_
  refine Ls_alloc hs inf66 rfl ?_
  intro b2 w1 hs
  refine Ls_nil ?_
  refine Jm_seq ?_
  refine St_seq ?_
  refine St_seq ?_
  refine St_region ?_
  refine Ls_run (run_move rfl) rfl ?_
  refine Ls_run (run_asB (c := false) (run_eql_ptr_nil Try.underlying76 rfl rfl) rfl) rfl ?_
  refine Ls_nil ?_
  refine Jm_seq ?_
  refine St_iff rfl ?_
  refine St_skip ?_
  refine Jm_seq ?_
  refine St_seq ?_
  refine St_region ?_
  refine Ls_run (run_move rfl) rfl ?_
  refine Ls_run (run_nilCheck rfl) rfl ?_
  refine Ls_run (run_as (run_field Try.underlying107 rfl inf66 (by decide) rfl) (show _ = Value.pointer (some ⟨bj, 2, none⟩) from rfl)) rfl ?_
  refine Ls_run (run_load_agg agg66 inf66 rfl rfl (hs.blk_cells 1 rfl 2 4)) rfl ?_
  refine Ls_call Try.func74 nm74 rfl rfl (rCopied_c w1 j.n _ _ _ _ (hs.rd_at 2 rfl) (hs.rd_at 3 rfl) hz) rfl ?_
  rintro v4 w5 ⟨Ap2, cp2, Ac2, cc2, rfl, hsC⟩
  replace hs := hs.trans hsC
  simp only [List.cons_append, List.nil_append] at hs
  replace hs := hs.front 2 rfl
  simp only [List.cons_append, List.nil_append, List.eraseIdx_cons_zero, List.eraseIdx_cons_succ] at hs
  refine Ls_storeAgg hs inf66 rfl rfl rfl rfl (by simp [Value.oneCell', Value.cells, jcells]) ?_
  intro w6 hs
  refine Ls_nil ?_
  refine Jm_seq ?_
  refine St_ret ?_
  refine Jm_retC rfl agg66 inf66 rfl rfl (hs.blk_cells 0 rfl 0 4) ?_
  replace hs := hs.erase 0
  simp only [List.cons_append, List.nil_append, List.eraseIdx_cons_zero, List.eraseIdx_cons_succ] at hs
  replace hs := hs.front 4 rfl
  simp only [List.cons_append, List.nil_append, List.eraseIdx_cons_zero, List.eraseIdx_cons_succ] at hs
  replace hs := hs.front 4 rfl
  simp only [List.cons_append, List.nil_append, List.eraseIdx_cons_zero, List.eraseIdx_cons_succ] at hs
  replace hs := hs.front 4 rfl
  simp only [List.cons_append, List.nil_append, List.eraseIdx_cons_zero, List.eraseIdx_cons_succ] at hs
  replace hs := hs.front 4 rfl
  simp only [List.cons_append, List.nil_append, List.eraseIdx_cons_zero, List.eraseIdx_cons_succ] at hs
  replace hs := hs.front 4 rfl
  simp only [List.cons_append, List.nil_append, List.eraseIdx_cons_zero, List.eraseIdx_cons_succ] at hs
  have hs9 := Sat.rswapL3 hs
  exact ⟨_, rfl, Ap2, cp2, Ac2, cc2, rfl, hs9⟩
set_option maxRecDepth 100000 in
set_option maxHeartbeats 1000000 in
theorem rNote_nil (w : World) :
    Calls Try.prog 44 [.pointer none].toArray w (Ret (fun v' w' => v' = .agg #[.int .i64 0, .slice none 0 0, .slice none 0 0, .int .i64 0] ∧ Sat w w' [])) := by
  have hs := Sat.start w
  refine Calls_body Try.func44 rfl rfl rfl (envE_cons (i := 0) (v := .pointer none) rfl envE_nil) ?_
  refine St_seq ?_
  refine St_region ?_
  refine Ls_alloc hs inf66 rfl ?_
  intro b2 w1 hs
  refine Ls_nil ?_
  refine Jm_seq ?_
  refine St_seq ?_
  refine St_seq ?_
  refine St_region ?_
  refine Ls_run (run_move rfl) rfl ?_
  refine Ls_run (run_asB (c := true) (run_eql_ptr_nil Try.underlying76 rfl rfl) rfl) rfl ?_
  refine Ls_nil ?_
  refine Jm_seq ?_
  refine St_ift rfl ?_
  refine St_seq ?_
  refine St_region ?_
  refine Ls_run (run_buildO (pv := []) rfl (bld66 )) rfl ?_
  refine Ls_storeAgg hs inf66 rfl rfl rfl rfl (by simp [Value.oneCell', Value.cells, jcells]) ?_
  intro w4 hs
  refine Ls_nil ?_
  refine Jm_seq ?_
  refine St_ret ?_
  refine Jm_then_ret  ?_
  refine Jm_retC rfl agg66 inf66 rfl rfl (hs.blk_cells 0 rfl 0 4) ?_
  exact ⟨_, rfl, rfl, hs.forget⟩
set_option maxRecDepth 100000 in
set_option maxHeartbeats 1000000 in
theorem rfollows_c (B w : World) (L : List Assn) (bj : Nat) (p : Option Addr) (j : JSt) (Ap : Option Addr) (cp : Nat) (Ac : Option Addr) (cc : Nat) (hs : Sat B w (Blk bj (jcells p j Ap cp Ac cc) 107 :: Own 3 1 (.slice Ap j.n.prev.length cp) j.n.prev.length (KI.flat j.n.prev) :: Own 3 1 (.slice Ac j.n.cur.length cc) j.n.cur.length (KI.flat j.n.cur) :: L)) (hz : j.n.prev.length ≤ 1073741824 ∧ j.n.cur.length ≤ 1073741824) (hbt : within j.n.batch) (n : NSt) (Np : Option Addr) (np : Nat) (Nc : Option Addr) (nc : Nat) (hrp : ∀ w' X, Sat B w' (X :: L) → Rd w' Np n.prev.length np 1 (KI.flat n.prev)) (hrc : ∀ w' X, Sat B w' (X :: L) → Rd w' Nc n.cur.length nc 1 (KI.flat n.cur)) (hzn : n.prev.length ≤ 9223372036854775807 ∧ n.cur.length ≤ 9223372036854775807) :
    Calls Try.prog 73 [.pointer (some ⟨bj, 0, none⟩), .agg #[.int .i64 n.batch, .slice Np n.prev.length np, .slice Nc n.cur.length nc, .int .i64 n.att]].toArray w (Ret (fun v' w' => v' = .bool (decide (follows j.n n)) ∧ Sat B w' (Blk bj (jcells p j Ap cp Ac cc) 107 :: Own 3 1 (.slice Ap j.n.prev.length cp) j.n.prev.length (KI.flat j.n.prev) :: Own 3 1 (.slice Ac j.n.cur.length cc) j.n.cur.length (KI.flat j.n.cur) :: L))) := by
  unfold within at hbt
  refine Calls_body Try.func73 rfl rfl rfl (envE_cons (i := 0) (v := .pointer (some ⟨bj, 0, none⟩)) rfl (envE_cons (i := 1) (v := .agg #[.int .i64 n.batch, .slice Np n.prev.length np, .slice Nc n.cur.length nc, .int .i64 n.att]) rfl envE_nil)) ?_
  refine St_seq ?_
  refine St_region ?_
  refine Ls_box hs rfl rfl ?_
  intro b2 w1 hs
  refine Ls_run (run_assign rfl) rfl ?_
  refine Ls_nil ?_
  refine Jm_seq ?_
  refine St_seq ?_
  refine St_region ?_
  refine Ls_run (run_as (run_field Try.underlying66 rfl inf64 (by decide) rfl) (show _ = Value.pointer (some ⟨b2, 0, none⟩) from rfl)) rfl ?_
  refine Ls_run (run_load_agg agg64 inf64 rfl rfl (hs.blk_cells 0 rfl 0 3)) rfl ?_
  refine Ls_alloc hs inf64 rfl ?_
  intro b4 w3 hs
  refine Ls_storeAgg hs inf64 rfl rfl rfl rfl (by simp [Value.oneCell', Value.cells, jcells]) ?_
  intro w5 hs
  refine Ls_nil ?_
  refine Jm_seq ?_
  refine St_seq ?_
  refine St_region ?_
  refine Ls_run (run_move rfl) rfl ?_
  refine Ls_run (run_nilCheck rfl) rfl ?_
  refine Ls_run (run_as (run_field Try.underlying107 rfl inf66 (by decide) rfl) (show _ = Value.pointer (some ⟨bj, 2, none⟩) from rfl)) rfl ?_
  refine Ls_run (run_as (run_field Try.underlying66 rfl inf64 (by decide) rfl) (show _ = Value.pointer (some ⟨bj, 2, none⟩) from rfl)) rfl ?_
  refine Ls_run (run_load_agg agg64 inf64 rfl rfl (hs.blk_cells 2 rfl 2 3)) rfl ?_
  refine Ls_alloc hs inf64 rfl ?_
  intro b7 w6 hs
  refine Ls_storeAgg hs inf64 rfl rfl rfl rfl (by simp [Value.oneCell', Value.cells, jcells]) ?_
  intro w9 hs
  refine Ls_nil ?_
  refine Jm_seq ?_
  refine St_seq ?_
  refine St_seq ?_
  refine St_draw (fun x => Below w9.heap.size w9 x) mixed ?_
  intro w10 q11
  have hH := q11.below
  replace hs := hs.quiet q11
  refine An_grow hH ?_
  replace hH := Below.refl w10.heap.size w10
  refine An_take 0 rfl (by kernel_rfl) (by kernel_rfl) (by kernel_rfl) (fun _ _ _ h => h) hH (fun x hx => run_as (run_field Try.underlying66 rfl inf3 (by decide) rfl) (show _ = Value.pointer (some ⟨b2, 3, none⟩) from rfl)) rfl ?_
  refine An_take 1 rfl (by kernel_rfl) (by kernel_rfl) (by kernel_rfl) (fun _ _ _ h => h) hH (fun x hx => run_load sc3 rfl ((hs.grow hx).blk_at 2 rfl 3 rfl)) rfl ?_
  refine An_take 2 rfl (by kernel_rfl) (by kernel_rfl) (by kernel_rfl) (fun _ _ _ h => h) hH (fun x hx => run_move rfl) rfl ?_
  refine An_take 3 rfl (by kernel_rfl) (by kernel_rfl) (by kernel_rfl) (fun _ _ _ h => h) hH (fun x hx => run_nilCheck rfl) rfl ?_
  refine An_take 4 rfl (by kernel_rfl) (by kernel_rfl) (by kernel_rfl) (fun _ _ _ h => h) hH (fun x hx => run_as (run_field Try.underlying107 rfl inf66 (by decide) rfl) (show _ = Value.pointer (some ⟨bj, 2, none⟩) from rfl)) rfl ?_
  refine An_take 5 rfl (by kernel_rfl) (by kernel_rfl) (by kernel_rfl) (fun _ _ _ h => h) hH (fun x hx => run_as (run_field Try.underlying66 rfl inf3 (by decide) rfl) (show _ = Value.pointer (some ⟨bj, 5, none⟩) from rfl)) rfl ?_
  refine An_take 6 rfl (by kernel_rfl) (by kernel_rfl) (by kernel_rfl) (fun _ _ _ h => h) hH (fun x hx => run_load sc3 rfl ((hs.grow hx).blk_at 3 rfl 5 rfl)) rfl ?_
  refine An_take 7 rfl (by kernel_rfl) (by kernel_rfl) (by kernel_rfl) (fun _ _ _ h => h) hH (fun x hx => run_lss rfl rfl) rfl ?_
  refine An_done (by kernel_rfl) ?_
  refine Jm_seq ?_
  refine St_ifP rfl (fun h12 => ?_) (fun h12 => ?_)
  · skip
    refine St_seq ?_
    refine St_region ?_
    refine Ls_run (run_assign rfl) rfl ?_
    refine Ls_nil ?_
    refine Jm_seq ?_
    refine St_ret ?_
    refine Jm_then_ret  ?_
    refine Jm_ret1 rfl rfl ?_
    replace hs := hs.erase 0
    simp only [List.cons_append, List.nil_append, List.eraseIdx_cons_zero, List.eraseIdx_cons_succ] at hs
    replace hs := hs.erase 0
    simp only [List.cons_append, List.nil_append, List.eraseIdx_cons_zero, List.eraseIdx_cons_succ] at hs
    replace hs := hs.erase 0
    simp only [List.cons_append, List.nil_append, List.eraseIdx_cons_zero, List.eraseIdx_cons_succ] at hs
    replace hs := hs.front 2 rfl
    simp only [List.cons_append, List.nil_append, List.eraseIdx_cons_zero, List.eraseIdx_cons_succ] at hs
    replace hs := hs.front 2 rfl
    simp only [List.cons_append, List.nil_append, List.eraseIdx_cons_zero, List.eraseIdx_cons_succ] at hs
    replace hs := hs.front 2 rfl
    simp only [List.cons_append, List.nil_append, List.eraseIdx_cons_zero, List.eraseIdx_cons_succ] at hs
    refine ⟨_, rfl, ?_, hs⟩
    first
    | exact congrArg Value.bool (decide_eq_false (fun q => by unfold follows at q; omega)).symm
    | exact congrArg Value.bool (decide_eq_decide.2 (by unfold follows; constructor <;> intro q <;> first | (refine ⟨by omega, .inl ⟨by omega, by assumption, q⟩⟩) | (refine ⟨by omega, .inr ⟨by omega, by omega, q⟩⟩) | (rcases q.2 with q | q <;> first | exact q.2.2 | exact absurd q.1 (by omega))))
    | exact congrArg Value.bool (decide_eq_false (fun q => by rcases q.2 with q | q <;> first | exact absurd q.2.1 (by assumption) | exact absurd q.1 (by omega) | exact absurd q.2.1 (by omega))).symm
  · skip
    refine St_skip ?_
    refine Jm_seq ?_
    refine St_seq ?_
    refine St_seq ?_
    refine St_region ?_
    refine Ls_run (run_as (run_field Try.underlying64 rfl inf3 (by decide) rfl) (show _ = Value.pointer (some ⟨b4, 0, none⟩) from rfl)) rfl ?_
    refine Ls_run (run_load sc3 rfl (hs.blk_at 1 rfl 0 rfl)) rfl ?_
    refine Ls_run (run_as (run_field Try.underlying64 rfl inf3 (by decide) rfl) (show _ = Value.pointer (some ⟨b7, 0, none⟩) from rfl)) rfl ?_
    refine Ls_run (run_load sc3 rfl (hs.blk_at 0 rfl 0 rfl)) rfl ?_
    refine Ls_run (run_eql rfl rfl) rfl ?_
    refine Ls_nil ?_
    refine Jm_seq ?_
    refine St_ifP rfl (fun h13 => ?_) (fun h13 => ?_)
    · skip
      refine St_seq ?_
      refine St_region ?_
      refine Ls_run (run_as (run_field Try.underlying64 rfl inf62 (by decide) rfl) (show _ = Value.pointer (some ⟨b4, 1, none⟩) from rfl)) rfl ?_
      refine Ls_run (run_load sc62 rfl (hs.blk_at 1 rfl 1 rfl)) rfl ?_
      refine Ls_run (run_as (run_field Try.underlying64 rfl inf62 (by decide) rfl) (show _ = Value.pointer (some ⟨b7, 1, none⟩) from rfl)) rfl ?_
      refine Ls_run (run_load sc62 rfl (hs.blk_at 0 rfl 1 rfl)) rfl ?_
      refine Ls_call Try.func89 nm89 rfl rfl (rints_c w10 _ _ _ n.prev _ _ _ j.n.prev (Sat.rdL0 (pre := [_, _, _, _, _, _]) hrp hs) (hs.rd_at 4 rfl) (by omega) (by omega)) rfl ?_
      rintro v14 w15 ⟨rfl, hsE⟩
      replace hs := hs.trans hsE
      simp only [List.nil_append, List.cons_append] at hs
      refine Ls_run (run_move rfl) rfl ?_
      refine Ls_partP (t := 32) rfl (fun h16 => ?_) (fun h16 => ?_)
      · skip
        refine Ls_on rfl rfl ?_
        refine Ls_run (run_as (run_field Try.underlying64 rfl inf62 (by decide) rfl) (show _ = Value.pointer (some ⟨b4, 2, none⟩) from rfl)) rfl ?_
        refine Ls_on rfl rfl ?_
        refine Ls_run (run_load sc62 rfl (hs.blk_at 1 rfl 2 rfl)) rfl ?_
        refine Ls_on rfl rfl ?_
        refine Ls_run (run_as (run_field Try.underlying64 rfl inf62 (by decide) rfl) (show _ = Value.pointer (some ⟨b7, 2, none⟩) from rfl)) rfl ?_
        refine Ls_on rfl rfl ?_
        refine Ls_run (run_load sc62 rfl (hs.blk_at 0 rfl 2 rfl)) rfl ?_
        refine Ls_on rfl rfl ?_
        refine Ls_call Try.func89 nm89 rfl rfl (rints_c w15 _ _ _ n.cur _ _ _ j.n.cur (Sat.rdL0 (pre := [_, _, _, _, _, _]) hrc hs) (hs.rd_at 5 rfl) (by omega) (by omega)) rfl ?_
        rintro v17 w18 ⟨rfl, hsE⟩
        replace hs := hs.trans hsE
        simp only [List.nil_append, List.cons_append] at hs
        refine Ls_run (run_pick_t rfl rfl) rfl ?_
        refine Ls_run (run_assign rfl) rfl ?_
        refine Ls_nil ?_
        refine Jm_seq ?_
        refine St_ret ?_
        refine Jm_then_ret  ?_
        refine Jm_ret1 rfl rfl ?_
        replace hs := hs.erase 0
        simp only [List.cons_append, List.nil_append, List.eraseIdx_cons_zero, List.eraseIdx_cons_succ] at hs
        replace hs := hs.erase 0
        simp only [List.cons_append, List.nil_append, List.eraseIdx_cons_zero, List.eraseIdx_cons_succ] at hs
        replace hs := hs.erase 0
        simp only [List.cons_append, List.nil_append, List.eraseIdx_cons_zero, List.eraseIdx_cons_succ] at hs
        replace hs := hs.front 2 rfl
        simp only [List.cons_append, List.nil_append, List.eraseIdx_cons_zero, List.eraseIdx_cons_succ] at hs
        replace hs := hs.front 2 rfl
        simp only [List.cons_append, List.nil_append, List.eraseIdx_cons_zero, List.eraseIdx_cons_succ] at hs
        replace hs := hs.front 2 rfl
        simp only [List.cons_append, List.nil_append, List.eraseIdx_cons_zero, List.eraseIdx_cons_succ] at hs
        refine ⟨_, rfl, ?_, hs⟩
        first
        | exact congrArg Value.bool (decide_eq_false (fun q => by unfold follows at q; omega)).symm
        | exact congrArg Value.bool (decide_eq_decide.2 (by unfold follows; constructor <;> intro q <;> first | (refine ⟨by omega, .inl ⟨by omega, by assumption, q⟩⟩) | (refine ⟨by omega, .inr ⟨by omega, by omega, q⟩⟩) | (rcases q.2 with q | q <;> first | exact q.2.2 | exact absurd q.1 (by omega))))
        | exact congrArg Value.bool (decide_eq_false (fun q => by rcases q.2 with q | q <;> first | exact absurd q.2.1 (by assumption) | exact absurd q.1 (by omega) | exact absurd q.2.1 (by omega))).symm
      · skip
        refine Ls_off rfl rfl rfl rfl ?_
        refine Ls_off rfl rfl rfl rfl ?_
        refine Ls_off rfl rfl rfl rfl ?_
        refine Ls_off rfl rfl rfl rfl ?_
        refine Ls_off rfl rfl rfl rfl ?_
        refine Ls_run (run_pick_f rfl rfl) rfl ?_
        refine Ls_run (run_assign rfl) rfl ?_
        refine Ls_nil ?_
        refine Jm_seq ?_
        refine St_ret ?_
        refine Jm_then_ret  ?_
        refine Jm_ret1 rfl rfl ?_
        replace hs := hs.erase 0
        simp only [List.cons_append, List.nil_append, List.eraseIdx_cons_zero, List.eraseIdx_cons_succ] at hs
        replace hs := hs.erase 0
        simp only [List.cons_append, List.nil_append, List.eraseIdx_cons_zero, List.eraseIdx_cons_succ] at hs
        replace hs := hs.erase 0
        simp only [List.cons_append, List.nil_append, List.eraseIdx_cons_zero, List.eraseIdx_cons_succ] at hs
        replace hs := hs.front 2 rfl
        simp only [List.cons_append, List.nil_append, List.eraseIdx_cons_zero, List.eraseIdx_cons_succ] at hs
        replace hs := hs.front 2 rfl
        simp only [List.cons_append, List.nil_append, List.eraseIdx_cons_zero, List.eraseIdx_cons_succ] at hs
        replace hs := hs.front 2 rfl
        simp only [List.cons_append, List.nil_append, List.eraseIdx_cons_zero, List.eraseIdx_cons_succ] at hs
        refine ⟨_, rfl, ?_, hs⟩
        first
        | exact congrArg Value.bool (decide_eq_false (fun q => by unfold follows at q; omega)).symm
        | exact congrArg Value.bool (decide_eq_decide.2 (by unfold follows; constructor <;> intro q <;> first | (refine ⟨by omega, .inl ⟨by omega, by assumption, q⟩⟩) | (refine ⟨by omega, .inr ⟨by omega, by omega, q⟩⟩) | (rcases q.2 with q | q <;> first | exact q.2.2 | exact absurd q.1 (by omega))))
        | exact congrArg Value.bool (decide_eq_false (fun q => by rcases q.2 with q | q <;> first | exact absurd q.2.1 (by assumption) | exact absurd q.1 (by omega) | exact absurd q.2.1 (by omega))).symm
    · skip
      refine St_skip ?_
      refine Jm_seq ?_
      refine St_seq ?_
      refine St_region ?_
      refine Ls_run (run_as (run_field Try.underlying64 rfl inf3 (by decide) rfl) (show _ = Value.pointer (some ⟨b4, 0, none⟩) from rfl)) rfl ?_
      refine Ls_run (run_load sc3 rfl (hs.blk_at 1 rfl 0 rfl)) rfl ?_
      refine Ls_run (run_as (run_field Try.underlying64 rfl inf3 (by decide) rfl) (show _ = Value.pointer (some ⟨b7, 0, none⟩) from rfl)) rfl ?_
      refine Ls_run (run_load sc3 rfl (hs.blk_at 0 rfl 0 rfl)) rfl ?_
      refine Ls_run (run_add rfl rfl (w64 (by omega))) rfl ?_
      refine Ls_run (run_eql rfl rfl) rfl ?_
      refine Ls_run (run_move rfl) rfl ?_
      refine Ls_partP (t := 45) rfl (fun h19 => ?_) (fun h19 => ?_)
      · skip
        refine Ls_on rfl rfl ?_
        refine Ls_run (run_as (run_field Try.underlying64 rfl inf62 (by decide) rfl) (show _ = Value.pointer (some ⟨b4, 1, none⟩) from rfl)) rfl ?_
        refine Ls_on rfl rfl ?_
        refine Ls_run (run_load sc62 rfl (hs.blk_at 1 rfl 1 rfl)) rfl ?_
        refine Ls_on rfl rfl ?_
        refine Ls_run (run_as (run_field Try.underlying64 rfl inf62 (by decide) rfl) (show _ = Value.pointer (some ⟨b7, 2, none⟩) from rfl)) rfl ?_
        refine Ls_on rfl rfl ?_
        refine Ls_run (run_load sc62 rfl (hs.blk_at 0 rfl 2 rfl)) rfl ?_
        refine Ls_on rfl rfl ?_
        refine Ls_call Try.func89 nm89 rfl rfl (rints_c w10 _ _ _ n.prev _ _ _ j.n.cur (Sat.rdL0 (pre := [_, _, _, _, _, _]) hrp hs) (hs.rd_at 5 rfl) (by omega) (by omega)) rfl ?_
        rintro v20 w21 ⟨rfl, hsE⟩
        replace hs := hs.trans hsE
        simp only [List.nil_append, List.cons_append] at hs
        refine Ls_run (run_pick_t rfl rfl) rfl ?_
        refine Ls_run (run_assign rfl) rfl ?_
        refine Ls_nil ?_
        refine Jm_seq ?_
        refine St_ret ?_
        refine Jm_ret1 rfl rfl ?_
        replace hs := hs.erase 0
        simp only [List.cons_append, List.nil_append, List.eraseIdx_cons_zero, List.eraseIdx_cons_succ] at hs
        replace hs := hs.erase 0
        simp only [List.cons_append, List.nil_append, List.eraseIdx_cons_zero, List.eraseIdx_cons_succ] at hs
        replace hs := hs.erase 0
        simp only [List.cons_append, List.nil_append, List.eraseIdx_cons_zero, List.eraseIdx_cons_succ] at hs
        replace hs := hs.front 2 rfl
        simp only [List.cons_append, List.nil_append, List.eraseIdx_cons_zero, List.eraseIdx_cons_succ] at hs
        replace hs := hs.front 2 rfl
        simp only [List.cons_append, List.nil_append, List.eraseIdx_cons_zero, List.eraseIdx_cons_succ] at hs
        replace hs := hs.front 2 rfl
        simp only [List.cons_append, List.nil_append, List.eraseIdx_cons_zero, List.eraseIdx_cons_succ] at hs
        refine ⟨_, rfl, ?_, hs⟩
        first
        | exact congrArg Value.bool (decide_eq_false (fun q => by unfold follows at q; omega)).symm
        | exact congrArg Value.bool (decide_eq_decide.2 (by unfold follows; constructor <;> intro q <;> first | (refine ⟨by omega, .inl ⟨by omega, by assumption, q⟩⟩) | (refine ⟨by omega, .inr ⟨by omega, by omega, q⟩⟩) | (rcases q.2 with q | q <;> first | exact q.2.2 | exact absurd q.1 (by omega))))
        | exact congrArg Value.bool (decide_eq_false (fun q => by rcases q.2 with q | q <;> first | exact absurd q.2.1 (by assumption) | exact absurd q.1 (by omega) | exact absurd q.2.1 (by omega))).symm
      · skip
        refine Ls_off rfl rfl rfl rfl ?_
        refine Ls_off rfl rfl rfl rfl ?_
        refine Ls_off rfl rfl rfl rfl ?_
        refine Ls_off rfl rfl rfl rfl ?_
        refine Ls_off rfl rfl rfl rfl ?_
        refine Ls_run (run_pick_f rfl rfl) rfl ?_
        refine Ls_run (run_assign rfl) rfl ?_
        refine Ls_nil ?_
        refine Jm_seq ?_
        refine St_ret ?_
        refine Jm_ret1 rfl rfl ?_
        replace hs := hs.erase 0
        simp only [List.cons_append, List.nil_append, List.eraseIdx_cons_zero, List.eraseIdx_cons_succ] at hs
        replace hs := hs.erase 0
        simp only [List.cons_append, List.nil_append, List.eraseIdx_cons_zero, List.eraseIdx_cons_succ] at hs
        replace hs := hs.erase 0
        simp only [List.cons_append, List.nil_append, List.eraseIdx_cons_zero, List.eraseIdx_cons_succ] at hs
        replace hs := hs.front 2 rfl
        simp only [List.cons_append, List.nil_append, List.eraseIdx_cons_zero, List.eraseIdx_cons_succ] at hs
        replace hs := hs.front 2 rfl
        simp only [List.cons_append, List.nil_append, List.eraseIdx_cons_zero, List.eraseIdx_cons_succ] at hs
        replace hs := hs.front 2 rfl
        simp only [List.cons_append, List.nil_append, List.eraseIdx_cons_zero, List.eraseIdx_cons_succ] at hs
        refine ⟨_, rfl, ?_, hs⟩
        first
        | exact congrArg Value.bool (decide_eq_false (fun q => by unfold follows at q; omega)).symm
        | exact congrArg Value.bool (decide_eq_decide.2 (by unfold follows; constructor <;> intro q <;> first | (refine ⟨by omega, .inl ⟨by omega, by assumption, q⟩⟩) | (refine ⟨by omega, .inr ⟨by omega, by omega, q⟩⟩) | (rcases q.2 with q | q <;> first | exact q.2.2 | exact absurd q.1 (by omega))))
        | exact congrArg Value.bool (decide_eq_false (fun q => by rcases q.2 with q | q <;> first | exact absurd q.2.1 (by assumption) | exact absurd q.1 (by omega) | exact absurd q.2.1 (by omega))).symm
theorem rBytes_e (w : World) (n : NSt) (Ap : Option Addr) (cp : Nat) (Ac : Option Addr) (cc lp lc : Nat) (h1 : n.prev.length = lp) (h2 : n.cur.length = lc) (hrp : Rd w Ap lp cp 1 (KI.flat n.prev)) (hrc : Rd w Ac lc cc 1 (KI.flat n.cur)) (hz : lp ≤ 1073741824 ∧ lc ≤ 1073741824) (b a gen parts : Int) (hb : n.batch = b) (ha : n.att = a) (hok : noteOk n parts) (hp4 : parts ≤ 4) (hg : 0 ≤ gen ∧ gen ≤ 1099511627777) :
    Calls Try.prog 71 [.int .i64 gen, .agg #[.int .i64 b, .slice Ap lp cp, .slice Ac lc cc, .int .i64 a]].toArray w (Ret (fun v' w' => ∃ A c, v' = .slice A (nbytes gen n).length c ∧ Sat w w' [Own 5 1 (.slice A (nbytes gen n).length c) (nbytes gen n).length (bytesV (nbytes gen n))])) := by
  subst h1 h2 hb ha
  exact rBytes_c w n Ap cp Ac cc hrp hrc hz gen parts hok hp4 hg
set_option maxRecDepth 100000 in
set_option maxHeartbeats 1000000 in
theorem rFormat_bad (w : World) (b : Nat) (parts : Int) (h : parts < 1 ∨ 4 < parts) :
    Calls Try.prog 38 [.pointer (some ⟨b, 0, none⟩), .int .i64 parts].toArray w (Ret (fun v' w' => w = w' ∧ v' = .tuple #[.pointer none, .int .i64 1])) := by
  refine Calls_body Try.func38 rfl rfl rfl (envE_cons (i := 0) (v := .pointer (some ⟨b, 0, none⟩)) rfl (envE_cons (i := 1) (v := .int .i64 parts) rfl envE_nil)) ?_
  refine St_seq ?_
  refine St_region ?_
  refine Ls_run (run_assign rfl) rfl ?_
  refine Ls_run (run_assign rfl) rfl ?_
  refine Ls_nil ?_
  refine Jm_seq ?_
  refine St_seq ?_
  refine St_seq ?_
  refine St_region ?_
  refine Ls_run (run_move rfl) rfl ?_
  refine Ls_run (run_asB (c := false) (run_eql_ptr_nil Try.underlying47 rfl rfl) rfl) rfl ?_
  refine Ls_nil ?_
  refine Jm_seq ?_
  refine St_iff rfl ?_
  refine St_skip ?_
  refine Jm_seq ?_
  refine St_seq ?_
  refine St_seq ?_
  refine St_region ?_
  refine Ls_run (run_move rfl) rfl ?_
  refine Ls_run (run_lss rfl rfl) rfl ?_
  refine Ls_run (run_move rfl) rfl ?_
  refine Ls_partP (t := 13) rfl (fun h2 => ?_) (fun h2 => ?_)
  · skip
    refine Ls_off rfl rfl rfl rfl ?_
    refine Ls_off rfl rfl rfl rfl ?_
    refine Ls_run (run_pick_t rfl rfl) rfl ?_
    refine Ls_nil ?_
    refine Jm_seq ?_
    refine St_ift rfl ?_
    refine St_seq ?_
    refine St_region ?_
    refine Ls_run (run_assign rfl) rfl ?_
    refine Ls_run (run_assign rfl) rfl ?_
    refine Ls_nil ?_
    refine Jm_seq ?_
    refine St_ret ?_
    refine Jm_then_ret  ?_
    refine Jm_ret2 rfl rfl rfl ?_
    exact ⟨_, rfl, rfl, rfl⟩
  · skip
    refine Ls_on rfl rfl ?_
    refine Ls_run (run_move rfl) rfl ?_
    refine Ls_on rfl rfl ?_
    refine Ls_run (run_gtr rfl rfl) rfl ?_
    refine Ls_run (run_pick_f rfl rfl) rfl ?_
    refine Ls_nil ?_
    refine Jm_seq ?_
    refine St_ifP rfl (fun h4 => ?_) (fun h4 => ?_)
    · skip
      refine St_seq ?_
      refine St_region ?_
      refine Ls_run (run_assign rfl) rfl ?_
      refine Ls_run (run_assign rfl) rfl ?_
      refine Ls_nil ?_
      refine Jm_seq ?_
      refine St_ret ?_
      refine Jm_then_ret  ?_
      refine Jm_ret2 rfl rfl rfl ?_
      exact ⟨_, rfl, rfl, rfl⟩
    · skip
      exfalso; omega
set_option maxRecDepth 100000 in
set_option maxHeartbeats 1000000 in
theorem rFormat_nil (w : World) (parts : Int) :
    Calls Try.prog 38 [.pointer none, .int .i64 parts].toArray w (Ret (fun v' w' => w = w' ∧ v' = .tuple #[.pointer none, .int .i64 2])) := by
  refine Calls_body Try.func38 rfl rfl rfl (envE_cons (i := 0) (v := .pointer none) rfl (envE_cons (i := 1) (v := .int .i64 parts) rfl envE_nil)) ?_
  refine St_seq ?_
  refine St_region ?_
  refine Ls_run (run_assign rfl) rfl ?_
  refine Ls_run (run_assign rfl) rfl ?_
  refine Ls_nil ?_
  refine Jm_seq ?_
  refine St_seq ?_
  refine St_seq ?_
  refine St_region ?_
  refine Ls_run (run_move rfl) rfl ?_
  refine Ls_run (run_asB (c := true) (run_eql_ptr_nil Try.underlying47 rfl rfl) rfl) rfl ?_
  refine Ls_nil ?_
  refine Jm_seq ?_
  refine St_ift rfl ?_
  refine St_seq ?_
  refine St_region ?_
  refine Ls_run (run_assign rfl) rfl ?_
  refine Ls_run (run_assign rfl) rfl ?_
  refine Ls_nil ?_
  refine Jm_seq ?_
  refine St_ret ?_
  refine Jm_then_ret  ?_
  refine Jm_ret2 rfl rfl rfl ?_
  exact ⟨_, rfl, rfl, rfl⟩
set_option maxRecDepth 100000 in
set_option maxHeartbeats 1000000 in
theorem rFormat_g (B w : World) (L : List Assn) (b : Nat) (d : DSt) (r : RSt) (hs : Sat B w (RefA 92 31 5 b r :: L)) (hdr : DR d r) (m : Nat) (hm1 : 1 ≤ m) (hm4 : m ≤ 4) :
    Calls Try.prog 38 [.pointer (some ⟨b, 0, none⟩), .int .i64 (m : Int)].toArray w (Ret (fun v' w' => ∃ q, v' = .tuple #[.pointer q, .int .i64 (rjformat r m).1] ∧ Sat B w' (JO 107 3 q (some ⟨b, 0, none⟩) (rjformat r m).2.1 :: RefA 92 31 5 b (rjformat r m).2.2 :: L))) := by
  refine Calls_body Try.func38 rfl rfl rfl (envE_cons (i := 0) (v := .pointer (some ⟨b, 0, none⟩)) rfl (envE_cons (i := 1) (v := .int .i64 (m : Int)) rfl envE_nil)) ?_
  refine St_seq ?_
  refine St_region ?_
  refine Ls_run (run_assign rfl) rfl ?_
  refine Ls_run (run_assign rfl) rfl ?_
  refine Ls_nil ?_
  refine Jm_seq ?_
  refine St_seq ?_
  refine St_seq ?_
  refine St_region ?_
  refine Ls_run (run_move rfl) rfl ?_
  refine Ls_run (run_asB (c := false) (run_eql_ptr_nil Try.underlying47 rfl rfl) rfl) rfl ?_
  refine Ls_nil ?_
  refine Jm_seq ?_
  refine St_iff rfl ?_
  refine St_skip ?_
  refine Jm_seq ?_
  refine St_seq ?_
  refine St_seq ?_
  refine St_region ?_
  refine Ls_run (run_move rfl) rfl ?_
  refine Ls_run (run_lss rfl rfl) rfl ?_
  refine Ls_run (run_move rfl) rfl ?_
  refine Ls_partP (t := 13) rfl (fun h2 => ?_) (fun h2 => ?_)
  · skip
    exfalso; omega
  · skip
    refine Ls_on rfl rfl ?_
    refine Ls_run (run_move rfl) rfl ?_
    refine Ls_on rfl rfl ?_
    refine Ls_run (run_gtr rfl rfl) rfl ?_
    refine Ls_run (run_pick_f rfl rfl) rfl ?_
    refine Ls_nil ?_
    refine Jm_seq ?_
    refine St_ifP rfl (fun h3 => ?_) (fun h3 => ?_)
    · skip
      exfalso; omega
    · skip
      refine St_skip ?_
      refine Jm_seq ?_
      refine St_seq ?_
      refine St_seq ?_
      refine St_region ?_
      refine Ls_run (run_move rfl) rfl ?_
      obtain ⟨A0, c0, hd0⟩ := hs.rhd
      refine Ls_call Try.func62 nm62 rfl rfl (rBlocks_c w b r A0 c0 hd0) rfl ?_
      rintro v4 w5 ⟨rfl, rfl⟩
      refine Ls_run (run_lss rfl rfl) rfl ?_
      refine Ls_nil ?_
      refine Jm_seq ?_
      refine St_ifP rfl (fun h6 => ?_) (fun h6 => ?_)
      · skip
        refine St_seq ?_
        refine St_region ?_
        refine Ls_run (run_assign rfl) rfl ?_
        refine Ls_run (run_assign rfl) rfl ?_
        refine Ls_nil ?_
        refine Jm_seq ?_
        refine St_ret ?_
        refine Jm_then_ret  ?_
        refine Jm_ret2 rfl rfl rfl ?_
        have e : rjformat r m = (92, none, r) := by unfold rjformat; rw [if_neg (by omega), if_pos (by omega)]
        rw [e]
        exact ⟨_, rfl, none, rfl, hs.toJoNone⟩
      · skip
        refine St_skip ?_
        refine Jm_seq ?_
        refine St_seq ?_
        obtain ⟨En7, hEn7⟩ : ∃ F : Nat × Nat × Nat → Env, ∀ (gp : Nat) (gc : Nat) (g7 : Nat), F (gp, gc, g7) = [(0, .pointer (some ⟨b, 0, none⟩)), (1, .int .i64 (m : Int)), (6, .pointer (some ⟨g7, 0, none⟩))] := ⟨(fun (s : Nat × Nat × Nat) => match s with | (gp, gc, g7) => [(0, .pointer (some ⟨b, 0, none⟩)), (1, .int .i64 (m : Int)), (6, .pointer (some ⟨g7, 0, none⟩))]), fun _ _ _ => rfl⟩
        obtain ⟨Iv8, hIv8⟩ : ∃ F : Nat × Nat × Nat → World → Prop, ∀ (gp : Nat) (gc : Nat) (g7 : Nat) (w9 : World), F (gp, gc, g7) w9 = (Sat B w9 (Blk g7 [.int .i64 0, .slice (some ⟨gp, 0, none⟩) m m, .slice (some ⟨gc, 0, none⟩) m m, .int .i64 0] 66 :: Own 3 1 (.slice (some ⟨gp, 0, none⟩) m m) m (List.replicate m (.int .i64 0)) :: Own 3 1 (.slice (some ⟨gc, 0, none⟩) m m) m (List.replicate m (.int .i64 0)) :: RefA 92 31 5 b r :: L)) := ⟨(fun (s : Nat × Nat × Nat) => match s with | (gp, gc, g7) => fun (w9 : World) => Sat B w9 (Blk g7 [.int .i64 0, .slice (some ⟨gp, 0, none⟩) m m, .slice (some ⟨gc, 0, none⟩) m m, .int .i64 0] 66 :: Own 3 1 (.slice (some ⟨gp, 0, none⟩) m m) m (List.replicate m (.int .i64 0)) :: Own 3 1 (.slice (some ⟨gc, 0, none⟩) m m) m (List.replicate m (.int .i64 0)) :: RefA 92 31 5 b r :: L)), fun _ _ _ _ => rfl⟩
        refine St_join En7 Iv8 ?_ ?_
        · skip
          refine St_hold (Hold.of (Ls := [_]) hs) mixed ?_
          intro w10 q11
          replace hs := hs.quiet q11
          have hH := Hold.of (Ls := [_]) hs
          refine An_take 0 rfl (by kernel_rfl) (by kernel_rfl) (by kernel_rfl) (fun _ _ _ h => h) hH (fun x hx => run_move rfl) rfl ?_
          refine An_take 2 rfl (by kernel_rfl) (by kernel_rfl) (by kernel_rfl) (fun _ _ _ h => h) hH (fun x hx => run_move rfl) rfl ?_
          refine An_three 1 3 6 (by kernel_rfl) rfl rfl rfl ?_ ?_ ?_
          · skip
            refine Ls_make (m := m) hs Try.underlying62 infq3 rfl rfl rfl (by omega) (by omega) rfl ?_
            intro b12 w13 hs
            replace hs := hs.front 1 rfl
            simp only [List.cons_append, List.nil_append, List.eraseIdx_cons_zero, List.eraseIdx_cons_succ] at hs
            replace hH := Hold.of (Ls := [_]) hs
            refine Ls_nil (Jm_An hH ?_)
            refine An_two 3 6 (by kernel_rfl) rfl rfl ?_ ?_
            · skip
              refine Ls_make (m := m) hs Try.underlying62 infq3 rfl rfl rfl (by omega) (by omega) rfl ?_
              intro b14 w15 hs
              replace hs := hs.front 1 rfl
              simp only [List.cons_append, List.nil_append, List.eraseIdx_cons_zero, List.eraseIdx_cons_succ] at hs
              replace hH := Hold.of (Ls := [_]) hs
              refine Ls_nil (Jm_An hH ?_)
              refine An_take 4 rfl (by kernel_rfl) (by kernel_rfl) (by kernel_rfl) (fun _ _ _ h => h) hH (fun x hx => run_buildO (pv := [(1, _), (2, _)]) rfl (bld64_1_2 _ _ _ _ _ _)) rfl ?_
              refine An_take 5 rfl (by kernel_rfl) (by kernel_rfl) (by kernel_rfl) (fun _ _ _ h => h) hH (fun x hx => run_buildO (pv := [(0, _)]) rfl (bld66_0 _ _ _ _ _ _ _)) rfl ?_
              refine An_only 6 (by kernel_rfl) rfl ?_
              refine Ls_alloc hs inf66 rfl ?_
              intro b17 w16 hs
              replace hs := hs.front 1 rfl
              simp only [List.cons_append, List.nil_append, List.eraseIdx_cons_zero, List.eraseIdx_cons_succ] at hs
              replace hH := Hold.of (Ls := [_]) hs
              refine Ls_nil (Jm_An hH ?_)
              refine An_only 7 (by kernel_rfl) rfl ?_
              replace hs := hs.front 1 rfl
              simp only [List.cons_append, List.nil_append, List.eraseIdx_cons_zero, List.eraseIdx_cons_succ] at hs
              refine Ls_storeAgg hs inf66 rfl rfl rfl rfl (by simp [Value.oneCell', Value.cells, jcells]) ?_
              intro w18 hs
              replace hs := hs.front 1 rfl
              simp only [List.cons_append, List.nil_append, List.eraseIdx_cons_zero, List.eraseIdx_cons_succ] at hs
              replace hH := Hold.of (Ls := [_]) hs
              refine Ls_nil (Jm_An hH ?_)
              refine An_done (by kernel_rfl) ?_
              replace hs := hs.front 2 rfl
              simp only [List.cons_append, List.nil_append, List.eraseIdx_cons_zero, List.eraseIdx_cons_succ] at hs
              replace hs := hs.front 3 rfl
              simp only [List.cons_append, List.nil_append, List.eraseIdx_cons_zero, List.eraseIdx_cons_succ] at hs
              replace hs := hs.front 3 rfl
              simp only [List.cons_append, List.nil_append, List.eraseIdx_cons_zero, List.eraseIdx_cons_succ] at hs
              refine Jm_join (b12, b14, b17) ?_ ?_
              · rw [hEn7]; exact (subE_cons rfl (subE_cons rfl (subE_cons rfl subE_nil)))
              · skip
                rw [hIv8]
                exact hs
            · skip
              refine Ls_alloc hs inf66 rfl ?_
              intro b20 w19 hs
              replace hs := hs.front 1 rfl
              simp only [List.cons_append, List.nil_append, List.eraseIdx_cons_zero, List.eraseIdx_cons_succ] at hs
              replace hH := Hold.of (Ls := [_]) hs
              refine Ls_nil (Jm_An hH ?_)
              refine An_only 3 (by kernel_rfl) rfl ?_
              refine Ls_make (m := m) hs Try.underlying62 infq3 rfl rfl rfl (by omega) (by omega) rfl ?_
              intro b21 w22 hs
              replace hs := hs.front 1 rfl
              simp only [List.cons_append, List.nil_append, List.eraseIdx_cons_zero, List.eraseIdx_cons_succ] at hs
              replace hH := Hold.of (Ls := [_]) hs
              refine Ls_nil (Jm_An hH ?_)
              refine An_take 4 rfl (by kernel_rfl) (by kernel_rfl) (by kernel_rfl) (fun _ _ _ h => h) hH (fun x hx => run_buildO (pv := [(1, _), (2, _)]) rfl (bld64_1_2 _ _ _ _ _ _)) rfl ?_
              refine An_take 5 rfl (by kernel_rfl) (by kernel_rfl) (by kernel_rfl) (fun _ _ _ h => h) hH (fun x hx => run_buildO (pv := [(0, _)]) rfl (bld66_0 _ _ _ _ _ _ _)) rfl ?_
              refine An_only 7 (by kernel_rfl) rfl ?_
              replace hs := hs.front 2 rfl
              simp only [List.cons_append, List.nil_append, List.eraseIdx_cons_zero, List.eraseIdx_cons_succ] at hs
              refine Ls_storeAgg hs inf66 rfl rfl rfl rfl (by simp [Value.oneCell', Value.cells, jcells]) ?_
              intro w23 hs
              replace hs := hs.front 1 rfl
              simp only [List.cons_append, List.nil_append, List.eraseIdx_cons_zero, List.eraseIdx_cons_succ] at hs
              replace hH := Hold.of (Ls := [_]) hs
              refine Ls_nil (Jm_An hH ?_)
              refine An_done (by kernel_rfl) ?_
              replace hs := hs.front 2 rfl
              simp only [List.cons_append, List.nil_append, List.eraseIdx_cons_zero, List.eraseIdx_cons_succ] at hs
              replace hs := hs.front 3 rfl
              simp only [List.cons_append, List.nil_append, List.eraseIdx_cons_zero, List.eraseIdx_cons_succ] at hs
              replace hs := hs.front 3 rfl
              simp only [List.cons_append, List.nil_append, List.eraseIdx_cons_zero, List.eraseIdx_cons_succ] at hs
              refine Jm_join (b12, b21, b20) ?_ ?_
              · rw [hEn7]; exact (subE_cons rfl (subE_cons rfl (subE_cons rfl subE_nil)))
              · skip
                rw [hIv8]
                exact hs
          · skip
            refine Ls_make (m := m) hs Try.underlying62 infq3 rfl rfl rfl (by omega) (by omega) rfl ?_
            intro b24 w25 hs
            replace hs := hs.front 1 rfl
            simp only [List.cons_append, List.nil_append, List.eraseIdx_cons_zero, List.eraseIdx_cons_succ] at hs
            replace hH := Hold.of (Ls := [_]) hs
            refine Ls_nil (Jm_An hH ?_)
            refine An_two 1 6 (by kernel_rfl) rfl rfl ?_ ?_
            · skip
              refine Ls_make (m := m) hs Try.underlying62 infq3 rfl rfl rfl (by omega) (by omega) rfl ?_
              intro b26 w27 hs
              replace hs := hs.front 1 rfl
              simp only [List.cons_append, List.nil_append, List.eraseIdx_cons_zero, List.eraseIdx_cons_succ] at hs
              replace hH := Hold.of (Ls := [_]) hs
              refine Ls_nil (Jm_An hH ?_)
              refine An_take 4 rfl (by kernel_rfl) (by kernel_rfl) (by kernel_rfl) (fun _ _ _ h => h) hH (fun x hx => run_buildO (pv := [(1, _), (2, _)]) rfl (bld64_1_2 _ _ _ _ _ _)) rfl ?_
              refine An_take 5 rfl (by kernel_rfl) (by kernel_rfl) (by kernel_rfl) (fun _ _ _ h => h) hH (fun x hx => run_buildO (pv := [(0, _)]) rfl (bld66_0 _ _ _ _ _ _ _)) rfl ?_
              refine An_only 6 (by kernel_rfl) rfl ?_
              refine Ls_alloc hs inf66 rfl ?_
              intro b29 w28 hs
              replace hs := hs.front 1 rfl
              simp only [List.cons_append, List.nil_append, List.eraseIdx_cons_zero, List.eraseIdx_cons_succ] at hs
              replace hH := Hold.of (Ls := [_]) hs
              refine Ls_nil (Jm_An hH ?_)
              refine An_only 7 (by kernel_rfl) rfl ?_
              replace hs := hs.front 1 rfl
              simp only [List.cons_append, List.nil_append, List.eraseIdx_cons_zero, List.eraseIdx_cons_succ] at hs
              refine Ls_storeAgg hs inf66 rfl rfl rfl rfl (by simp [Value.oneCell', Value.cells, jcells]) ?_
              intro w30 hs
              replace hs := hs.front 1 rfl
              simp only [List.cons_append, List.nil_append, List.eraseIdx_cons_zero, List.eraseIdx_cons_succ] at hs
              replace hH := Hold.of (Ls := [_]) hs
              refine Ls_nil (Jm_An hH ?_)
              refine An_done (by kernel_rfl) ?_
              replace hs := hs.front 3 rfl
              simp only [List.cons_append, List.nil_append, List.eraseIdx_cons_zero, List.eraseIdx_cons_succ] at hs
              replace hs := hs.front 3 rfl
              simp only [List.cons_append, List.nil_append, List.eraseIdx_cons_zero, List.eraseIdx_cons_succ] at hs
              replace hs := hs.front 3 rfl
              simp only [List.cons_append, List.nil_append, List.eraseIdx_cons_zero, List.eraseIdx_cons_succ] at hs
              refine Jm_join (b26, b24, b29) ?_ ?_
              · rw [hEn7]; exact (subE_cons rfl (subE_cons rfl (subE_cons rfl subE_nil)))
              · skip
                rw [hIv8]
                exact hs
            · skip
              refine Ls_alloc hs inf66 rfl ?_
              intro b32 w31 hs
              replace hs := hs.front 1 rfl
              simp only [List.cons_append, List.nil_append, List.eraseIdx_cons_zero, List.eraseIdx_cons_succ] at hs
              replace hH := Hold.of (Ls := [_]) hs
              refine Ls_nil (Jm_An hH ?_)
              refine An_only 1 (by kernel_rfl) rfl ?_
              refine Ls_make (m := m) hs Try.underlying62 infq3 rfl rfl rfl (by omega) (by omega) rfl ?_
              intro b33 w34 hs
              replace hs := hs.front 1 rfl
              simp only [List.cons_append, List.nil_append, List.eraseIdx_cons_zero, List.eraseIdx_cons_succ] at hs
              replace hH := Hold.of (Ls := [_]) hs
              refine Ls_nil (Jm_An hH ?_)
              refine An_take 4 rfl (by kernel_rfl) (by kernel_rfl) (by kernel_rfl) (fun _ _ _ h => h) hH (fun x hx => run_buildO (pv := [(1, _), (2, _)]) rfl (bld64_1_2 _ _ _ _ _ _)) rfl ?_
              refine An_take 5 rfl (by kernel_rfl) (by kernel_rfl) (by kernel_rfl) (fun _ _ _ h => h) hH (fun x hx => run_buildO (pv := [(0, _)]) rfl (bld66_0 _ _ _ _ _ _ _)) rfl ?_
              refine An_only 7 (by kernel_rfl) rfl ?_
              replace hs := hs.front 2 rfl
              simp only [List.cons_append, List.nil_append, List.eraseIdx_cons_zero, List.eraseIdx_cons_succ] at hs
              refine Ls_storeAgg hs inf66 rfl rfl rfl rfl (by simp [Value.oneCell', Value.cells, jcells]) ?_
              intro w35 hs
              replace hs := hs.front 1 rfl
              simp only [List.cons_append, List.nil_append, List.eraseIdx_cons_zero, List.eraseIdx_cons_succ] at hs
              replace hH := Hold.of (Ls := [_]) hs
              refine Ls_nil (Jm_An hH ?_)
              refine An_done (by kernel_rfl) ?_
              replace hs := hs.front 3 rfl
              simp only [List.cons_append, List.nil_append, List.eraseIdx_cons_zero, List.eraseIdx_cons_succ] at hs
              replace hs := hs.front 3 rfl
              simp only [List.cons_append, List.nil_append, List.eraseIdx_cons_zero, List.eraseIdx_cons_succ] at hs
              replace hs := hs.front 3 rfl
              simp only [List.cons_append, List.nil_append, List.eraseIdx_cons_zero, List.eraseIdx_cons_succ] at hs
              refine Jm_join (b33, b24, b32) ?_ ?_
              · rw [hEn7]; exact (subE_cons rfl (subE_cons rfl (subE_cons rfl subE_nil)))
              · skip
                rw [hIv8]
                exact hs
          · skip
            refine Ls_alloc hs inf66 rfl ?_
            intro b37 w36 hs
            replace hs := hs.front 1 rfl
            simp only [List.cons_append, List.nil_append, List.eraseIdx_cons_zero, List.eraseIdx_cons_succ] at hs
            replace hH := Hold.of (Ls := [_]) hs
            refine Ls_nil (Jm_An hH ?_)
            refine An_two 1 3 (by kernel_rfl) rfl rfl ?_ ?_
            · skip
              refine Ls_make (m := m) hs Try.underlying62 infq3 rfl rfl rfl (by omega) (by omega) rfl ?_
              intro b38 w39 hs
              replace hs := hs.front 1 rfl
              simp only [List.cons_append, List.nil_append, List.eraseIdx_cons_zero, List.eraseIdx_cons_succ] at hs
              replace hH := Hold.of (Ls := [_]) hs
              refine Ls_nil (Jm_An hH ?_)
              refine An_only 3 (by kernel_rfl) rfl ?_
              refine Ls_make (m := m) hs Try.underlying62 infq3 rfl rfl rfl (by omega) (by omega) rfl ?_
              intro b40 w41 hs
              replace hs := hs.front 1 rfl
              simp only [List.cons_append, List.nil_append, List.eraseIdx_cons_zero, List.eraseIdx_cons_succ] at hs
              replace hH := Hold.of (Ls := [_]) hs
              refine Ls_nil (Jm_An hH ?_)
              refine An_take 4 rfl (by kernel_rfl) (by kernel_rfl) (by kernel_rfl) (fun _ _ _ h => h) hH (fun x hx => run_buildO (pv := [(1, _), (2, _)]) rfl (bld64_1_2 _ _ _ _ _ _)) rfl ?_
              refine An_take 5 rfl (by kernel_rfl) (by kernel_rfl) (by kernel_rfl) (fun _ _ _ h => h) hH (fun x hx => run_buildO (pv := [(0, _)]) rfl (bld66_0 _ _ _ _ _ _ _)) rfl ?_
              refine An_only 7 (by kernel_rfl) rfl ?_
              replace hs := hs.front 3 rfl
              simp only [List.cons_append, List.nil_append, List.eraseIdx_cons_zero, List.eraseIdx_cons_succ] at hs
              refine Ls_storeAgg hs inf66 rfl rfl rfl rfl (by simp [Value.oneCell', Value.cells, jcells]) ?_
              intro w42 hs
              replace hs := hs.front 1 rfl
              simp only [List.cons_append, List.nil_append, List.eraseIdx_cons_zero, List.eraseIdx_cons_succ] at hs
              replace hH := Hold.of (Ls := [_]) hs
              refine Ls_nil (Jm_An hH ?_)
              refine An_done (by kernel_rfl) ?_
              replace hs := hs.front 2 rfl
              simp only [List.cons_append, List.nil_append, List.eraseIdx_cons_zero, List.eraseIdx_cons_succ] at hs
              replace hs := hs.front 3 rfl
              simp only [List.cons_append, List.nil_append, List.eraseIdx_cons_zero, List.eraseIdx_cons_succ] at hs
              replace hs := hs.front 3 rfl
              simp only [List.cons_append, List.nil_append, List.eraseIdx_cons_zero, List.eraseIdx_cons_succ] at hs
              refine Jm_join (b38, b40, b37) ?_ ?_
              · rw [hEn7]; exact (subE_cons rfl (subE_cons rfl (subE_cons rfl subE_nil)))
              · skip
                rw [hIv8]
                exact hs
            · skip
              refine Ls_make (m := m) hs Try.underlying62 infq3 rfl rfl rfl (by omega) (by omega) rfl ?_
              intro b43 w44 hs
              replace hs := hs.front 1 rfl
              simp only [List.cons_append, List.nil_append, List.eraseIdx_cons_zero, List.eraseIdx_cons_succ] at hs
              replace hH := Hold.of (Ls := [_]) hs
              refine Ls_nil (Jm_An hH ?_)
              refine An_only 1 (by kernel_rfl) rfl ?_
              refine Ls_make (m := m) hs Try.underlying62 infq3 rfl rfl rfl (by omega) (by omega) rfl ?_
              intro b45 w46 hs
              replace hs := hs.front 1 rfl
              simp only [List.cons_append, List.nil_append, List.eraseIdx_cons_zero, List.eraseIdx_cons_succ] at hs
              replace hH := Hold.of (Ls := [_]) hs
              refine Ls_nil (Jm_An hH ?_)
              refine An_take 4 rfl (by kernel_rfl) (by kernel_rfl) (by kernel_rfl) (fun _ _ _ h => h) hH (fun x hx => run_buildO (pv := [(1, _), (2, _)]) rfl (bld64_1_2 _ _ _ _ _ _)) rfl ?_
              refine An_take 5 rfl (by kernel_rfl) (by kernel_rfl) (by kernel_rfl) (fun _ _ _ h => h) hH (fun x hx => run_buildO (pv := [(0, _)]) rfl (bld66_0 _ _ _ _ _ _ _)) rfl ?_
              refine An_only 7 (by kernel_rfl) rfl ?_
              replace hs := hs.front 3 rfl
              simp only [List.cons_append, List.nil_append, List.eraseIdx_cons_zero, List.eraseIdx_cons_succ] at hs
              refine Ls_storeAgg hs inf66 rfl rfl rfl rfl (by simp [Value.oneCell', Value.cells, jcells]) ?_
              intro w47 hs
              replace hs := hs.front 1 rfl
              simp only [List.cons_append, List.nil_append, List.eraseIdx_cons_zero, List.eraseIdx_cons_succ] at hs
              replace hH := Hold.of (Ls := [_]) hs
              refine Ls_nil (Jm_An hH ?_)
              refine An_done (by kernel_rfl) ?_
              replace hs := hs.front 3 rfl
              simp only [List.cons_append, List.nil_append, List.eraseIdx_cons_zero, List.eraseIdx_cons_succ] at hs
              replace hs := hs.front 3 rfl
              simp only [List.cons_append, List.nil_append, List.eraseIdx_cons_zero, List.eraseIdx_cons_succ] at hs
              replace hs := hs.front 3 rfl
              simp only [List.cons_append, List.nil_append, List.eraseIdx_cons_zero, List.eraseIdx_cons_succ] at hs
              refine Jm_join (b45, b43, b37) ?_ ?_
              · rw [hEn7]; exact (subE_cons rfl (subE_cons rfl (subE_cons rfl subE_nil)))
              · skip
                rw [hIv8]
                exact hs
        · skip
          rintro ⟨gp, gc, g7⟩ w9 hI48
          rw [hIv8] at hI48
          replace hs := hI48
          refine Jm_eqE (hEn7 _ _ _) ?_
          refine Jm_seq ?_
          refine St_seq ?_
          refine St_seq ?_
          refine St_region ?_
          refine Ls_run (run_move rfl) rfl ?_
          replace hs := hs.front 3 rfl
          simp only [List.cons_append, List.nil_append, List.eraseIdx_cons_zero, List.eraseIdx_cons_succ] at hs
          have hlfr1 := hdr.1.2.2.2.2.1
          have hlgr1 := hdr.2.2.2
          refine Ls_call Try.func59 nm59 rfl rfl (rWrite_c B w9 _ b r hs hdr.rows ⟨hlfr1, hlgr1⟩ 1 none 0 0 [] (fun w' X q => (show Rd w' none 0 0 1 (bytesV []) from Rd.none w' 1)) (by omega)) rfl ?_
          rintro v49 w50 ⟨rfl, hs⟩
          have hdr1 := (hdr.write 1 (b := []) (by simp [IsBytes])).2
          obtain ⟨⟨er1, r1⟩, hwr1⟩ : ∃ q, rwrite r 1 [] = q := ⟨_, rfl⟩
          simp only [hwr1] at hs ⊢ hdr1
          refine Ls_run (run_assign rfl) rfl ?_
          refine Ls_nil ?_
          refine Jm_seq ?_
          refine St_seq ?_
          refine St_region ?_
          refine Ls_run (run_move rfl) rfl ?_
          refine Ls_run (run_neq rfl rfl) rfl ?_
          refine Ls_nil ?_
          refine Jm_seq ?_
          refine St_ifP rfl (fun h51 => ?_) (fun h51 => ?_)
          · skip
            refine St_seq ?_
            refine St_region ?_
            refine Ls_run (run_move rfl) rfl ?_
            refine Ls_run (run_assign rfl) rfl ?_
            refine Ls_run (run_assign rfl) rfl ?_
            refine Ls_nil ?_
            refine Jm_seq ?_
            refine St_ret ?_
            refine Jm_then_ret  ?_
            refine Jm_ret2 rfl rfl rfl ?_
            replace hs := hs.erase 1
            simp only [List.cons_append, List.nil_append, List.eraseIdx_cons_zero, List.eraseIdx_cons_succ] at hs
            replace hs := hs.erase 1
            simp only [List.cons_append, List.nil_append, List.eraseIdx_cons_zero, List.eraseIdx_cons_succ] at hs
            replace hs := hs.erase 1
            simp only [List.cons_append, List.nil_append, List.eraseIdx_cons_zero, List.eraseIdx_cons_succ] at hs
            have e : rjformat r m = (er1, none, r1) := by unfold rjformat; rw [if_neg (by omega), if_neg (by omega), hwr1, if_pos (by assumption)]
            rw [e]
            exact ⟨_, rfl, none, rfl, hs.toJoNone⟩
          · skip
            refine St_skip ?_
            refine Jm_seq ?_
            refine St_seq ?_
            refine St_seq ?_
            refine St_region ?_
            rw [← flatKI_rep m] at hs
            refine Ls_run (run_move rfl) rfl ?_
            refine Ls_run (run_load_agg agg66 inf66 rfl rfl (hs.blk_cells 1 rfl 0 4)) rfl ?_
            have hnk := (jnew_ok (parts := m) hm1 hm4).1
            refine Ls_call Try.func71 nm71 rfl rfl (rBytes_e w50 (jnew m).n _ _ _ _ m m (by simp [jnew]) (by simp [jnew]) (hs.rd_at 2 rfl) (hs.rd_at 3 rfl) (by omega) 0 0 1 _ rfl rfl hnk (by simp [jnew]; omega) (by decide)) rfl ?_
            rintro v52 w53 ⟨Ab, cb, rfl, hsB⟩
            replace hs := hs.trans hsB
            simp only [List.cons_append, List.nil_append] at hs
            have hnl := nbytes_len hnk (by simp [jnew]; omega) (gen := 1) (by decide)
            obtain ⟨nb, hnb⟩ : ∃ q, q = nbytes 1 (jnew m).n := ⟨_, rfl⟩
            have hbyd2 : IsBytes nb := by rw [hnb]; exact nbytes_bytes _ _
            rw [← hnb] at hs hnl ⊢
            replace hs := hs.front 1 rfl
            simp only [List.cons_append, List.nil_append, List.eraseIdx_cons_zero, List.eraseIdx_cons_succ] at hs
            have hlfr2 := hdr1.1.2.2.2.2.1
            have hlgr2 := hdr1.2.2.2
            refine Ls_call Try.func59 nm59 rfl rfl (rWrite_c B w53 _ b r1 hs hdr1.rows ⟨hlfr2, hlgr2⟩ 0 Ab nb.length cb nb (fun w' X q => q.rd_at 1 rfl) (by omega)) rfl ?_
            rintro v54 w55 ⟨rfl, hs⟩
            have hdr2 := (hdr1.write 0 (b := nb) hbyd2).2
            obtain ⟨⟨er2, r2⟩, hwr2⟩ : ∃ q, rwrite r1 0 nb = q := ⟨_, rfl⟩
            simp only [hwr2] at hs ⊢ hdr2
            refine Ls_run (run_assign rfl) rfl ?_
            refine Ls_nil ?_
            refine Jm_seq ?_
            refine St_seq ?_
            refine St_region ?_
            refine Ls_run (run_move rfl) rfl ?_
            refine Ls_run (run_neq rfl rfl) rfl ?_
            refine Ls_nil ?_
            refine Jm_seq ?_
            refine St_ifP rfl (fun h56 => ?_) (fun h56 => ?_)
            · skip
              refine St_seq ?_
              refine St_region ?_
              refine Ls_run (run_move rfl) rfl ?_
              refine Ls_run (run_assign rfl) rfl ?_
              refine Ls_run (run_assign rfl) rfl ?_
              refine Ls_nil ?_
              refine Jm_seq ?_
              refine St_ret ?_
              refine Jm_then_ret  ?_
              refine Jm_ret2 rfl rfl rfl ?_
              replace hs := hs.erase 1
              simp only [List.cons_append, List.nil_append, List.eraseIdx_cons_zero, List.eraseIdx_cons_succ] at hs
              replace hs := hs.erase 1
              simp only [List.cons_append, List.nil_append, List.eraseIdx_cons_zero, List.eraseIdx_cons_succ] at hs
              replace hs := hs.erase 1
              simp only [List.cons_append, List.nil_append, List.eraseIdx_cons_zero, List.eraseIdx_cons_succ] at hs
              replace hs := hs.erase 1
              simp only [List.cons_append, List.nil_append, List.eraseIdx_cons_zero, List.eraseIdx_cons_succ] at hs
              have e : rjformat r m = (er2, none, r2) := by unfold rjformat; rw [if_neg (by omega), if_neg (by omega), hwr1, if_neg (by assumption)]; simp only [Int.toNat_natCast, ← hnb, hwr2]; rw [if_pos (by assumption)]
              rw [e]
              exact ⟨_, rfl, none, rfl, hs.toJoNone⟩
            · skip
              refine St_skip ?_
              refine Jm_seq ?_
              refine St_seq ?_
              refine St_region ?_
              refine Ls_run (run_move rfl) rfl ?_
              refine Ls_run (run_move rfl) rfl ?_
              refine Ls_run (run_load_agg agg66 inf66 rfl rfl (hs.blk_cells 2 rfl 0 4)) rfl ?_
              refine Ls_run (run_buildO (pv := [(0, _), (1, _), (2, _), (3, _)]) rfl (bld107_0_1_2_3 _ _ _ _ _ _ _ _ _ _ _)) rfl ?_
              refine Ls_box hs rfl rfl ?_
              intro b58 w57 hs
              refine Ls_run (run_assign rfl) rfl ?_
              refine Ls_run (run_assign rfl) rfl ?_
              refine Ls_nil ?_
              refine Jm_seq ?_
              refine St_ret ?_
              refine Jm_ret2 rfl rfl rfl ?_
              replace hs := hs.erase 2
              simp only [List.cons_append, List.nil_append, List.eraseIdx_cons_zero, List.eraseIdx_cons_succ] at hs
              replace hs := hs.erase 2
              simp only [List.cons_append, List.nil_append, List.eraseIdx_cons_zero, List.eraseIdx_cons_succ] at hs
              replace hs := hs.front 1 rfl
              simp only [List.cons_append, List.nil_append, List.eraseIdx_cons_zero, List.eraseIdx_cons_succ] at hs
              replace hs := hs.front 3 rfl
              simp only [List.cons_append, List.nil_append, List.eraseIdx_cons_zero, List.eraseIdx_cons_succ] at hs
              replace hs := hs.front 3 rfl
              simp only [List.cons_append, List.nil_append, List.eraseIdx_cons_zero, List.eraseIdx_cons_succ] at hs
              replace hs := hs.front 3 rfl
              simp only [List.cons_append, List.nil_append, List.eraseIdx_cons_zero, List.eraseIdx_cons_succ] at hs
              have e : rjformat r m = (0, some (jnew m), r2) := by unfold rjformat; rw [if_neg (by omega), if_neg (by omega), hwr1, if_neg (by assumption)]; simp only [Int.toNat_natCast, ← hnb, hwr2]; rw [if_neg (by assumption)]
              rw [e]
              have e1 : (jnew m).n.prev.length = m := by simp [jnew]
              have e2 : (jnew m).n.cur.length = m := by simp [jnew]
              refine ⟨_, rfl, _, rfl, Sat.toJoSome (Sat.jshut (j := jnew m) (Ap := some ⟨gp, 0, none⟩) (cp := m) (Ac := some ⟨gc, 0, none⟩) (cc := m) ?_)⟩
              simp only [jcells, e1, e2]
              exact hs
set_option maxRecDepth 100000 in
set_option maxHeartbeats 1000000 in
theorem rSave_c (B w : World) (L : List Assn) (bj b : Nat) (j : JSt) (d : DSt) (r : RSt) (hs : Sat B w (JA 107 3 bj (some ⟨b, 0, none⟩) j :: RefA 92 31 5 b r :: L)) (hjo : JOk j) (hdr : DR d r) (n : NSt) (Np : Option Addr) (np : Nat) (Nc : Option Addr) (nc : Nat) (hrp : ∀ w' X, Sat B w' (X :: L) → Rd w' Np n.prev.length np 1 (KI.flat n.prev)) (hrc : ∀ w' X, Sat B w' (X :: L) → Rd w' Nc n.cur.length nc 1 (KI.flat n.cur)) (hzn : n.prev.length ≤ 9223372036854775807 ∧ n.cur.length ≤ 9223372036854775807) :
    Calls Try.prog 39 [.pointer (some ⟨bj, 0, none⟩), .agg #[.int .i64 n.batch, .slice Np n.prev.length np, .slice Nc n.cur.length nc, .int .i64 n.att]].toArray w (Ret (fun v' w' => v' = .int .i64 (rjsave j r n).1 ∧ Sat B w' (JA 107 3 bj (some ⟨b, 0, none⟩) (rjsave j r n).2.1 :: RefA 92 31 5 b (rjsave j r n).2.2 :: L))) := by
  obtain ⟨Ap, cp, Ac, cc, hs⟩ := hs.jopen
  have hlen := noteOk_len hjo.1
  have hp4 := hjo.2.2.1
  have hz : j.n.prev.length ≤ 1073741824 ∧ j.n.cur.length ≤ 1073741824 := by omega
  have eg : (rjend j r).gen = j.gen := rfl
  have es : (rjend j r).slot = j.slot := rfl
  have hgl := hjo.2.2.2.1
  have hgh := hjo.2.2.2.2.1
  have hsl := hjo.2.2.2.2.2
  refine Calls_body Try.func39 rfl rfl rfl (envE_cons (i := 0) (v := .pointer (some ⟨bj, 0, none⟩)) rfl (envE_cons (i := 1) (v := .agg #[.int .i64 n.batch, .slice Np n.prev.length np, .slice Nc n.cur.length nc, .int .i64 n.att]) rfl envE_nil)) ?_
  refine St_seq ?_
  refine St_region ?_
  refine Ls_box hs rfl rfl ?_
  intro b2 w1 hs
  refine Ls_run (run_assign rfl) rfl ?_
  refine Ls_nil ?_
  refine Jm_seq ?_
  refine St_seq ?_
  refine St_seq ?_
  refine St_region ?_
  refine Ls_run (run_move rfl) rfl ?_
  refine Ls_run (run_asB (c := false) (run_eql_ptr_nil Try.underlying76 rfl rfl) rfl) rfl ?_
  refine Ls_nil ?_
  refine Jm_seq ?_
  refine St_iff rfl ?_
  refine St_skip ?_
  refine Jm_seq ?_
  refine St_seq ?_
  refine St_seq ?_
  refine St_region ?_
  refine Ls_run (run_move rfl) rfl ?_
  refine Ls_run (run_nilCheck rfl) rfl ?_
  refine Ls_run (run_as (run_field Try.underlying107 rfl inf47 (by decide) rfl) (show _ = Value.pointer (some ⟨bj, 0, none⟩) from rfl)) rfl ?_
  refine Ls_run (run_load sc47 rfl (hs.blk_at 1 rfl 0 rfl)) rfl ?_
  replace hs := hs.front 4 rfl
  simp only [List.cons_append, List.nil_append, List.eraseIdx_cons_zero, List.eraseIdx_cons_succ] at hs
  obtain ⟨A0, c0, hd0⟩ := hs.rhd
  refine Ls_call Try.func61 nm61 rfl rfl (rDown_c w1 b r A0 c0 hd0) rfl ?_
  rintro v4 w5 ⟨rfl, rfl⟩
  refine Ls_nil ?_
  refine Jm_seq ?_
  obtain ⟨En6, hEn6⟩ : ∃ F : Nat → Env, ∀ (z : Nat), F z = [(0, .pointer (some ⟨bj, 0, none⟩)), (3, .pointer (some ⟨b2, 0, none⟩))] := ⟨(fun (z : Nat) => [(0, .pointer (some ⟨bj, 0, none⟩)), (3, .pointer (some ⟨b2, 0, none⟩))]), fun _ => rfl⟩
  obtain ⟨Iv7, hIv7⟩ : ∃ F : Nat → World → Prop, ∀ (z : Nat) (w9 : World), F z w9 = (Sat B w9 (Blk b2 [.int .i64 n.batch, .slice Np n.prev.length np, .slice Nc n.cur.length nc, .int .i64 n.att] 66 :: Blk bj (jcells (some ⟨b, 0, none⟩) (rjend j r) Ap cp Ac cc) 107 :: Own 3 1 (.slice Ap j.n.prev.length cp) j.n.prev.length (KI.flat j.n.prev) :: Own 3 1 (.slice Ac j.n.cur.length cc) j.n.cur.length (KI.flat j.n.cur) :: RefA 92 31 5 b r :: L)) := ⟨(fun (z : Nat) => fun (w9 : World) => Sat B w9 (Blk b2 [.int .i64 n.batch, .slice Np n.prev.length np, .slice Nc n.cur.length nc, .int .i64 n.att] 66 :: Blk bj (jcells (some ⟨b, 0, none⟩) (rjend j r) Ap cp Ac cc) 107 :: Own 3 1 (.slice Ap j.n.prev.length cp) j.n.prev.length (KI.flat j.n.prev) :: Own 3 1 (.slice Ac j.n.cur.length cc) j.n.cur.length (KI.flat j.n.cur) :: RefA 92 31 5 b r :: L)), fun _ _ => rfl⟩
  refine St_join En6 Iv7 ?_ ?_
  · skip
    refine St_if rfl (fun h10 => ?_) (fun h10 => ?_)
    · skip
      refine St_region ?_
      refine Ls_run (run_move rfl) rfl ?_
      refine Ls_run (run_nilCheck rfl) rfl ?_
      refine Ls_run (run_as (run_field Try.underlying107 rfl inf4 (by decide) rfl) (show _ = Value.pointer (some ⟨bj, 8, none⟩) from rfl)) rfl ?_
      replace hs := hs.front 2 rfl
      simp only [List.cons_append, List.nil_append, List.eraseIdx_cons_zero, List.eraseIdx_cons_succ] at hs
      refine Ls_store hs inf4 rfl rfl rfl rfl ?_
      intro w11 hs
      try simp only [List.set_cons_zero, List.set_cons_succ] at hs
      refine Ls_nil ?_
      replace hs := hs.front 1 rfl
      simp only [List.cons_append, List.nil_append, List.eraseIdx_cons_zero, List.eraseIdx_cons_succ] at hs
      replace hs := hs.front 4 rfl
      simp only [List.cons_append, List.nil_append, List.eraseIdx_cons_zero, List.eraseIdx_cons_succ] at hs
      replace hs := hs.front 4 rfl
      simp only [List.cons_append, List.nil_append, List.eraseIdx_cons_zero, List.eraseIdx_cons_succ] at hs
      replace hs := hs.front 3 rfl
      simp only [List.cons_append, List.nil_append, List.eraseIdx_cons_zero, List.eraseIdx_cons_succ] at hs
      replace hs := hs.front 4 rfl
      simp only [List.cons_append, List.nil_append, List.eraseIdx_cons_zero, List.eraseIdx_cons_succ] at hs
      refine Jm_join 0 ?_ ?_
      · rw [hEn6]; exact (subE_cons rfl (subE_cons rfl subE_nil))
      · skip
        rw [hIv7]
        first | (have e6 : jcells (some ⟨b, 0, none⟩) (rjend j r) Ap cp Ac cc = (jcells (some ⟨b, 0, none⟩) j Ap cp Ac cc).set 8 (.bool true) := (by simp [jcells, rjend, *]); rw [e6]; exact hs) | (have e6 : jcells (some ⟨b, 0, none⟩) (rjend j r) Ap cp Ac cc = jcells (some ⟨b, 0, none⟩) j Ap cp Ac cc := (by simp [jcells, rjend, *]); rw [e6]; exact hs)
    · skip
      refine St_skip ?_
      replace hs := hs.front 4 rfl
      simp only [List.cons_append, List.nil_append, List.eraseIdx_cons_zero, List.eraseIdx_cons_succ] at hs
      replace hs := hs.front 4 rfl
      simp only [List.cons_append, List.nil_append, List.eraseIdx_cons_zero, List.eraseIdx_cons_succ] at hs
      replace hs := hs.front 4 rfl
      simp only [List.cons_append, List.nil_append, List.eraseIdx_cons_zero, List.eraseIdx_cons_succ] at hs
      replace hs := hs.front 4 rfl
      simp only [List.cons_append, List.nil_append, List.eraseIdx_cons_zero, List.eraseIdx_cons_succ] at hs
      refine Jm_join 0 ?_ ?_
      · rw [hEn6]; exact (subE_cons rfl (subE_cons rfl subE_nil))
      · skip
        rw [hIv7]
        first | (have e6 : jcells (some ⟨b, 0, none⟩) (rjend j r) Ap cp Ac cc = (jcells (some ⟨b, 0, none⟩) j Ap cp Ac cc).set 8 (.bool true) := (by simp [jcells, rjend, *]); rw [e6]; exact hs) | (have e6 : jcells (some ⟨b, 0, none⟩) (rjend j r) Ap cp Ac cc = jcells (some ⟨b, 0, none⟩) j Ap cp Ac cc := (by simp [jcells, rjend, *]); rw [e6]; exact hs)
  · skip
    rintro z w9 hI12
    rw [hIv7] at hI12
    replace hs := hI12
    refine Jm_eqE (hEn6 _) ?_
    refine Jm_seq ?_
    refine St_seq ?_
    refine St_seq ?_
    refine St_region ?_
    refine Ls_run (run_move rfl) rfl ?_
    refine Ls_run (run_nilCheck rfl) rfl ?_
    refine Ls_run (run_as (run_field Try.underlying107 rfl inf4 (by decide) rfl) (show _ = Value.pointer (some ⟨bj, 8, none⟩) from rfl)) rfl ?_
    refine Ls_run (run_load sc4 rfl (hs.blk_at 1 rfl 8 rfl)) rfl ?_
    refine Ls_nil ?_
    refine Jm_seq ?_
    refine St_if rfl (fun h13 => ?_) (fun h13 => ?_)
    · skip
      refine St_seq ?_
      refine St_region ?_
      refine Ls_run (run_assign rfl) rfl ?_
      refine Ls_nil ?_
      refine Jm_seq ?_
      refine St_ret ?_
      refine Jm_then_ret  ?_
      refine Jm_ret1 rfl rfl ?_
      replace hs := hs.erase 0
      simp only [List.cons_append, List.nil_append, List.eraseIdx_cons_zero, List.eraseIdx_cons_succ] at hs
      replace hs := hs.front 3 rfl
      simp only [List.cons_append, List.nil_append, List.eraseIdx_cons_zero, List.eraseIdx_cons_succ] at hs
      replace hs := hs.front 3 rfl
      simp only [List.cons_append, List.nil_append, List.eraseIdx_cons_zero, List.eraseIdx_cons_succ] at hs
      replace hs := hs.front 3 rfl
      simp only [List.cons_append, List.nil_append, List.eraseIdx_cons_zero, List.eraseIdx_cons_succ] at hs
      replace hs := hs.front 3 rfl
      simp only [List.cons_append, List.nil_append, List.eraseIdx_cons_zero, List.eraseIdx_cons_succ] at hs
      have e : rjsave j r n = (80, rjend j r, r) := by unfold rjsave; rw [if_pos (by assumption)]
      rw [e]
      exact ⟨_, rfl, rfl, Sat.jshut (j := rjend j r) hs⟩
    · skip
      have hne : (rjend j r).ended = false := h13
      refine St_skip ?_
      refine Jm_seq ?_
      refine St_seq ?_
      refine St_seq ?_
      refine St_draw (fun x => Below w9.heap.size w9 x) mixed ?_
      intro w14 q15
      have hH := q15.below
      replace hs := hs.quiet q15
      refine An_grow hH ?_
      replace hH := Below.refl w14.heap.size w14
      refine An_take 0 rfl (by kernel_rfl) (by kernel_rfl) (by kernel_rfl) (fun _ _ _ h => h) hH (fun x hx => run_load_agg agg66 inf66 rfl rfl ((hs.grow hx).blk_cells 0 rfl 0 4)) rfl ?_
      refine An_take 1 rfl (by kernel_rfl) (by kernel_rfl) (by kernel_rfl) (fun _ _ _ h => h) hH (fun x hx => run_move rfl) rfl ?_
      refine An_take 2 rfl (by kernel_rfl) (by kernel_rfl) (by kernel_rfl) (fun _ _ _ h => h) hH (fun x hx => run_nilCheck rfl) rfl ?_
      refine An_take 3 rfl (by kernel_rfl) (by kernel_rfl) (by kernel_rfl) (fun _ _ _ h => h) hH (fun x hx => run_as (run_field Try.underlying107 rfl inf3 (by decide) rfl) (show _ = Value.pointer (some ⟨bj, 1, none⟩) from rfl)) rfl ?_
      refine An_take 4 rfl (by kernel_rfl) (by kernel_rfl) (by kernel_rfl) (fun _ _ _ h => h) hH (fun x hx => run_load sc3 rfl ((hs.grow hx).blk_at 1 rfl 1 rfl)) rfl ?_
      refine An_only 5 (by kernel_rfl) rfl ?_
      refine Ls_call Try.func72 nm72 rfl rfl (rRight_c w14 n _ _ _ _ (Sat.rdL0 (pre := [_, _, _, _, _]) hrp hs) (Sat.rdL0 (pre := [_, _, _, _, _]) hrc hs) hzn j.parts) rfl ?_
      rintro v16 w17 ⟨rfl, hsI⟩
      replace hs := hs.trans hsI
      simp only [List.cons_append, List.nil_append] at hs
      replace hH := (hsI.below : Below w14.heap.size w14 w17)
      refine Ls_nil (Jm_An hH ?_)
      refine An_grow hH ?_
      replace hH := Below.refl w17.heap.size w17
      refine An_take 6 rfl (by kernel_rfl) (by kernel_rfl) (by kernel_rfl) (fun _ _ _ h => h) hH (fun x hx => run_not rfl) rfl ?_
      refine An_done (by kernel_rfl) ?_
      refine Jm_seq ?_
      refine St_ifN rfl (fun h18 => ?_) (fun h18 => ?_)
      · skip
        refine St_seq ?_
        refine St_region ?_
        refine Ls_run (run_assign rfl) rfl ?_
        refine Ls_nil ?_
        refine Jm_seq ?_
        refine St_ret ?_
        refine Jm_then_ret  ?_
        refine Jm_ret1 rfl rfl ?_
        replace hs := hs.erase 0
        simp only [List.cons_append, List.nil_append, List.eraseIdx_cons_zero, List.eraseIdx_cons_succ] at hs
        replace hs := hs.front 3 rfl
        simp only [List.cons_append, List.nil_append, List.eraseIdx_cons_zero, List.eraseIdx_cons_succ] at hs
        replace hs := hs.front 3 rfl
        simp only [List.cons_append, List.nil_append, List.eraseIdx_cons_zero, List.eraseIdx_cons_succ] at hs
        replace hs := hs.front 3 rfl
        simp only [List.cons_append, List.nil_append, List.eraseIdx_cons_zero, List.eraseIdx_cons_succ] at hs
        replace hs := hs.front 3 rfl
        simp only [List.cons_append, List.nil_append, List.eraseIdx_cons_zero, List.eraseIdx_cons_succ] at hs
        have e : rjsave j r n = (1, rjend j r, r) := by unfold rjsave; rw [if_neg (by simp [hne]), if_pos (by assumption)]
        rw [e]
        exact ⟨_, rfl, rfl, Sat.jshut (j := rjend j r) hs⟩
      · skip
        have hnok : noteOk n j.parts := h18
        refine St_skip ?_
        refine Jm_seq ?_
        refine St_seq ?_
        refine St_seq ?_
        refine St_region ?_
        refine Ls_run (run_move rfl) rfl ?_
        refine Ls_run (run_load_agg agg66 inf66 rfl rfl (hs.blk_cells 0 rfl 0 4)) rfl ?_
        replace hs := hs.front 3 rfl
        simp only [List.cons_append, List.nil_append, List.eraseIdx_cons_zero, List.eraseIdx_cons_succ] at hs
        replace hs := hs.front 3 rfl
        simp only [List.cons_append, List.nil_append, List.eraseIdx_cons_zero, List.eraseIdx_cons_succ] at hs
        replace hs := hs.front 3 rfl
        simp only [List.cons_append, List.nil_append, List.eraseIdx_cons_zero, List.eraseIdx_cons_succ] at hs
        refine Ls_call Try.func73 nm73 rfl rfl (rfollows_c B w17 _ bj _ (rjend j r) Ap cp Ac cc hs hz hjo.1.1 n Np np Nc nc (fun w' X q => Sat.rdL0 (pre := [_, _, _]) hrp q) (fun w' X q => Sat.rdL0 (pre := [_, _, _]) hrc q) hzn) rfl ?_
        rintro v19 w20 ⟨rfl, hs⟩
        refine Ls_run (run_not rfl) rfl ?_
        refine Ls_nil ?_
        refine Jm_seq ?_
        refine St_ifN rfl (fun h21 => ?_) (fun h21 => ?_)
        · skip
          have hnf : ¬ follows j.n n := h21
          refine St_seq ?_
          refine St_region ?_
          refine Ls_run (run_assign rfl) rfl ?_
          refine Ls_nil ?_
          refine Jm_seq ?_
          refine St_ret ?_
          refine Jm_then_ret  ?_
          refine Jm_ret1 rfl rfl ?_
          replace hs := hs.erase 3
          simp only [List.cons_append, List.nil_append, List.eraseIdx_cons_zero, List.eraseIdx_cons_succ] at hs
          replace hs := hs.front 3 rfl
          simp only [List.cons_append, List.nil_append, List.eraseIdx_cons_zero, List.eraseIdx_cons_succ] at hs
          replace hs := hs.front 3 rfl
          simp only [List.cons_append, List.nil_append, List.eraseIdx_cons_zero, List.eraseIdx_cons_succ] at hs
          replace hs := hs.front 3 rfl
          simp only [List.cons_append, List.nil_append, List.eraseIdx_cons_zero, List.eraseIdx_cons_succ] at hs
          replace hs := hs.front 3 rfl
          simp only [List.cons_append, List.nil_append, List.eraseIdx_cons_zero, List.eraseIdx_cons_succ] at hs
          have e : rjsave j r n = (7, rjend j r, r) := by unfold rjsave; rw [if_neg (by simp [hne]), if_neg (by simpa using hnok), if_pos hnf]
          rw [e]
          exact ⟨_, rfl, rfl, Sat.jshut (j := rjend j r) hs⟩
        · skip
          have hfo : follows j.n n := h21
          refine St_skip ?_
          refine Jm_seq ?_
          refine St_seq ?_
          refine St_seq ?_
          refine St_region ?_
          refine Ls_run (run_move rfl) rfl ?_
          refine Ls_run (run_nilCheck rfl) rfl ?_
          refine Ls_run (run_as (run_field Try.underlying107 rfl inf3 (by decide) rfl) (show _ = Value.pointer (some ⟨bj, 6, none⟩) from rfl)) rfl ?_
          refine Ls_run (run_load sc3 rfl (hs.blk_at 0 rfl 6 rfl)) rfl ?_
          refine Ls_run (run_geq rfl rfl) rfl ?_
          refine Ls_nil ?_
          refine Jm_seq ?_
          refine St_ifP rfl (fun h22 => ?_) (fun h22 => ?_)
          · skip
            refine St_seq ?_
            refine St_region ?_
            refine Ls_run (run_assign rfl) rfl ?_
            refine Ls_nil ?_
            refine Jm_seq ?_
            refine St_ret ?_
            refine Jm_then_ret  ?_
            refine Jm_ret1 rfl rfl ?_
            replace hs := hs.erase 3
            simp only [List.cons_append, List.nil_append, List.eraseIdx_cons_zero, List.eraseIdx_cons_succ] at hs
            replace hs := hs.front 3 rfl
            simp only [List.cons_append, List.nil_append, List.eraseIdx_cons_zero, List.eraseIdx_cons_succ] at hs
            replace hs := hs.front 3 rfl
            simp only [List.cons_append, List.nil_append, List.eraseIdx_cons_zero, List.eraseIdx_cons_succ] at hs
            replace hs := hs.front 3 rfl
            simp only [List.cons_append, List.nil_append, List.eraseIdx_cons_zero, List.eraseIdx_cons_succ] at hs
            replace hs := hs.front 3 rfl
            simp only [List.cons_append, List.nil_append, List.eraseIdx_cons_zero, List.eraseIdx_cons_succ] at hs
            have e : rjsave j r n = (92, rjend j r, r) := by unfold rjsave; rw [if_neg (by simp [hne]), if_neg (by simpa using hnok), if_neg (by simpa using hfo), if_pos (by omega)]
            rw [e]
            exact ⟨_, rfl, rfl, Sat.jshut (j := rjend j r) hs⟩
          · skip
            refine St_skip ?_
            refine Jm_seq ?_
            refine St_seq ?_
            refine St_seq ?_
            replace hs := hs.front 3 rfl
            simp only [List.cons_append, List.nil_append, List.eraseIdx_cons_zero, List.eraseIdx_cons_succ] at hs
            replace hs := hs.front 1 rfl
            simp only [List.cons_append, List.nil_append, List.eraseIdx_cons_zero, List.eraseIdx_cons_succ] at hs
            refine St_hold (Hold.of (Ls := [_, _]) hs) mixed ?_
            intro w23 q24
            replace hs := hs.quiet q24
            have hH := Hold.of (Ls := [_, _]) hs
            refine An_take 0 rfl (by kernel_rfl) (by kernel_rfl) (by kernel_rfl) (fun _ _ _ h => h) hH (fun x hx => run_move rfl) rfl ?_
            refine An_take 1 rfl (by kernel_rfl) (by kernel_rfl) (by kernel_rfl) (fun _ _ _ h => h) hH (fun x hx => run_nilCheck rfl) rfl ?_
            refine An_take 2 rfl (by kernel_rfl) (by kernel_rfl) (by kernel_rfl) (fun _ _ _ h => h) hH (fun x hx => run_as (run_field Try.underlying107 rfl inf47 (by decide) rfl) (show _ = Value.pointer (some ⟨bj, 0, none⟩) from rfl)) rfl ?_
            refine An_take 3 rfl (by kernel_rfl) (by kernel_rfl) (by kernel_rfl) (fun _ _ _ h => h) hH (fun x hx => run_load sc47 rfl (hx.choose_spec.blk_at 0 rfl 0 rfl)) rfl ?_
            refine An_take 4 rfl (by kernel_rfl) (by kernel_rfl) (by kernel_rfl) (fun _ _ _ h => h) hH (fun x hx => run_move rfl) rfl ?_
            refine An_take 5 rfl (by kernel_rfl) (by kernel_rfl) (by kernel_rfl) (fun _ _ _ h => h) hH (fun x hx => run_nilCheck rfl) rfl ?_
            refine An_take 6 rfl (by kernel_rfl) (by kernel_rfl) (by kernel_rfl) (fun _ _ _ h => h) hH (fun x hx => run_as (run_field Try.underlying107 rfl inf3 (by decide) rfl) (show _ = Value.pointer (some ⟨bj, 7, none⟩) from rfl)) rfl ?_
            refine An_take 7 rfl (by kernel_rfl) (by kernel_rfl) (by kernel_rfl) (fun _ _ _ h => h) hH (fun x hx => run_load sc3 rfl (hx.choose_spec.blk_at 0 rfl 7 rfl)) rfl ?_
            refine An_take 8 rfl (by kernel_rfl) (by kernel_rfl) (by kernel_rfl) (fun _ _ _ h => h) hH (fun x hx => run_sub rfl rfl (show _ = 1 - j.slot by rw [es, w64 (by omega)])) rfl ?_
            refine An_take 9 rfl (by kernel_rfl) (by kernel_rfl) (by kernel_rfl) (fun _ _ _ h => h) hH (fun x hx => run_move rfl) rfl ?_
            refine An_take 10 rfl (by kernel_rfl) (by kernel_rfl) (by kernel_rfl) (fun _ _ _ h => h) hH (fun x hx => run_nilCheck rfl) rfl ?_
            refine An_take 11 rfl (by kernel_rfl) (by kernel_rfl) (by kernel_rfl) (fun _ _ _ h => h) hH (fun x hx => run_as (run_field Try.underlying107 rfl inf3 (by decide) rfl) (show _ = Value.pointer (some ⟨bj, 6, none⟩) from rfl)) rfl ?_
            refine An_take 12 rfl (by kernel_rfl) (by kernel_rfl) (by kernel_rfl) (fun _ _ _ h => h) hH (fun x hx => run_load sc3 rfl (hx.choose_spec.blk_at 0 rfl 6 rfl)) rfl ?_
            refine An_take 13 rfl (by kernel_rfl) (by kernel_rfl) (by kernel_rfl) (fun _ _ _ h => h) hH (fun x hx => run_add rfl rfl (show _ = j.gen + 1 by rw [eg, w64 (by omega)])) rfl ?_
            refine An_take 14 rfl (by kernel_rfl) (by kernel_rfl) (by kernel_rfl) (fun _ _ _ h => h) hH (fun x hx => run_load_agg agg66 inf66 rfl rfl (hx.choose_spec.blk_cells 1 rfl 0 4)) rfl ?_
            refine An_only 15 (by kernel_rfl) rfl ?_
            refine Ls_call Try.func71 nm71 rfl rfl (rBytes_c w23 n _ _ _ _ (Sat.rdL0 (pre := [_, _, _, _, _]) hrp hs) (Sat.rdL0 (pre := [_, _, _, _, _]) hrc hs) (by have := noteOk_len hnok; omega) (j.gen + 1) j.parts hnok hjo.2.2.1 (by omega)) rfl ?_
            rintro v25 w26 ⟨Ab, cb, rfl, hsB⟩
            replace hs := hs.trans hsB
            simp only [List.cons_append, List.nil_append] at hs
            have hnl := nbytes_len hnok hjo.2.2.1 (gen := j.gen + 1) (by omega)
            obtain ⟨nb, hnb⟩ : ∃ q, q = nbytes (j.gen + 1) n := ⟨_, rfl⟩
            rw [← hnb] at hs hnl ⊢
            replace hs := hs.front 2 rfl
            simp only [List.cons_append, List.nil_append, List.eraseIdx_cons_zero, List.eraseIdx_cons_succ] at hs
            replace hs := hs.front 2 rfl
            simp only [List.cons_append, List.nil_append, List.eraseIdx_cons_zero, List.eraseIdx_cons_succ] at hs
            replace hH := Hold.of (Ls := [_, _]) hs
            refine Ls_nil (Jm_An hH ?_)
            refine An_only 16 (by kernel_rfl) rfl ?_
            replace hs := hs.front 5 rfl
            simp only [List.cons_append, List.nil_append, List.eraseIdx_cons_zero, List.eraseIdx_cons_succ] at hs
            refine Ls_call Try.func59 nm59 rfl rfl (rWrite_c B w26 _ b r hs hdr.rows ⟨hdr.1.2.2.2.2.1, hdr.2.2.2⟩ (1 - j.slot) Ab nb.length cb nb (fun w' X q => q.rd_at 3 rfl) (by omega)) rfl ?_
            rintro v27 w28 ⟨rfl, hs⟩
            obtain ⟨⟨e2, r2⟩, hw2⟩ : ∃ q, rwrite r (1 - j.slot) nb = q := ⟨_, rfl⟩
            simp only [hw2] at hs ⊢
            replace hs := hs.front 2 rfl
            simp only [List.cons_append, List.nil_append, List.eraseIdx_cons_zero, List.eraseIdx_cons_succ] at hs
            replace hs := hs.front 2 rfl
            simp only [List.cons_append, List.nil_append, List.eraseIdx_cons_zero, List.eraseIdx_cons_succ] at hs
            replace hH := Hold.of (Ls := [_, _]) hs
            refine Ls_nil (Jm_An hH ?_)
            refine An_take 17 rfl (by kernel_rfl) (by kernel_rfl) (by kernel_rfl) (fun _ _ _ h => h) hH (fun x hx => run_assign rfl) rfl ?_
            refine An_done (by kernel_rfl) ?_
            refine Jm_seq ?_
            refine St_seq ?_
            refine St_region ?_
            refine Ls_run (run_move rfl) rfl ?_
            refine Ls_run (run_neq rfl rfl) rfl ?_
            refine Ls_nil ?_
            refine Jm_seq ?_
            refine St_ifP rfl (fun h29 => ?_) (fun h29 => ?_)
            · skip
              refine St_seq ?_
              refine St_region ?_
              refine Ls_run (run_move rfl) rfl ?_
              refine Ls_run (run_nilCheck rfl) rfl ?_
              refine Ls_run (run_as (run_field Try.underlying107 rfl inf4 (by decide) rfl) (show _ = Value.pointer (some ⟨bj, 8, none⟩) from rfl)) rfl ?_
              refine Ls_store hs inf4 rfl rfl rfl rfl ?_
              intro w30 hs
              try simp only [List.set_cons_zero, List.set_cons_succ] at hs
              refine Ls_nil ?_
              refine Jm_seq ?_
              refine St_seq ?_
              refine St_region ?_
              refine Ls_run (run_move rfl) rfl ?_
              refine Ls_run (run_assign rfl) rfl ?_
              refine Ls_nil ?_
              refine Jm_seq ?_
              refine St_ret ?_
              refine Jm_then_ret  ?_
              refine Jm_ret1 rfl rfl ?_
              replace hs := hs.erase 1
              simp only [List.cons_append, List.nil_append, List.eraseIdx_cons_zero, List.eraseIdx_cons_succ] at hs
              replace hs := hs.erase 2
              simp only [List.cons_append, List.nil_append, List.eraseIdx_cons_zero, List.eraseIdx_cons_succ] at hs
              replace hs := hs.front 1 rfl
              simp only [List.cons_append, List.nil_append, List.eraseIdx_cons_zero, List.eraseIdx_cons_succ] at hs
              replace hs := hs.front 3 rfl
              simp only [List.cons_append, List.nil_append, List.eraseIdx_cons_zero, List.eraseIdx_cons_succ] at hs
              replace hs := hs.front 3 rfl
              simp only [List.cons_append, List.nil_append, List.eraseIdx_cons_zero, List.eraseIdx_cons_succ] at hs
              replace hs := hs.front 3 rfl
              simp only [List.cons_append, List.nil_append, List.eraseIdx_cons_zero, List.eraseIdx_cons_succ] at hs
              have e : rjsave j r n = (e2, { rjend j r with ended := true }, r2) := by unfold rjsave; rw [if_neg (by simp [hne]), if_neg (by simpa using hnok), if_neg (by simpa using hfo), if_neg (by omega), ← hnb, hw2, if_pos (by assumption)]
              rw [e]
              exact ⟨_, rfl, rfl, Sat.jshut (j := { rjend j r with ended := true }) hs⟩
            · skip
              refine St_skip ?_
              refine Jm_seq ?_
              refine St_seq ?_
              refine St_region ?_
              refine Ls_run (run_move rfl) rfl ?_
              refine Ls_run (run_load_agg agg66 inf66 rfl rfl (hs.blk_cells 1 rfl 0 4)) rfl ?_
              refine Ls_call Try.func74 nm74 rfl rfl (rCopied_c w28 n _ _ _ _ (Sat.rdL0 (pre := [_, _, _, _, _, _]) hrp hs) (Sat.rdL0 (pre := [_, _, _, _, _, _]) hrc hs) (by have := noteOk_len hnok; omega)) rfl ?_
              rintro v31 w32 ⟨Aq, cq, Ar, cr, rfl, hsC⟩
              replace hs := hs.trans hsC
              simp only [List.cons_append, List.nil_append] at hs
              refine Ls_run (run_nilCheck rfl) rfl ?_
              refine Ls_run (run_as (run_field Try.underlying107 rfl inf66 (by decide) rfl) (show _ = Value.pointer (some ⟨bj, 2, none⟩) from rfl)) rfl ?_
              replace hs := hs.front 2 rfl
              simp only [List.cons_append, List.nil_append, List.eraseIdx_cons_zero, List.eraseIdx_cons_succ] at hs
              refine Ls_storeAggAt hs inf66 rfl rfl rfl (by first | decide | exact Nat.le_of_ble_eq_true rfl) (by simp [Value.oneCell', Value.cells, jcells]) ?_
              intro w33 hs
              simp only [jcells, ncells, Nat.reduceAdd, Nat.zero_add, List.take_succ_cons, List.take_zero, List.drop_succ_cons, List.drop_zero, List.cons_append, List.nil_append] at hs
              refine Ls_nil ?_
              refine Jm_seq ?_
              refine St_seq ?_
              refine St_region ?_
              refine Ls_run (run_move rfl) rfl ?_
              refine Ls_run (run_nilCheck rfl) rfl ?_
              refine Ls_run (run_as (run_field Try.underlying107 rfl inf3 (by decide) rfl) (show _ = Value.pointer (some ⟨bj, 6, none⟩) from rfl)) rfl ?_
              refine Ls_run (run_load sc3 rfl (hs.blk_at 0 rfl 6 rfl)) rfl ?_
              refine Ls_run (run_add rfl rfl (show _ = j.gen + 1 by rw [eg, w64 (by omega)])) rfl ?_
              refine Ls_run (run_nilCheck rfl) rfl ?_
              refine Ls_run (run_as (run_field Try.underlying107 rfl inf3 (by decide) rfl) (show _ = Value.pointer (some ⟨bj, 6, none⟩) from rfl)) rfl ?_
              refine Ls_store hs inf3 rfl rfl rfl rfl ?_
              intro w34 hs
              try simp only [List.set_cons_zero, List.set_cons_succ] at hs
              refine Ls_nil ?_
              refine Jm_seq ?_
              refine St_seq ?_
              refine St_region ?_
              refine Ls_run (run_move rfl) rfl ?_
              refine Ls_run (run_move rfl) rfl ?_
              refine Ls_run (run_nilCheck rfl) rfl ?_
              refine Ls_run (run_as (run_field Try.underlying107 rfl inf3 (by decide) rfl) (show _ = Value.pointer (some ⟨bj, 7, none⟩) from rfl)) rfl ?_
              refine Ls_run (run_load sc3 rfl (hs.blk_at 0 rfl 7 rfl)) rfl ?_
              refine Ls_run (run_sub rfl rfl (show _ = 1 - j.slot by rw [es, w64 (by omega)])) rfl ?_
              refine Ls_run (run_nilCheck rfl) rfl ?_
              refine Ls_run (run_as (run_field Try.underlying107 rfl inf3 (by decide) rfl) (show _ = Value.pointer (some ⟨bj, 7, none⟩) from rfl)) rfl ?_
              refine Ls_store hs inf3 rfl rfl rfl rfl ?_
              intro w35 hs
              try simp only [List.set_cons_zero, List.set_cons_succ] at hs
              refine Ls_nil ?_
              refine Jm_seq ?_
              refine St_seq ?_
              refine St_region ?_
              refine Ls_run (run_assign rfl) rfl ?_
              refine Ls_nil ?_
              refine Jm_seq ?_
              refine St_ret ?_
              refine Jm_ret1 rfl rfl ?_
              replace hs := hs.erase 3
              simp only [List.cons_append, List.nil_append, List.eraseIdx_cons_zero, List.eraseIdx_cons_succ] at hs
              replace hs := hs.erase 4
              simp only [List.cons_append, List.nil_append, List.eraseIdx_cons_zero, List.eraseIdx_cons_succ] at hs
              replace hs := hs.erase 4
              simp only [List.cons_append, List.nil_append, List.eraseIdx_cons_zero, List.eraseIdx_cons_succ] at hs
              replace hs := hs.erase 4
              simp only [List.cons_append, List.nil_append, List.eraseIdx_cons_zero, List.eraseIdx_cons_succ] at hs
              replace hs := hs.front 3 rfl
              simp only [List.cons_append, List.nil_append, List.eraseIdx_cons_zero, List.eraseIdx_cons_succ] at hs
              replace hs := hs.front 3 rfl
              simp only [List.cons_append, List.nil_append, List.eraseIdx_cons_zero, List.eraseIdx_cons_succ] at hs
              replace hs := hs.front 3 rfl
              simp only [List.cons_append, List.nil_append, List.eraseIdx_cons_zero, List.eraseIdx_cons_succ] at hs
              replace hs := hs.front 3 rfl
              simp only [List.cons_append, List.nil_append, List.eraseIdx_cons_zero, List.eraseIdx_cons_succ] at hs
              have e : rjsave j r n = (0, { rjend j r with n := n, gen := j.gen + 1, slot := 1 - j.slot }, r2) := by unfold rjsave; rw [if_neg (by simp [hne]), if_neg (by simpa using hnok), if_neg (by simpa using hfo), if_neg (by omega), ← hnb, hw2, if_neg (by assumption)]
              rw [e]
              exact ⟨_, rfl, rfl, Sat.jshut (j := { rjend j r with n := n, gen := j.gen + 1, slot := 1 - j.slot }) hs⟩
set_option maxRecDepth 100000 in
set_option maxHeartbeats 1000000 in
theorem rSave_nil (w : World) (x : Int) (A : Option Addr) (n c : Nat) (A2 : Option Addr) (n2 c2 : Nat) (y : Int) :
    Calls Try.prog 39 [.pointer none, .agg #[.int .i64 x, .slice A n c, .slice A2 n2 c2, .int .i64 y]].toArray w (Ret (fun v' w' => v' = .int .i64 2 ∧ Sat w w' [])) := by
  have hs := Sat.start w
  refine Calls_body Try.func39 rfl rfl rfl (envE_cons (i := 0) (v := .pointer none) rfl (envE_cons (i := 1) (v := .agg #[.int .i64 x, .slice A n c, .slice A2 n2 c2, .int .i64 y]) rfl envE_nil)) ?_
  refine St_seq ?_
  refine St_region ?_
  refine Ls_box hs rfl rfl ?_
  intro b2 w1 hs
  refine Ls_run (run_assign rfl) rfl ?_
  refine Ls_nil ?_
  refine Jm_seq ?_
  refine St_seq ?_
  refine St_seq ?_
  refine St_region ?_
  refine Ls_run (run_move rfl) rfl ?_
  refine Ls_run (run_asB (c := true) (run_eql_ptr_nil Try.underlying76 rfl rfl) rfl) rfl ?_
  refine Ls_nil ?_
  refine Jm_seq ?_
  refine St_ift rfl ?_
  refine St_seq ?_
  refine St_region ?_
  refine Ls_run (run_assign rfl) rfl ?_
  refine Ls_nil ?_
  refine Jm_seq ?_
  refine St_ret ?_
  refine Jm_then_ret  ?_
  refine Jm_ret1 rfl rfl ?_
  exact ⟨_, rfl, rfl, hs.forget⟩
set_option maxRecDepth 100000 in
set_option maxHeartbeats 1000000 in
theorem Save_nil (w : World) (x : Int) (A : Option Addr) (n c : Nat) (A2 : Option Addr) (n2 c2 : Nat) (y : Int) :
    Calls Try.prog 35 [.pointer none, .agg #[.int .i64 x, .slice A n c, .slice A2 n2 c2, .int .i64 y]].toArray w (Ret (fun v' w' => v' = .int .i64 2 ∧ Sat w w' [])) := by
  have hs := Sat.start w
  refine Calls_body Try.func35 rfl rfl rfl (envE_cons (i := 0) (v := .pointer none) rfl (envE_cons (i := 1) (v := .agg #[.int .i64 x, .slice A n c, .slice A2 n2 c2, .int .i64 y]) rfl envE_nil)) ?_
  refine St_seq ?_
  refine St_region ?_
  refine Ls_box hs rfl rfl ?_
  intro b2 w1 hs
  refine Ls_run (run_assign rfl) rfl ?_
  refine Ls_nil ?_
  refine Jm_seq ?_
  refine St_seq ?_
  refine St_seq ?_
  refine St_region ?_
  refine Ls_run (run_move rfl) rfl ?_
  refine Ls_run (run_asB (c := true) (run_eql_ptr_nil Try.underlying59 rfl rfl) rfl) rfl ?_
  refine Ls_nil ?_
  refine Jm_seq ?_
  refine St_ift rfl ?_
  refine St_seq ?_
  refine St_region ?_
  refine Ls_run (run_assign rfl) rfl ?_
  refine Ls_nil ?_
  refine Jm_seq ?_
  refine St_ret ?_
  refine Jm_then_ret  ?_
  refine Jm_ret1 rfl rfl ?_
  exact ⟨_, rfl, rfl, hs.forget⟩
set_option maxRecDepth 100000 in
set_option maxHeartbeats 1000000 in
theorem jFormat_nil (w : World) (parts : Int) :
    Calls Try.prog 32 [.pointer none, .int .i64 parts].toArray w (Ret (fun v' w' => w = w' ∧ v' = .tuple #[.pointer none, .int .i64 2])) := by
  refine Calls_body Try.func32 rfl rfl rfl (envE_cons (i := 0) (v := .pointer none) rfl (envE_cons (i := 1) (v := .int .i64 parts) rfl envE_nil)) ?_
  refine St_seq ?_
  refine St_region ?_
  refine Ls_run (run_assign rfl) rfl ?_
  refine Ls_run (run_assign rfl) rfl ?_
  refine Ls_nil ?_
  refine Jm_seq ?_
  refine St_seq ?_
  refine St_seq ?_
  refine St_region ?_
  refine Ls_run (run_move rfl) rfl ?_
  refine Ls_run (run_move rfl) rfl ?_
  refine Ls_call Try.func65 nm65 rfl rfl (jcheck_nil w parts) rfl ?_
  rintro v1 w2 ⟨rfl, rfl⟩
  refine Ls_run (run_assign rfl) rfl ?_
  refine Ls_nil ?_
  refine Jm_seq ?_
  refine St_seq ?_
  refine St_region ?_
  refine Ls_run (run_move rfl) rfl ?_
  refine Ls_run (run_asB (c := true) (run_neq rfl rfl) (by decide)) rfl ?_
  refine Ls_nil ?_
  refine Jm_seq ?_
  refine St_ift rfl ?_
  refine St_seq ?_
  refine St_region ?_
  refine Ls_run (run_move rfl) rfl ?_
  refine Ls_run (run_assign rfl) rfl ?_
  refine Ls_run (run_assign rfl) rfl ?_
  refine Ls_nil ?_
  refine Jm_seq ?_
  refine St_ret ?_
  refine Jm_then_ret  ?_
  refine Jm_ret2 rfl rfl rfl ?_
  exact ⟨_, rfl, rfl, rfl⟩
set_option maxRecDepth 100000 in
set_option maxHeartbeats 1000000 in
theorem jOpen_nil (w : World) (parts : Int) :
    Calls Try.prog 37 [.pointer none, .int .i64 parts].toArray w (Ret (fun v' w' => w = w' ∧ v' = .tuple #[.pointer none, .int .i64 2])) := by
  refine Calls_body Try.func37 rfl rfl rfl (envE_cons (i := 0) (v := .pointer none) rfl (envE_cons (i := 1) (v := .int .i64 parts) rfl envE_nil)) ?_
  refine St_seq ?_
  refine St_region ?_
  refine Ls_run (run_assign rfl) rfl ?_
  refine Ls_run (run_assign rfl) rfl ?_
  refine Ls_nil ?_
  refine Jm_seq ?_
  refine St_seq ?_
  refine St_seq ?_
  refine St_region ?_
  refine Ls_run (run_move rfl) rfl ?_
  refine Ls_run (run_move rfl) rfl ?_
  refine Ls_call Try.func65 nm65 rfl rfl (jcheck_nil w parts) rfl ?_
  rintro v1 w2 ⟨rfl, rfl⟩
  refine Ls_run (run_assign rfl) rfl ?_
  refine Ls_nil ?_
  refine Jm_seq ?_
  refine St_seq ?_
  refine St_region ?_
  refine Ls_run (run_move rfl) rfl ?_
  refine Ls_run (run_asB (c := true) (run_neq rfl rfl) (by decide)) rfl ?_
  refine Ls_nil ?_
  refine Jm_seq ?_
  refine St_ift rfl ?_
  refine St_seq ?_
  refine St_region ?_
  refine Ls_run (run_move rfl) rfl ?_
  refine Ls_run (run_assign rfl) rfl ?_
  refine Ls_run (run_assign rfl) rfl ?_
  refine Ls_nil ?_
  refine Jm_seq ?_
  refine St_ret ?_
  refine Jm_then_ret  ?_
  refine Jm_ret2 rfl rfl rfl ?_
  exact ⟨_, rfl, rfl, rfl⟩
end Go.Proofs.Ytpmkedgennnekaa.Lg
