/-
  The journal's check, Ended, Note, follows, Format. By program (gen/jour2.py).
-/
import Derived.Test.YtpmkedgennnekaaJour1
set_option linter.unusedVariables false
set_option linter.unusedSimpArgs false
namespace Go.Proofs.Ytpmkedgennnekaa.Lg
open Go Go.RowKit Go.Proofs.Ytpmkedgennnekaa.WirePure
theorem bytes_e (w : World) (n : NSt) (Ap : Option Addr) (cp : Nat) (Ac : Option Addr) (cc lp lc : Nat) (h1 : n.prev.length = lp) (h2 : n.cur.length = lc) (hrp : Rd w Ap lp cp 1 (KI.flat n.prev)) (hrc : Rd w Ac lc cc 1 (KI.flat n.cur)) (hz : lp ≤ 1073741824 ∧ lc ≤ 1073741824) (b a gen parts : Int) (hb : n.batch = b) (ha : n.att = a) (hok : noteOk n parts) (hp4 : parts ≤ 4) (hg : 0 ≤ gen ∧ gen ≤ 1099511627777) :
    Calls Try.prog 66 [.agg #[.int .i64 b, .slice Ap lp cp, .slice Ac lc cc, .int .i64 a, .int .i64 gen]].toArray w (Ret (fun v' w' => ∃ A c, v' = .slice A (nbytes gen n).length c ∧ Sat w w' [Own 5 1 (.slice A (nbytes gen n).length c) (nbytes gen n).length (bytesV (nbytes gen n))])) := by
  subst h1 h2 hb ha
  exact bytes_c w n Ap cp Ac cc hrp hrc hz gen parts hok hp4 hg
set_option maxRecDepth 100000 in
set_option maxHeartbeats 1000000 in
theorem jcheck_c (w : World) (b : Nat) (parts : Int) :
    Calls Try.prog 65 [.pointer (some ⟨b, 0, none⟩), .int .i64 parts].toArray w (Ret (fun v' w' => w = w' ∧ v' = .int .i64 (if parts < 1 ∨ 4 < parts then 1 else 0))) := by
  refine Calls_body Try.func65 rfl rfl rfl (envE_cons (i := 0) (v := .pointer (some ⟨b, 0, none⟩)) rfl (envE_cons (i := 1) (v := .int .i64 parts) rfl envE_nil)) ?_
  refine St_seq ?_
  refine St_region ?_
  refine Ls_run (run_assign rfl) rfl ?_
  refine Ls_nil ?_
  refine Jm_seq ?_
  refine St_seq ?_
  refine St_block ?_
  refine St_seq ?_
  refine St_region ?_
  refine Ls_run (run_move rfl) rfl ?_
  refine Ls_run (run_asB (c := false) (run_eql_ptr_nil Try.underlying24 rfl rfl) rfl) rfl ?_
  refine Ls_run (run_assign rfl) rfl ?_
  refine Ls_nil ?_
  refine Jm_seq ?_
  refine St_iff rfl ?_
  refine St_seq ?_
  refine St_region ?_
  refine Ls_run (run_move rfl) rfl ?_
  refine Ls_run (run_lss rfl rfl) rfl ?_
  refine Ls_run (run_move rfl) rfl ?_
  refine Ls_partP (t := 11) rfl (fun h2 => ?_) (fun h2 => ?_)
  · skip
    refine Ls_off rfl rfl rfl rfl ?_
    refine Ls_off rfl rfl rfl rfl ?_
    refine Ls_run (run_pick_t rfl rfl) rfl ?_
    refine Ls_run (run_assign rfl) rfl ?_
    refine Ls_nil ?_
    refine Jm_seq ?_
    refine St_ift rfl ?_
    refine St_seq ?_
    refine St_region ?_
    refine Ls_run (run_assign rfl) rfl ?_
    refine Ls_nil ?_
    refine Jm_seq ?_
    refine St_ret ?_
    refine Jm_block_ret (Jm_then_ret  ?_)
    refine Jm_ret1 rfl rfl ?_
    first | (rw [if_pos (by omega)]; exact ⟨_, rfl, rfl, rfl⟩) | (rw [if_neg (by omega)]; exact ⟨_, rfl, rfl, rfl⟩)
  · skip
    refine Ls_on rfl rfl ?_
    refine Ls_run (run_move rfl) rfl ?_
    refine Ls_on rfl rfl ?_
    refine Ls_run (run_gtr rfl rfl) rfl ?_
    refine Ls_run (run_pick_f rfl rfl) rfl ?_
    refine Ls_run (run_assign rfl) rfl ?_
    refine Ls_nil ?_
    refine Jm_seq ?_
    refine St_ifP rfl (fun h4 => ?_) (fun h4 => ?_)
    · skip
      refine St_seq ?_
      refine St_region ?_
      refine Ls_run (run_assign rfl) rfl ?_
      refine Ls_nil ?_
      refine Jm_seq ?_
      refine St_ret ?_
      refine Jm_block_ret (Jm_then_ret  ?_)
      refine Jm_ret1 rfl rfl ?_
      first | (rw [if_pos (by omega)]; exact ⟨_, rfl, rfl, rfl⟩) | (rw [if_neg (by omega)]; exact ⟨_, rfl, rfl, rfl⟩)
    · skip
      refine St_skip ?_
      refine Jm_block_normal (Jm_seq ?_)
      refine St_seq ?_
      refine St_region ?_
      refine Ls_run (run_assign rfl) rfl ?_
      refine Ls_nil ?_
      refine Jm_seq ?_
      refine St_ret ?_
      refine Jm_ret1 rfl rfl ?_
      first | (rw [if_pos (by omega)]; exact ⟨_, rfl, rfl, rfl⟩) | (rw [if_neg (by omega)]; exact ⟨_, rfl, rfl, rfl⟩)
set_option maxRecDepth 100000 in
set_option maxHeartbeats 1000000 in
theorem jcheck_nil (w : World) (parts : Int) :
    Calls Try.prog 65 [.pointer none, .int .i64 parts].toArray w (Ret (fun v' w' => w = w' ∧ v' = .int .i64 2)) := by
  refine Calls_body Try.func65 rfl rfl rfl (envE_cons (i := 0) (v := .pointer none) rfl (envE_cons (i := 1) (v := .int .i64 parts) rfl envE_nil)) ?_
  refine St_seq ?_
  refine St_region ?_
  refine Ls_run (run_assign rfl) rfl ?_
  refine Ls_nil ?_
  refine Jm_seq ?_
  refine St_seq ?_
  refine St_block ?_
  refine St_seq ?_
  refine St_region ?_
  refine Ls_run (run_move rfl) rfl ?_
  refine Ls_run (run_asB (c := true) (run_eql_ptr_nil Try.underlying24 rfl rfl) rfl) rfl ?_
  refine Ls_run (run_assign rfl) rfl ?_
  refine Ls_nil ?_
  refine Jm_seq ?_
  refine St_ift rfl ?_
  refine St_seq ?_
  refine St_region ?_
  refine Ls_run (run_assign rfl) rfl ?_
  refine Ls_nil ?_
  refine Jm_seq ?_
  refine St_ret ?_
  refine Jm_block_ret (Jm_then_ret  ?_)
  refine Jm_ret1 rfl rfl ?_
  exact ⟨_, rfl, rfl, rfl⟩
set_option maxRecDepth 100000 in
set_option maxHeartbeats 1000000 in
theorem Ended_c (w : World) (bj : Nat) (p : Option Addr) (j : JSt) (Ap : Option Addr) (cp : Nat) (Ac : Option Addr) (cc : Nat) (hd : w.heap[bj]? = some (.cells (jcells p j Ap cp Ac cc).toArray 98 (0, 0))) :
    Calls Try.prog 45 [.pointer (some ⟨bj, 0, none⟩)].toArray w (Ret (fun v' w' => w = w' ∧ v' = .bool j.ended)) := by
  have hs := Sat.ofBlk hd
  refine Calls_body Try.func45 rfl rfl rfl (envE_cons (i := 0) (v := .pointer (some ⟨bj, 0, none⟩)) rfl envE_nil) ?_
  refine St_seq ?_
  refine St_region ?_
  refine Ls_run (run_assign rfl) rfl ?_
  refine Ls_nil ?_
  refine Jm_seq ?_
  refine St_seq ?_
  refine St_region ?_
  refine Ls_run (run_move rfl) rfl ?_
  refine Ls_run (run_asB (c := true) (run_neq_ptr_nil Try.underlying59 rfl rfl) rfl) rfl ?_
  refine Ls_run (run_move rfl) rfl ?_
  refine Ls_on rfl rfl ?_
  refine Ls_run (run_move rfl) rfl ?_
  refine Ls_on rfl rfl ?_
  refine Ls_run (run_nilCheck rfl) rfl ?_
  refine Ls_on rfl rfl ?_
  refine Ls_run (run_as (run_field Try.underlying98 rfl inf4 (by decide) rfl) (show _ = Value.pointer (some ⟨bj, 8, none⟩) from rfl)) rfl ?_
  refine Ls_on rfl rfl ?_
  refine Ls_run (run_load sc4 rfl (hs.blk_at 0 rfl 8 rfl)) rfl ?_
  refine Ls_run (run_pick_t rfl rfl) rfl ?_
  refine Ls_run (run_assign rfl) rfl ?_
  refine Ls_nil ?_
  refine Jm_seq ?_
  refine St_ret ?_
  refine Jm_ret1 rfl rfl ?_
  exact ⟨_, rfl, rfl, rfl⟩
set_option maxRecDepth 100000 in
set_option maxHeartbeats 1000000 in
theorem Ended_nil (w : World) :
    Calls Try.prog 45 [.pointer none].toArray w (Ret (fun v' w' => w = w' ∧ v' = .bool false)) := by
  refine Calls_body Try.func45 rfl rfl rfl (envE_cons (i := 0) (v := .pointer none) rfl envE_nil) ?_
  refine St_seq ?_
  refine St_region ?_
  refine Ls_run (run_assign rfl) rfl ?_
  refine Ls_nil ?_
  refine Jm_seq ?_
  refine St_seq ?_
  refine St_region ?_
  refine Ls_run (run_move rfl) rfl ?_
  refine Ls_run (run_asB (c := false) (run_neq_ptr_nil Try.underlying59 rfl rfl) rfl) rfl ?_
  refine Ls_run (run_move rfl) rfl ?_
  refine Ls_off rfl rfl rfl rfl ?_
  refine Ls_off rfl rfl rfl rfl ?_
  refine Ls_off rfl rfl rfl rfl ?_
  refine Ls_off rfl rfl rfl rfl ?_
  refine Ls_run (run_pick_f rfl rfl) rfl ?_
  refine Ls_run (run_assign rfl) rfl ?_
  refine Ls_nil ?_
  refine Jm_seq ?_
  refine St_ret ?_
  refine Jm_ret1 rfl rfl ?_
  exact ⟨_, rfl, rfl, rfl⟩
theorem Sat.swapL3 {B w : World} {X Y : Assn} {L : List Assn} {bj : Nat} {p : Option Addr} {j : JSt} {Ap : Option Addr} {cp : Nat} {Ac : Option Addr} {cc : Nat} (hs : Sat B w (X :: Y :: Blk bj (jcells p j Ap cp Ac cc) 98 :: Own 3 1 (.slice Ap j.n.prev.length cp) j.n.prev.length (KI.flat j.n.prev) :: Own 3 1 (.slice Ac j.n.cur.length cc) j.n.cur.length (KI.flat j.n.cur) :: L)) : Sat B w (X :: Y :: JA 98 3 bj p j :: L) := by
  have h1 := Sat.jshut (hs.perm (show List.Perm _ (_ :: _ :: _ :: X :: Y :: L) from (List.perm_append_comm (l₁ := [X, Y]) (l₂ := [_, _, _])).append_right L))
  exact h1.perm ((List.perm_append_comm (l₁ := [_]) (l₂ := [X, Y])).append_right L)
set_option maxRecDepth 100000 in
set_option maxHeartbeats 1000000 in
theorem Note_c (B w : World) (L : List Assn) (bj : Nat) (p : Option Addr) (j : JSt) (hs : Sat B w (JA 98 3 bj p j :: L)) (hz : j.n.prev.length ≤ 1073741824 ∧ j.n.cur.length ≤ 1073741824) :
    Calls Try.prog 33 [.pointer (some ⟨bj, 0, none⟩)].toArray w (Ret (fun v' w' => ∃ Ap' cp' Ac' cc', v' = .agg #[.int .i64 j.n.batch, .slice Ap' j.n.prev.length cp', .slice Ac' j.n.cur.length cc', .int .i64 j.n.att] ∧ Sat B w' (Own 3 1 (.slice Ap' j.n.prev.length cp') j.n.prev.length (KI.flat j.n.prev) :: Own 3 1 (.slice Ac' j.n.cur.length cc') j.n.cur.length (KI.flat j.n.cur) :: JA 98 3 bj p j :: L))) := by
  obtain ⟨Ap, cp, Ac, cc, hs⟩ := hs.jopen
  refine Calls_body Try.func33 rfl rfl rfl (envE_cons (i := 0) (v := .pointer (some ⟨bj, 0, none⟩)) rfl envE_nil) ?_
  refine St_seq ?_
  refine St_region ?_
  refine Ls_alloc hs inf66 rfl ?_
  intro b2 w1 hs
  refine Ls_nil ?_
  refine Jm_seq ?_
  refine St_seq ?_
  refine St_seq ?_
  refine St_region ?_
  refine Ls_run (run_move rfl) rfl ?_
  refine Ls_run (run_asB (c := false) (run_eql_ptr_nil Try.underlying59 rfl rfl) rfl) rfl ?_
  refine Ls_nil ?_
  refine Jm_seq ?_
  refine St_iff rfl ?_
  refine St_skip ?_
  refine Jm_seq ?_
  refine St_seq ?_
  refine St_region ?_
  refine Ls_run (run_move rfl) rfl ?_
  refine Ls_run (run_nilCheck rfl) rfl ?_
  refine Ls_run (run_as (run_field Try.underlying98 rfl inf96 (by decide) rfl) (show _ = Value.pointer (some ⟨bj, 2, none⟩) from rfl)) rfl ?_
  refine Ls_run (run_as (run_field Try.underlying96 rfl inf66 (by decide) rfl) (show _ = Value.pointer (some ⟨bj, 2, none⟩) from rfl)) rfl ?_
  refine Ls_run (run_load_agg agg66 inf66 rfl rfl (hs.blk_cells 1 rfl 2 4)) rfl ?_
  refine Ls_call Try.func67 nm67 rfl rfl (jcopied_c w1 j.n _ _ _ _ (hs.rd_at 2 rfl) (hs.rd_at 3 rfl) hz) rfl ?_
  rintro v4 w5 ⟨Ap2, cp2, Ac2, cc2, rfl, hsC⟩
  replace hs := hs.trans hsC
  simp only [List.cons_append, List.nil_append] at hs
  replace hs := hs.front 2 rfl
  simp only [List.cons_append, List.nil_append, List.eraseIdx_cons_zero, List.eraseIdx_cons_succ] at hs
  refine Ls_storeAgg hs inf66 rfl rfl rfl rfl (by simp [Value.oneCell', Value.cells, jcells]) ?_
  intro w6 hs
  refine Ls_nil ?_
  refine Jm_seq ?_
  refine St_ret ?_
  refine Jm_retC rfl agg66 inf66 rfl rfl (hs.blk_cells 0 rfl 0 4) ?_
  replace hs := hs.erase 0
  simp only [List.cons_append, List.nil_append, List.eraseIdx_cons_zero, List.eraseIdx_cons_succ] at hs
  replace hs := hs.front 4 rfl
  simp only [List.cons_append, List.nil_append, List.eraseIdx_cons_zero, List.eraseIdx_cons_succ] at hs
  replace hs := hs.front 4 rfl
  simp only [List.cons_append, List.nil_append, List.eraseIdx_cons_zero, List.eraseIdx_cons_succ] at hs
  replace hs := hs.front 4 rfl
  simp only [List.cons_append, List.nil_append, List.eraseIdx_cons_zero, List.eraseIdx_cons_succ] at hs
  replace hs := hs.front 4 rfl
  simp only [List.cons_append, List.nil_append, List.eraseIdx_cons_zero, List.eraseIdx_cons_succ] at hs
  replace hs := hs.front 4 rfl
  simp only [List.cons_append, List.nil_append, List.eraseIdx_cons_zero, List.eraseIdx_cons_succ] at hs
  have hs9 := Sat.swapL3 hs
  exact ⟨_, rfl, Ap2, cp2, Ac2, cc2, rfl, hs9⟩
set_option maxRecDepth 100000 in
set_option maxHeartbeats 1000000 in
theorem Note_nil (w : World) :
    Calls Try.prog 33 [.pointer none].toArray w (Ret (fun v' w' => v' = .agg #[.int .i64 0, .slice none 0 0, .slice none 0 0, .int .i64 0] ∧ Sat w w' [])) := by
  have hs := Sat.start w
  refine Calls_body Try.func33 rfl rfl rfl (envE_cons (i := 0) (v := .pointer none) rfl envE_nil) ?_
  refine St_seq ?_
  refine St_region ?_
  refine Ls_alloc hs inf66 rfl ?_
  intro b2 w1 hs
  refine Ls_nil ?_
  refine Jm_seq ?_
  refine St_seq ?_
  refine St_seq ?_
  refine St_region ?_
  refine Ls_run (run_move rfl) rfl ?_
  refine Ls_run (run_asB (c := true) (run_eql_ptr_nil Try.underlying59 rfl rfl) rfl) rfl ?_
  refine Ls_nil ?_
  refine Jm_seq ?_
  refine St_ift rfl ?_
  refine St_seq ?_
  refine St_region ?_
  refine Ls_run (run_buildO (pv := []) rfl (bld66 )) rfl ?_
  refine Ls_storeAgg hs inf66 rfl rfl rfl rfl (by simp [Value.oneCell', Value.cells, jcells]) ?_
  intro w4 hs
  refine Ls_nil ?_
  refine Jm_seq ?_
  refine St_ret ?_
  refine Jm_then_ret  ?_
  refine Jm_retC rfl agg66 inf66 rfl rfl (hs.blk_cells 0 rfl 0 4) ?_
  exact ⟨_, rfl, rfl, hs.forget⟩
set_option maxRecDepth 100000 in
set_option maxHeartbeats 1000000 in
theorem follows_c (B w : World) (L : List Assn) (bj : Nat) (p : Option Addr) (j : JSt) (Ap : Option Addr) (cp : Nat) (Ac : Option Addr) (cc : Nat) (hs : Sat B w (Blk bj (jcells p j Ap cp Ac cc) 98 :: Own 3 1 (.slice Ap j.n.prev.length cp) j.n.prev.length (KI.flat j.n.prev) :: Own 3 1 (.slice Ac j.n.cur.length cc) j.n.cur.length (KI.flat j.n.cur) :: L)) (hz : j.n.prev.length ≤ 1073741824 ∧ j.n.cur.length ≤ 1073741824) (hbt : within j.n.batch) (n : NSt) (Np : Option Addr) (np : Nat) (Nc : Option Addr) (nc : Nat) (hrp : ∀ w' X, Sat B w' (X :: L) → Rd w' Np n.prev.length np 1 (KI.flat n.prev)) (hrc : ∀ w' X, Sat B w' (X :: L) → Rd w' Nc n.cur.length nc 1 (KI.flat n.cur)) (hzn : n.prev.length ≤ 9223372036854775807 ∧ n.cur.length ≤ 9223372036854775807) :
    Calls Try.prog 69 [.pointer (some ⟨bj, 0, none⟩), .agg #[.int .i64 n.batch, .slice Np n.prev.length np, .slice Nc n.cur.length nc, .int .i64 n.att]].toArray w (Ret (fun v' w' => v' = .bool (decide (follows j.n n)) ∧ Sat B w' (Blk bj (jcells p j Ap cp Ac cc) 98 :: Own 3 1 (.slice Ap j.n.prev.length cp) j.n.prev.length (KI.flat j.n.prev) :: Own 3 1 (.slice Ac j.n.cur.length cc) j.n.cur.length (KI.flat j.n.cur) :: L))) := by
  unfold within at hbt
  refine Calls_body Try.func69 rfl rfl rfl (envE_cons (i := 0) (v := .pointer (some ⟨bj, 0, none⟩)) rfl (envE_cons (i := 1) (v := .agg #[.int .i64 n.batch, .slice Np n.prev.length np, .slice Nc n.cur.length nc, .int .i64 n.att]) rfl envE_nil)) ?_
  refine St_seq ?_
  refine St_region ?_
  refine Ls_box hs rfl rfl ?_
  intro b2 w1 hs
  refine Ls_run (run_assign rfl) rfl ?_
  refine Ls_nil ?_
  refine Jm_seq ?_
  refine St_seq ?_
  obtain ⟨En3, hEn3⟩ : ∃ F : Nat × Nat → Env, ∀ (g5 : Nat) (g6 : Nat), F (g5, g6) = [(0, .pointer (some ⟨bj, 0, none⟩)), (3, .pointer (some ⟨b2, 0, none⟩)), (5, .pointer (some ⟨g5, 0, none⟩)), (6, .pointer (some ⟨g6, 0, none⟩))] := ⟨(fun (s : Nat × Nat) => match s with | (g5, g6) => [(0, .pointer (some ⟨bj, 0, none⟩)), (3, .pointer (some ⟨b2, 0, none⟩)), (5, .pointer (some ⟨g5, 0, none⟩)), (6, .pointer (some ⟨g6, 0, none⟩))]), fun _ _ => rfl⟩
  obtain ⟨Iv4, hIv4⟩ : ∃ F : Nat × Nat → World → Prop, ∀ (g5 : Nat) (g6 : Nat) (w5 : World), F (g5, g6) w5 = (Sat B w5 (Blk g5 [.int .i64 j.n.batch, .slice Ap j.n.prev.length cp, .slice Ac j.n.cur.length cc] 64 :: Blk g6 [.int .i64 n.batch, .slice Np n.prev.length np, .slice Nc n.cur.length nc] 64 :: Blk b2 [.int .i64 n.batch, .slice Np n.prev.length np, .slice Nc n.cur.length nc, .int .i64 n.att] 66 :: Blk bj (jcells p j Ap cp Ac cc) 98 :: Own 3 1 (.slice Ap j.n.prev.length cp) j.n.prev.length (KI.flat j.n.prev) :: Own 3 1 (.slice Ac j.n.cur.length cc) j.n.cur.length (KI.flat j.n.cur) :: L)) := ⟨(fun (s : Nat × Nat) => match s with | (g5, g6) => fun (w5 : World) => Sat B w5 (Blk g5 [.int .i64 j.n.batch, .slice Ap j.n.prev.length cp, .slice Ac j.n.cur.length cc] 64 :: Blk g6 [.int .i64 n.batch, .slice Np n.prev.length np, .slice Nc n.cur.length nc] 64 :: Blk b2 [.int .i64 n.batch, .slice Np n.prev.length np, .slice Nc n.cur.length nc, .int .i64 n.att] 66 :: Blk bj (jcells p j Ap cp Ac cc) 98 :: Own 3 1 (.slice Ap j.n.prev.length cp) j.n.prev.length (KI.flat j.n.prev) :: Own 3 1 (.slice Ac j.n.cur.length cc) j.n.cur.length (KI.flat j.n.cur) :: L)), fun _ _ _ => rfl⟩
  refine St_join En3 Iv4 ?_ ?_
  · skip
    replace hs := hs.front 1 rfl
    simp only [List.cons_append, List.nil_append, List.eraseIdx_cons_zero, List.eraseIdx_cons_succ] at hs
    refine St_hold (Hold.of (Ls := [_, _]) hs) mixed ?_
    intro w6 q7
    replace hs := hs.quiet q7
    have hH := Hold.of (Ls := [_, _]) hs
    refine An_take 0 rfl (by kernel_rfl) (by kernel_rfl) (by kernel_rfl) (fun _ _ _ h => h) hH (fun x hx => run_move rfl) rfl ?_
    refine An_take 1 rfl (by kernel_rfl) (by kernel_rfl) (by kernel_rfl) (fun _ _ _ h => h) hH (fun x hx => run_nilCheck rfl) rfl ?_
    refine An_take 2 rfl (by kernel_rfl) (by kernel_rfl) (by kernel_rfl) (fun _ _ _ h => h) hH (fun x hx => run_as (run_field Try.underlying98 rfl inf96 (by decide) rfl) (show _ = Value.pointer (some ⟨bj, 2, none⟩) from rfl)) rfl ?_
    refine An_take 3 rfl (by kernel_rfl) (by kernel_rfl) (by kernel_rfl) (fun _ _ _ h => h) hH (fun x hx => run_as (run_field Try.underlying96 rfl inf66 (by decide) rfl) (show _ = Value.pointer (some ⟨bj, 2, none⟩) from rfl)) rfl ?_
    refine An_take 4 rfl (by kernel_rfl) (by kernel_rfl) (by kernel_rfl) (fun _ _ _ h => h) hH (fun x hx => run_as (run_field Try.underlying66 rfl inf64 (by decide) rfl) (show _ = Value.pointer (some ⟨bj, 2, none⟩) from rfl)) rfl ?_
    refine An_take 5 rfl (by kernel_rfl) (by kernel_rfl) (by kernel_rfl) (fun _ _ _ h => h) hH (fun x hx => run_load_agg agg64 inf64 rfl rfl (hx.choose_spec.blk_cells 0 rfl 2 3)) rfl ?_
    refine An_take 6 rfl (by kernel_rfl) (by kernel_rfl) (by kernel_rfl) (fun _ _ _ h => h) hH (fun x hx => run_as (run_field Try.underlying66 rfl inf64 (by decide) rfl) (show _ = Value.pointer (some ⟨b2, 0, none⟩) from rfl)) rfl ?_
    refine An_take 7 rfl (by kernel_rfl) (by kernel_rfl) (by kernel_rfl) (fun _ _ _ h => h) hH (fun x hx => run_load_agg agg64 inf64 rfl rfl (hx.choose_spec.blk_cells 1 rfl 0 3)) rfl ?_
    refine An_two 8 9 (by kernel_rfl) rfl rfl ?_ ?_
    · skip
      refine Ls_alloc hs inf64 rfl ?_
      intro b10 w9 hs
      replace hs := hs.front 2 rfl
      simp only [List.cons_append, List.nil_append, List.eraseIdx_cons_zero, List.eraseIdx_cons_succ] at hs
      replace hs := hs.front 2 rfl
      simp only [List.cons_append, List.nil_append, List.eraseIdx_cons_zero, List.eraseIdx_cons_succ] at hs
      replace hH := Hold.of (Ls := [_, _]) hs
      refine Ls_nil (Jm_An hH ?_)
      refine An_only 9 (by kernel_rfl) rfl ?_
      refine Ls_alloc hs inf64 rfl ?_
      intro b12 w11 hs
      replace hs := hs.front 2 rfl
      simp only [List.cons_append, List.nil_append, List.eraseIdx_cons_zero, List.eraseIdx_cons_succ] at hs
      replace hs := hs.front 2 rfl
      simp only [List.cons_append, List.nil_append, List.eraseIdx_cons_zero, List.eraseIdx_cons_succ] at hs
      replace hH := Hold.of (Ls := [_, _]) hs
      refine Ls_nil (Jm_An hH ?_)
      refine An_only 10 (by kernel_rfl) rfl ?_
      replace hs := hs.front 3 rfl
      simp only [List.cons_append, List.nil_append, List.eraseIdx_cons_zero, List.eraseIdx_cons_succ] at hs
      refine Ls_storeAgg hs inf64 rfl rfl rfl rfl (by simp [Value.oneCell', Value.cells, jcells]) ?_
      intro w13 hs
      replace hs := hs.front 2 rfl
      simp only [List.cons_append, List.nil_append, List.eraseIdx_cons_zero, List.eraseIdx_cons_succ] at hs
      replace hs := hs.front 2 rfl
      simp only [List.cons_append, List.nil_append, List.eraseIdx_cons_zero, List.eraseIdx_cons_succ] at hs
      replace hH := Hold.of (Ls := [_, _]) hs
      refine Ls_nil (Jm_An hH ?_)
      refine An_only 11 (by kernel_rfl) rfl ?_
      replace hs := hs.front 3 rfl
      simp only [List.cons_append, List.nil_append, List.eraseIdx_cons_zero, List.eraseIdx_cons_succ] at hs
      refine Ls_storeAgg hs inf64 rfl rfl rfl rfl (by simp [Value.oneCell', Value.cells, jcells]) ?_
      intro w14 hs
      replace hs := hs.front 2 rfl
      simp only [List.cons_append, List.nil_append, List.eraseIdx_cons_zero, List.eraseIdx_cons_succ] at hs
      replace hs := hs.front 2 rfl
      simp only [List.cons_append, List.nil_append, List.eraseIdx_cons_zero, List.eraseIdx_cons_succ] at hs
      replace hH := Hold.of (Ls := [_, _]) hs
      refine Ls_nil (Jm_An hH ?_)
      refine An_done (by kernel_rfl) ?_
      replace hs := hs.front 5 rfl
      simp only [List.cons_append, List.nil_append, List.eraseIdx_cons_zero, List.eraseIdx_cons_succ] at hs
      replace hs := hs.front 5 rfl
      simp only [List.cons_append, List.nil_append, List.eraseIdx_cons_zero, List.eraseIdx_cons_succ] at hs
      replace hs := hs.front 2 rfl
      simp only [List.cons_append, List.nil_append, List.eraseIdx_cons_zero, List.eraseIdx_cons_succ] at hs
      replace hs := hs.front 3 rfl
      simp only [List.cons_append, List.nil_append, List.eraseIdx_cons_zero, List.eraseIdx_cons_succ] at hs
      replace hs := hs.front 4 rfl
      simp only [List.cons_append, List.nil_append, List.eraseIdx_cons_zero, List.eraseIdx_cons_succ] at hs
      replace hs := hs.front 5 rfl
      simp only [List.cons_append, List.nil_append, List.eraseIdx_cons_zero, List.eraseIdx_cons_succ] at hs
      refine Jm_join (b10, b12) ?_ ?_
      · rw [hEn3]; exact (subE_cons rfl (subE_cons rfl (subE_cons rfl (subE_cons rfl subE_nil))))
      · skip
        rw [hIv4]
        exact hs
    · skip
      refine Ls_alloc hs inf64 rfl ?_
      intro b16 w15 hs
      replace hs := hs.front 2 rfl
      simp only [List.cons_append, List.nil_append, List.eraseIdx_cons_zero, List.eraseIdx_cons_succ] at hs
      replace hs := hs.front 2 rfl
      simp only [List.cons_append, List.nil_append, List.eraseIdx_cons_zero, List.eraseIdx_cons_succ] at hs
      replace hH := Hold.of (Ls := [_, _]) hs
      refine Ls_nil (Jm_An hH ?_)
      refine An_only 8 (by kernel_rfl) rfl ?_
      refine Ls_alloc hs inf64 rfl ?_
      intro b18 w17 hs
      replace hs := hs.front 2 rfl
      simp only [List.cons_append, List.nil_append, List.eraseIdx_cons_zero, List.eraseIdx_cons_succ] at hs
      replace hs := hs.front 2 rfl
      simp only [List.cons_append, List.nil_append, List.eraseIdx_cons_zero, List.eraseIdx_cons_succ] at hs
      replace hH := Hold.of (Ls := [_, _]) hs
      refine Ls_nil (Jm_An hH ?_)
      refine An_only 10 (by kernel_rfl) rfl ?_
      replace hs := hs.front 2 rfl
      simp only [List.cons_append, List.nil_append, List.eraseIdx_cons_zero, List.eraseIdx_cons_succ] at hs
      refine Ls_storeAgg hs inf64 rfl rfl rfl rfl (by simp [Value.oneCell', Value.cells, jcells]) ?_
      intro w19 hs
      replace hs := hs.front 2 rfl
      simp only [List.cons_append, List.nil_append, List.eraseIdx_cons_zero, List.eraseIdx_cons_succ] at hs
      replace hs := hs.front 2 rfl
      simp only [List.cons_append, List.nil_append, List.eraseIdx_cons_zero, List.eraseIdx_cons_succ] at hs
      replace hH := Hold.of (Ls := [_, _]) hs
      refine Ls_nil (Jm_An hH ?_)
      refine An_only 11 (by kernel_rfl) rfl ?_
      replace hs := hs.front 3 rfl
      simp only [List.cons_append, List.nil_append, List.eraseIdx_cons_zero, List.eraseIdx_cons_succ] at hs
      refine Ls_storeAgg hs inf64 rfl rfl rfl rfl (by simp [Value.oneCell', Value.cells, jcells]) ?_
      intro w20 hs
      replace hs := hs.front 2 rfl
      simp only [List.cons_append, List.nil_append, List.eraseIdx_cons_zero, List.eraseIdx_cons_succ] at hs
      replace hs := hs.front 2 rfl
      simp only [List.cons_append, List.nil_append, List.eraseIdx_cons_zero, List.eraseIdx_cons_succ] at hs
      replace hH := Hold.of (Ls := [_, _]) hs
      refine Ls_nil (Jm_An hH ?_)
      refine An_done (by kernel_rfl) ?_
      replace hs := hs.front 5 rfl
      simp only [List.cons_append, List.nil_append, List.eraseIdx_cons_zero, List.eraseIdx_cons_succ] at hs
      replace hs := hs.front 5 rfl
      simp only [List.cons_append, List.nil_append, List.eraseIdx_cons_zero, List.eraseIdx_cons_succ] at hs
      replace hs := hs.front 2 rfl
      simp only [List.cons_append, List.nil_append, List.eraseIdx_cons_zero, List.eraseIdx_cons_succ] at hs
      replace hs := hs.front 3 rfl
      simp only [List.cons_append, List.nil_append, List.eraseIdx_cons_zero, List.eraseIdx_cons_succ] at hs
      replace hs := hs.front 4 rfl
      simp only [List.cons_append, List.nil_append, List.eraseIdx_cons_zero, List.eraseIdx_cons_succ] at hs
      replace hs := hs.front 5 rfl
      simp only [List.cons_append, List.nil_append, List.eraseIdx_cons_zero, List.eraseIdx_cons_succ] at hs
      refine Jm_join (b18, b16) ?_ ?_
      · rw [hEn3]; exact (subE_cons rfl (subE_cons rfl (subE_cons rfl (subE_cons rfl subE_nil))))
      · skip
        rw [hIv4]
        exact hs
  · skip
    rintro ⟨g5, g6⟩ w5 hI21
    rw [hIv4] at hI21
    replace hs := hI21
    refine Jm_eqE (hEn3 _ _) ?_
    refine Jm_seq ?_
    refine St_seq ?_
    refine St_block ?_
    refine St_seq ?_
    refine St_draw (fun x => Below w5.heap.size w5 x) mixed ?_
    intro w22 q23
    have hH := q23.below
    replace hs := hs.quiet q23
    refine An_grow hH ?_
    replace hH := Below.refl w22.heap.size w22
    refine An_take 0 rfl (by kernel_rfl) (by kernel_rfl) (by kernel_rfl) (fun _ _ _ h => h) hH (fun x hx => run_as (run_field Try.underlying66 rfl inf3 (by decide) rfl) (show _ = Value.pointer (some ⟨b2, 3, none⟩) from rfl)) rfl ?_
    refine An_take 1 rfl (by kernel_rfl) (by kernel_rfl) (by kernel_rfl) (fun _ _ _ h => h) hH (fun x hx => run_load sc3 rfl ((hs.grow hx).blk_at 2 rfl 3 rfl)) rfl ?_
    refine An_take 2 rfl (by kernel_rfl) (by kernel_rfl) (by kernel_rfl) (fun _ _ _ h => h) hH (fun x hx => run_move rfl) rfl ?_
    refine An_take 3 rfl (by kernel_rfl) (by kernel_rfl) (by kernel_rfl) (fun _ _ _ h => h) hH (fun x hx => run_nilCheck rfl) rfl ?_
    refine An_take 4 rfl (by kernel_rfl) (by kernel_rfl) (by kernel_rfl) (fun _ _ _ h => h) hH (fun x hx => run_as (run_field Try.underlying98 rfl inf96 (by decide) rfl) (show _ = Value.pointer (some ⟨bj, 2, none⟩) from rfl)) rfl ?_
    refine An_take 5 rfl (by kernel_rfl) (by kernel_rfl) (by kernel_rfl) (fun _ _ _ h => h) hH (fun x hx => run_as (run_field Try.underlying96 rfl inf66 (by decide) rfl) (show _ = Value.pointer (some ⟨bj, 2, none⟩) from rfl)) rfl ?_
    refine An_take 6 rfl (by kernel_rfl) (by kernel_rfl) (by kernel_rfl) (fun _ _ _ h => h) hH (fun x hx => run_as (run_field Try.underlying66 rfl inf3 (by decide) rfl) (show _ = Value.pointer (some ⟨bj, 5, none⟩) from rfl)) rfl ?_
    refine An_take 7 rfl (by kernel_rfl) (by kernel_rfl) (by kernel_rfl) (fun _ _ _ h => h) hH (fun x hx => run_load sc3 rfl ((hs.grow hx).blk_at 3 rfl 5 rfl)) rfl ?_
    refine An_take 8 rfl (by kernel_rfl) (by kernel_rfl) (by kernel_rfl) (fun _ _ _ h => h) hH (fun x hx => run_lss rfl rfl) rfl ?_
    refine An_take 9 rfl (by kernel_rfl) (by kernel_rfl) (by kernel_rfl) (fun _ _ _ h => h) hH (fun x hx => run_assign rfl) rfl ?_
    refine An_done (by kernel_rfl) ?_
    refine Jm_seq ?_
    refine St_ifP rfl (fun h24 => ?_) (fun h24 => ?_)
    · skip
      refine St_seq ?_
      refine St_region ?_
      refine Ls_run (run_assign rfl) rfl ?_
      refine Ls_nil ?_
      refine Jm_seq ?_
      refine St_ret ?_
      refine Jm_block_ret (Jm_then_ret  ?_)
      refine Jm_ret1 rfl rfl ?_
      replace hs := hs.erase 0
      simp only [List.cons_append, List.nil_append, List.eraseIdx_cons_zero, List.eraseIdx_cons_succ] at hs
      replace hs := hs.erase 0
      simp only [List.cons_append, List.nil_append, List.eraseIdx_cons_zero, List.eraseIdx_cons_succ] at hs
      replace hs := hs.erase 0
      simp only [List.cons_append, List.nil_append, List.eraseIdx_cons_zero, List.eraseIdx_cons_succ] at hs
      replace hs := hs.front 2 rfl
      simp only [List.cons_append, List.nil_append, List.eraseIdx_cons_zero, List.eraseIdx_cons_succ] at hs
      replace hs := hs.front 2 rfl
      simp only [List.cons_append, List.nil_append, List.eraseIdx_cons_zero, List.eraseIdx_cons_succ] at hs
      replace hs := hs.front 2 rfl
      simp only [List.cons_append, List.nil_append, List.eraseIdx_cons_zero, List.eraseIdx_cons_succ] at hs
      refine ⟨_, rfl, ?_, hs⟩
      first
      | exact congrArg Value.bool (decide_eq_false (fun q => by unfold follows at q; omega)).symm
      | exact congrArg Value.bool (decide_eq_decide.2 (by unfold follows; constructor <;> intro q <;> first | (refine ⟨by omega, .inl ⟨by omega, by assumption, q⟩⟩) | (refine ⟨by omega, .inr ⟨by omega, by omega, q⟩⟩) | (rcases q.2 with q | q <;> first | exact q.2.2 | exact absurd q.1 (by omega))))
      | exact congrArg Value.bool (decide_eq_false (fun q => by rcases q.2 with q | q <;> first | exact absurd q.2.1 (by assumption) | exact absurd q.1 (by omega) | exact absurd q.2.1 (by omega))).symm
    · skip
      refine St_seq ?_
      refine St_region ?_
      refine Ls_run (run_as (run_field Try.underlying64 rfl inf3 (by decide) rfl) (show _ = Value.pointer (some ⟨g6, 0, none⟩) from rfl)) rfl ?_
      refine Ls_run (run_load sc3 rfl (hs.blk_at 1 rfl 0 rfl)) rfl ?_
      refine Ls_run (run_as (run_field Try.underlying64 rfl inf3 (by decide) rfl) (show _ = Value.pointer (some ⟨g5, 0, none⟩) from rfl)) rfl ?_
      refine Ls_run (run_load sc3 rfl (hs.blk_at 0 rfl 0 rfl)) rfl ?_
      refine Ls_run (run_eql rfl rfl) rfl ?_
      refine Ls_run (run_assign rfl) rfl ?_
      refine Ls_nil ?_
      refine Jm_seq ?_
      refine St_ifP rfl (fun h25 => ?_) (fun h25 => ?_)
      · skip
        refine St_seq ?_
        refine St_region ?_
        refine Ls_run (run_as (run_field Try.underlying64 rfl inf62 (by decide) rfl) (show _ = Value.pointer (some ⟨g6, 1, none⟩) from rfl)) rfl ?_
        refine Ls_run (run_load sc62 rfl (hs.blk_at 1 rfl 1 rfl)) rfl ?_
        refine Ls_run (run_as (run_field Try.underlying64 rfl inf62 (by decide) rfl) (show _ = Value.pointer (some ⟨g5, 1, none⟩) from rfl)) rfl ?_
        refine Ls_run (run_load sc62 rfl (hs.blk_at 0 rfl 1 rfl)) rfl ?_
        refine Ls_call Try.func83 nm83 rfl rfl (EqualI_c w22 _ _ _ n.prev _ _ _ j.n.prev (Sat.rdL0 (pre := [_, _, _, _, _, _]) hrp hs) (hs.rd_at 4 rfl) (by omega)) rfl ?_
        rintro v26 w27 ⟨rfl, hsE⟩
        replace hs := hs.trans hsE
        simp only [List.nil_append, List.cons_append] at hs
        refine Ls_run (run_move rfl) rfl ?_
        refine Ls_partP (t := 36) rfl (fun h28 => ?_) (fun h28 => ?_)
        · skip
          refine Ls_on rfl rfl ?_
          refine Ls_run (run_as (run_field Try.underlying64 rfl inf62 (by decide) rfl) (show _ = Value.pointer (some ⟨g6, 2, none⟩) from rfl)) rfl ?_
          refine Ls_on rfl rfl ?_
          refine Ls_run (run_load sc62 rfl (hs.blk_at 1 rfl 2 rfl)) rfl ?_
          refine Ls_on rfl rfl ?_
          refine Ls_run (run_as (run_field Try.underlying64 rfl inf62 (by decide) rfl) (show _ = Value.pointer (some ⟨g5, 2, none⟩) from rfl)) rfl ?_
          refine Ls_on rfl rfl ?_
          refine Ls_run (run_load sc62 rfl (hs.blk_at 0 rfl 2 rfl)) rfl ?_
          refine Ls_on rfl rfl ?_
          refine Ls_call Try.func83 nm83 rfl rfl (EqualI_c w27 _ _ _ n.cur _ _ _ j.n.cur (Sat.rdL0 (pre := [_, _, _, _, _, _]) hrc hs) (hs.rd_at 5 rfl) (by omega)) rfl ?_
          rintro v29 w30 ⟨rfl, hsE⟩
          replace hs := hs.trans hsE
          simp only [List.nil_append, List.cons_append] at hs
          refine Ls_run (run_pick_t rfl rfl) rfl ?_
          refine Ls_run (run_assign rfl) rfl ?_
          refine Ls_nil ?_
          refine Jm_seq ?_
          refine St_ret ?_
          refine Jm_block_ret (Jm_then_ret  ?_)
          refine Jm_ret1 rfl rfl ?_
          replace hs := hs.erase 0
          simp only [List.cons_append, List.nil_append, List.eraseIdx_cons_zero, List.eraseIdx_cons_succ] at hs
          replace hs := hs.erase 0
          simp only [List.cons_append, List.nil_append, List.eraseIdx_cons_zero, List.eraseIdx_cons_succ] at hs
          replace hs := hs.erase 0
          simp only [List.cons_append, List.nil_append, List.eraseIdx_cons_zero, List.eraseIdx_cons_succ] at hs
          replace hs := hs.front 2 rfl
          simp only [List.cons_append, List.nil_append, List.eraseIdx_cons_zero, List.eraseIdx_cons_succ] at hs
          replace hs := hs.front 2 rfl
          simp only [List.cons_append, List.nil_append, List.eraseIdx_cons_zero, List.eraseIdx_cons_succ] at hs
          replace hs := hs.front 2 rfl
          simp only [List.cons_append, List.nil_append, List.eraseIdx_cons_zero, List.eraseIdx_cons_succ] at hs
          refine ⟨_, rfl, ?_, hs⟩
          first
          | exact congrArg Value.bool (decide_eq_false (fun q => by unfold follows at q; omega)).symm
          | exact congrArg Value.bool (decide_eq_decide.2 (by unfold follows; constructor <;> intro q <;> first | (refine ⟨by omega, .inl ⟨by omega, by assumption, q⟩⟩) | (refine ⟨by omega, .inr ⟨by omega, by omega, q⟩⟩) | (rcases q.2 with q | q <;> first | exact q.2.2 | exact absurd q.1 (by omega))))
          | exact congrArg Value.bool (decide_eq_false (fun q => by rcases q.2 with q | q <;> first | exact absurd q.2.1 (by assumption) | exact absurd q.1 (by omega) | exact absurd q.2.1 (by omega))).symm
        · skip
          refine Ls_off rfl rfl rfl rfl ?_
          refine Ls_off rfl rfl rfl rfl ?_
          refine Ls_off rfl rfl rfl rfl ?_
          refine Ls_off rfl rfl rfl rfl ?_
          refine Ls_off rfl rfl rfl rfl ?_
          refine Ls_run (run_pick_f rfl rfl) rfl ?_
          refine Ls_run (run_assign rfl) rfl ?_
          refine Ls_nil ?_
          refine Jm_seq ?_
          refine St_ret ?_
          refine Jm_block_ret (Jm_then_ret  ?_)
          refine Jm_ret1 rfl rfl ?_
          replace hs := hs.erase 0
          simp only [List.cons_append, List.nil_append, List.eraseIdx_cons_zero, List.eraseIdx_cons_succ] at hs
          replace hs := hs.erase 0
          simp only [List.cons_append, List.nil_append, List.eraseIdx_cons_zero, List.eraseIdx_cons_succ] at hs
          replace hs := hs.erase 0
          simp only [List.cons_append, List.nil_append, List.eraseIdx_cons_zero, List.eraseIdx_cons_succ] at hs
          replace hs := hs.front 2 rfl
          simp only [List.cons_append, List.nil_append, List.eraseIdx_cons_zero, List.eraseIdx_cons_succ] at hs
          replace hs := hs.front 2 rfl
          simp only [List.cons_append, List.nil_append, List.eraseIdx_cons_zero, List.eraseIdx_cons_succ] at hs
          replace hs := hs.front 2 rfl
          simp only [List.cons_append, List.nil_append, List.eraseIdx_cons_zero, List.eraseIdx_cons_succ] at hs
          refine ⟨_, rfl, ?_, hs⟩
          first
          | exact congrArg Value.bool (decide_eq_false (fun q => by unfold follows at q; omega)).symm
          | exact congrArg Value.bool (decide_eq_decide.2 (by unfold follows; constructor <;> intro q <;> first | (refine ⟨by omega, .inl ⟨by omega, by assumption, q⟩⟩) | (refine ⟨by omega, .inr ⟨by omega, by omega, q⟩⟩) | (rcases q.2 with q | q <;> first | exact q.2.2 | exact absurd q.1 (by omega))))
          | exact congrArg Value.bool (decide_eq_false (fun q => by rcases q.2 with q | q <;> first | exact absurd q.2.1 (by assumption) | exact absurd q.1 (by omega) | exact absurd q.2.1 (by omega))).symm
      · skip
        refine St_skip ?_
        refine Jm_block_normal (Jm_seq ?_)
        refine St_seq ?_
        refine St_region ?_
        refine Ls_run (run_as (run_field Try.underlying64 rfl inf3 (by decide) rfl) (show _ = Value.pointer (some ⟨g6, 0, none⟩) from rfl)) rfl ?_
        refine Ls_run (run_load sc3 rfl (hs.blk_at 1 rfl 0 rfl)) rfl ?_
        refine Ls_run (run_as (run_field Try.underlying64 rfl inf3 (by decide) rfl) (show _ = Value.pointer (some ⟨g5, 0, none⟩) from rfl)) rfl ?_
        refine Ls_run (run_load sc3 rfl (hs.blk_at 0 rfl 0 rfl)) rfl ?_
        refine Ls_run (run_add rfl rfl (w64 (by omega))) rfl ?_
        refine Ls_run (run_eql rfl rfl) rfl ?_
        refine Ls_run (run_move rfl) rfl ?_
        refine Ls_partP (t := 49) rfl (fun h31 => ?_) (fun h31 => ?_)
        · skip
          refine Ls_on rfl rfl ?_
          refine Ls_run (run_as (run_field Try.underlying64 rfl inf62 (by decide) rfl) (show _ = Value.pointer (some ⟨g6, 1, none⟩) from rfl)) rfl ?_
          refine Ls_on rfl rfl ?_
          refine Ls_run (run_load sc62 rfl (hs.blk_at 1 rfl 1 rfl)) rfl ?_
          refine Ls_on rfl rfl ?_
          refine Ls_run (run_as (run_field Try.underlying64 rfl inf62 (by decide) rfl) (show _ = Value.pointer (some ⟨g5, 2, none⟩) from rfl)) rfl ?_
          refine Ls_on rfl rfl ?_
          refine Ls_run (run_load sc62 rfl (hs.blk_at 0 rfl 2 rfl)) rfl ?_
          refine Ls_on rfl rfl ?_
          refine Ls_call Try.func83 nm83 rfl rfl (EqualI_c w22 _ _ _ n.prev _ _ _ j.n.cur (Sat.rdL0 (pre := [_, _, _, _, _, _]) hrp hs) (hs.rd_at 5 rfl) (by omega)) rfl ?_
          rintro v32 w33 ⟨rfl, hsE⟩
          replace hs := hs.trans hsE
          simp only [List.nil_append, List.cons_append] at hs
          refine Ls_run (run_pick_t rfl rfl) rfl ?_
          refine Ls_run (run_assign rfl) rfl ?_
          refine Ls_nil ?_
          refine Jm_seq ?_
          refine St_ret ?_
          refine Jm_ret1 rfl rfl ?_
          replace hs := hs.erase 0
          simp only [List.cons_append, List.nil_append, List.eraseIdx_cons_zero, List.eraseIdx_cons_succ] at hs
          replace hs := hs.erase 0
          simp only [List.cons_append, List.nil_append, List.eraseIdx_cons_zero, List.eraseIdx_cons_succ] at hs
          replace hs := hs.erase 0
          simp only [List.cons_append, List.nil_append, List.eraseIdx_cons_zero, List.eraseIdx_cons_succ] at hs
          replace hs := hs.front 2 rfl
          simp only [List.cons_append, List.nil_append, List.eraseIdx_cons_zero, List.eraseIdx_cons_succ] at hs
          replace hs := hs.front 2 rfl
          simp only [List.cons_append, List.nil_append, List.eraseIdx_cons_zero, List.eraseIdx_cons_succ] at hs
          replace hs := hs.front 2 rfl
          simp only [List.cons_append, List.nil_append, List.eraseIdx_cons_zero, List.eraseIdx_cons_succ] at hs
          refine ⟨_, rfl, ?_, hs⟩
          first
          | exact congrArg Value.bool (decide_eq_false (fun q => by unfold follows at q; omega)).symm
          | exact congrArg Value.bool (decide_eq_decide.2 (by unfold follows; constructor <;> intro q <;> first | (refine ⟨by omega, .inl ⟨by omega, by assumption, q⟩⟩) | (refine ⟨by omega, .inr ⟨by omega, by omega, q⟩⟩) | (rcases q.2 with q | q <;> first | exact q.2.2 | exact absurd q.1 (by omega))))
          | exact congrArg Value.bool (decide_eq_false (fun q => by rcases q.2 with q | q <;> first | exact absurd q.2.1 (by assumption) | exact absurd q.1 (by omega) | exact absurd q.2.1 (by omega))).symm
        · skip
          refine Ls_off rfl rfl rfl rfl ?_
          refine Ls_off rfl rfl rfl rfl ?_
          refine Ls_off rfl rfl rfl rfl ?_
          refine Ls_off rfl rfl rfl rfl ?_
          refine Ls_off rfl rfl rfl rfl ?_
          refine Ls_run (run_pick_f rfl rfl) rfl ?_
          refine Ls_run (run_assign rfl) rfl ?_
          refine Ls_nil ?_
          refine Jm_seq ?_
          refine St_ret ?_
          refine Jm_ret1 rfl rfl ?_
          replace hs := hs.erase 0
          simp only [List.cons_append, List.nil_append, List.eraseIdx_cons_zero, List.eraseIdx_cons_succ] at hs
          replace hs := hs.erase 0
          simp only [List.cons_append, List.nil_append, List.eraseIdx_cons_zero, List.eraseIdx_cons_succ] at hs
          replace hs := hs.erase 0
          simp only [List.cons_append, List.nil_append, List.eraseIdx_cons_zero, List.eraseIdx_cons_succ] at hs
          replace hs := hs.front 2 rfl
          simp only [List.cons_append, List.nil_append, List.eraseIdx_cons_zero, List.eraseIdx_cons_succ] at hs
          replace hs := hs.front 2 rfl
          simp only [List.cons_append, List.nil_append, List.eraseIdx_cons_zero, List.eraseIdx_cons_succ] at hs
          replace hs := hs.front 2 rfl
          simp only [List.cons_append, List.nil_append, List.eraseIdx_cons_zero, List.eraseIdx_cons_succ] at hs
          refine ⟨_, rfl, ?_, hs⟩
          first
          | exact congrArg Value.bool (decide_eq_false (fun q => by unfold follows at q; omega)).symm
          | exact congrArg Value.bool (decide_eq_decide.2 (by unfold follows; constructor <;> intro q <;> first | (refine ⟨by omega, .inl ⟨by omega, by assumption, q⟩⟩) | (refine ⟨by omega, .inr ⟨by omega, by omega, q⟩⟩) | (rcases q.2 with q | q <;> first | exact q.2.2 | exact absurd q.1 (by omega))))
          | exact congrArg Value.bool (decide_eq_false (fun q => by rcases q.2 with q | q <;> first | exact absurd q.2.1 (by assumption) | exact absurd q.1 (by omega) | exact absurd q.2.1 (by omega))).symm
set_option maxRecDepth 100000 in
set_option maxHeartbeats 1000000 in
theorem Format_bad (w : World) (b : Nat) (parts : Int) (h : parts < 1 ∨ 4 < parts) :
    Calls Try.prog 32 [.pointer (some ⟨b, 0, none⟩), .int .i64 parts].toArray w (Ret (fun v' w' => w = w' ∧ v' = .tuple #[.pointer none, .int .i64 1])) := by
  refine Calls_body Try.func32 rfl rfl rfl (envE_cons (i := 0) (v := .pointer (some ⟨b, 0, none⟩)) rfl (envE_cons (i := 1) (v := .int .i64 parts) rfl envE_nil)) ?_
  refine St_seq ?_
  refine St_region ?_
  refine Ls_run (run_assign rfl) rfl ?_
  refine Ls_run (run_assign rfl) rfl ?_
  refine Ls_nil ?_
  refine Jm_seq ?_
  refine St_seq ?_
  refine St_seq ?_
  refine St_region ?_
  refine Ls_run (run_move rfl) rfl ?_
  refine Ls_run (run_move rfl) rfl ?_
  refine Ls_call Try.func65 nm65 rfl rfl (jcheck_c w b parts) rfl ?_
  rintro v1 w2 ⟨rfl, rfl⟩
  rw [if_pos h]
  refine Ls_run (run_assign rfl) rfl ?_
  refine Ls_nil ?_
  refine Jm_seq ?_
  refine St_seq ?_
  refine St_region ?_
  refine Ls_run (run_move rfl) rfl ?_
  refine Ls_run (run_asB (c := true) (run_neq rfl rfl) (by decide)) rfl ?_
  refine Ls_nil ?_
  refine Jm_seq ?_
  refine St_ift rfl ?_
  refine St_seq ?_
  refine St_region ?_
  refine Ls_run (run_move rfl) rfl ?_
  refine Ls_run (run_assign rfl) rfl ?_
  refine Ls_run (run_assign rfl) rfl ?_
  refine Ls_nil ?_
  refine Jm_seq ?_
  refine St_ret ?_
  refine Jm_then_ret  ?_
  refine Jm_ret2 rfl rfl rfl ?_
  exact ⟨_, rfl, rfl, rfl⟩
set_option maxRecDepth 100000 in
set_option maxHeartbeats 1000000 in
theorem Format_g (B w : World) (L : List Assn) (b : Nat) (d : DSt) (hs : Sat B w (DiskA 85 31 5 b d :: L)) (hdok : ∀ x ∈ d.bl, IsBytes x ∧ x.length ≤ 1024) (m : Nat) (hm1 : 1 ≤ m) (hm4 : m ≤ 4) :
    Calls Try.prog 32 [.pointer (some ⟨b, 0, none⟩), .int .i64 (m : Int)].toArray w (Ret (fun v' w' => ∃ q, v' = .tuple #[.pointer q, .int .i64 (jformat d m).1] ∧ Sat B w' (JO 98 3 q (some ⟨b, 0, none⟩) (jformat d m).2.1 :: DiskA 85 31 5 b (jformat d m).2.2 :: L))) := by
  refine Calls_body Try.func32 rfl rfl rfl (envE_cons (i := 0) (v := .pointer (some ⟨b, 0, none⟩)) rfl (envE_cons (i := 1) (v := .int .i64 (m : Int)) rfl envE_nil)) ?_
  refine St_seq ?_
  refine St_region ?_
  refine Ls_run (run_assign rfl) rfl ?_
  refine Ls_run (run_assign rfl) rfl ?_
  refine Ls_nil ?_
  refine Jm_seq ?_
  refine St_seq ?_
  refine St_seq ?_
  refine St_region ?_
  refine Ls_run (run_move rfl) rfl ?_
  refine Ls_run (run_move rfl) rfl ?_
  refine Ls_call Try.func65 nm65 rfl rfl (jcheck_c w b m) rfl ?_
  rintro v1 w2 ⟨rfl, rfl⟩
  rw [if_neg (by omega)]
  refine Ls_run (run_assign rfl) rfl ?_
  refine Ls_nil ?_
  refine Jm_seq ?_
  refine St_seq ?_
  refine St_region ?_
  refine Ls_run (run_move rfl) rfl ?_
  refine Ls_run (run_asB (c := false) (run_neq rfl rfl) (by decide)) rfl ?_
  refine Ls_nil ?_
  refine Jm_seq ?_
  refine St_iff rfl ?_
  refine St_skip ?_
  refine Jm_seq ?_
  refine St_seq ?_
  refine St_seq ?_
  refine St_region ?_
  refine Ls_run (run_move rfl) rfl ?_
  obtain ⟨A0, c0, hd0⟩ := hs.dhd
  refine Ls_call Try.func29 nm29 rfl rfl (Blocks_c w b d A0 c0 hd0) rfl ?_
  rintro v4 w5 ⟨rfl, rfl⟩
  refine Ls_run (run_lss rfl rfl) rfl ?_
  refine Ls_nil ?_
  refine Jm_seq ?_
  refine St_ifP rfl (fun h6 => ?_) (fun h6 => ?_)
  · skip
    refine St_seq ?_
    refine St_region ?_
    refine Ls_run (run_assign rfl) rfl ?_
    refine Ls_run (run_assign rfl) rfl ?_
    refine Ls_nil ?_
    refine Jm_seq ?_
    refine St_ret ?_
    refine Jm_then_ret  ?_
    refine Jm_ret2 rfl rfl rfl ?_
    have e : jformat d m = (92, none, d) := by unfold jformat; rw [if_neg (by omega), if_pos (by omega)]
    rw [e]
    exact ⟨_, rfl, none, rfl, hs.toJoNone⟩
  · skip
    refine St_skip ?_
    refine Jm_seq ?_
    refine St_seq ?_
    obtain ⟨En7, hEn7⟩ : ∃ F : Nat × Nat × Nat → Env, ∀ (gp : Nat) (gc : Nat) (g7 : Nat), F (gp, gc, g7) = [(0, .pointer (some ⟨b, 0, none⟩)), (1, .int .i64 (m : Int)), (7, .pointer (some ⟨g7, 0, none⟩))] := ⟨(fun (s : Nat × Nat × Nat) => match s with | (gp, gc, g7) => [(0, .pointer (some ⟨b, 0, none⟩)), (1, .int .i64 (m : Int)), (7, .pointer (some ⟨g7, 0, none⟩))]), fun _ _ _ => rfl⟩
    obtain ⟨Iv8, hIv8⟩ : ∃ F : Nat × Nat × Nat → World → Prop, ∀ (gp : Nat) (gc : Nat) (g7 : Nat) (w9 : World), F (gp, gc, g7) w9 = (Sat B w9 (Blk g7 [.int .i64 0, .slice (some ⟨gp, 0, none⟩) m m, .slice (some ⟨gc, 0, none⟩) m m, .int .i64 0] 66 :: Own 3 1 (.slice (some ⟨gp, 0, none⟩) m m) m (List.replicate m (.int .i64 0)) :: Own 3 1 (.slice (some ⟨gc, 0, none⟩) m m) m (List.replicate m (.int .i64 0)) :: DiskA 85 31 5 b d :: L)) := ⟨(fun (s : Nat × Nat × Nat) => match s with | (gp, gc, g7) => fun (w9 : World) => Sat B w9 (Blk g7 [.int .i64 0, .slice (some ⟨gp, 0, none⟩) m m, .slice (some ⟨gc, 0, none⟩) m m, .int .i64 0] 66 :: Own 3 1 (.slice (some ⟨gp, 0, none⟩) m m) m (List.replicate m (.int .i64 0)) :: Own 3 1 (.slice (some ⟨gc, 0, none⟩) m m) m (List.replicate m (.int .i64 0)) :: DiskA 85 31 5 b d :: L)), fun _ _ _ _ => rfl⟩
    refine St_join En7 Iv8 ?_ ?_
    · skip
      refine St_hold (Hold.of (Ls := [_]) hs) mixed ?_
      intro w10 q11
      replace hs := hs.quiet q11
      have hH := Hold.of (Ls := [_]) hs
      refine An_take 0 rfl (by kernel_rfl) (by kernel_rfl) (by kernel_rfl) (fun _ _ _ h => h) hH (fun x hx => run_move rfl) rfl ?_
      refine An_take 2 rfl (by kernel_rfl) (by kernel_rfl) (by kernel_rfl) (fun _ _ _ h => h) hH (fun x hx => run_move rfl) rfl ?_
      refine An_three 1 3 6 (by kernel_rfl) rfl rfl rfl ?_ ?_ ?_
      · skip
        refine Ls_make (m := m) hs Try.underlying62 infq3 rfl rfl rfl (by omega) (by omega) rfl ?_
        intro b12 w13 hs
        replace hs := hs.front 1 rfl
        simp only [List.cons_append, List.nil_append, List.eraseIdx_cons_zero, List.eraseIdx_cons_succ] at hs
        replace hH := Hold.of (Ls := [_]) hs
        refine Ls_nil (Jm_An hH ?_)
        refine An_two 3 6 (by kernel_rfl) rfl rfl ?_ ?_
        · skip
          refine Ls_make (m := m) hs Try.underlying62 infq3 rfl rfl rfl (by omega) (by omega) rfl ?_
          intro b14 w15 hs
          replace hs := hs.front 1 rfl
          simp only [List.cons_append, List.nil_append, List.eraseIdx_cons_zero, List.eraseIdx_cons_succ] at hs
          replace hH := Hold.of (Ls := [_]) hs
          refine Ls_nil (Jm_An hH ?_)
          refine An_take 4 rfl (by kernel_rfl) (by kernel_rfl) (by kernel_rfl) (fun _ _ _ h => h) hH (fun x hx => run_buildO (pv := [(1, _), (2, _)]) rfl (bld64_1_2 _ _ _ _ _ _)) rfl ?_
          refine An_take 5 rfl (by kernel_rfl) (by kernel_rfl) (by kernel_rfl) (fun _ _ _ h => h) hH (fun x hx => run_buildO (pv := [(0, _)]) rfl (bld66_0 _ _ _ _ _ _ _)) rfl ?_
          refine An_only 6 (by kernel_rfl) rfl ?_
          refine Ls_alloc hs inf66 rfl ?_
          intro b17 w16 hs
          replace hs := hs.front 1 rfl
          simp only [List.cons_append, List.nil_append, List.eraseIdx_cons_zero, List.eraseIdx_cons_succ] at hs
          replace hH := Hold.of (Ls := [_]) hs
          refine Ls_nil (Jm_An hH ?_)
          refine An_only 7 (by kernel_rfl) rfl ?_
          replace hs := hs.front 1 rfl
          simp only [List.cons_append, List.nil_append, List.eraseIdx_cons_zero, List.eraseIdx_cons_succ] at hs
          refine Ls_storeAgg hs inf66 rfl rfl rfl rfl (by simp [Value.oneCell', Value.cells, jcells]) ?_
          intro w18 hs
          replace hs := hs.front 1 rfl
          simp only [List.cons_append, List.nil_append, List.eraseIdx_cons_zero, List.eraseIdx_cons_succ] at hs
          replace hH := Hold.of (Ls := [_]) hs
          refine Ls_nil (Jm_An hH ?_)
          refine An_done (by kernel_rfl) ?_
          replace hs := hs.front 2 rfl
          simp only [List.cons_append, List.nil_append, List.eraseIdx_cons_zero, List.eraseIdx_cons_succ] at hs
          replace hs := hs.front 3 rfl
          simp only [List.cons_append, List.nil_append, List.eraseIdx_cons_zero, List.eraseIdx_cons_succ] at hs
          replace hs := hs.front 3 rfl
          simp only [List.cons_append, List.nil_append, List.eraseIdx_cons_zero, List.eraseIdx_cons_succ] at hs
          refine Jm_join (b12, b14, b17) ?_ ?_
          · rw [hEn7]; exact (subE_cons rfl (subE_cons rfl (subE_cons rfl subE_nil)))
          · skip
            rw [hIv8]
            exact hs
        · skip
          refine Ls_alloc hs inf66 rfl ?_
          intro b20 w19 hs
          replace hs := hs.front 1 rfl
          simp only [List.cons_append, List.nil_append, List.eraseIdx_cons_zero, List.eraseIdx_cons_succ] at hs
          replace hH := Hold.of (Ls := [_]) hs
          refine Ls_nil (Jm_An hH ?_)
          refine An_only 3 (by kernel_rfl) rfl ?_
          refine Ls_make (m := m) hs Try.underlying62 infq3 rfl rfl rfl (by omega) (by omega) rfl ?_
          intro b21 w22 hs
          replace hs := hs.front 1 rfl
          simp only [List.cons_append, List.nil_append, List.eraseIdx_cons_zero, List.eraseIdx_cons_succ] at hs
          replace hH := Hold.of (Ls := [_]) hs
          refine Ls_nil (Jm_An hH ?_)
          refine An_take 4 rfl (by kernel_rfl) (by kernel_rfl) (by kernel_rfl) (fun _ _ _ h => h) hH (fun x hx => run_buildO (pv := [(1, _), (2, _)]) rfl (bld64_1_2 _ _ _ _ _ _)) rfl ?_
          refine An_take 5 rfl (by kernel_rfl) (by kernel_rfl) (by kernel_rfl) (fun _ _ _ h => h) hH (fun x hx => run_buildO (pv := [(0, _)]) rfl (bld66_0 _ _ _ _ _ _ _)) rfl ?_
          refine An_only 7 (by kernel_rfl) rfl ?_
          replace hs := hs.front 2 rfl
          simp only [List.cons_append, List.nil_append, List.eraseIdx_cons_zero, List.eraseIdx_cons_succ] at hs
          refine Ls_storeAgg hs inf66 rfl rfl rfl rfl (by simp [Value.oneCell', Value.cells, jcells]) ?_
          intro w23 hs
          replace hs := hs.front 1 rfl
          simp only [List.cons_append, List.nil_append, List.eraseIdx_cons_zero, List.eraseIdx_cons_succ] at hs
          replace hH := Hold.of (Ls := [_]) hs
          refine Ls_nil (Jm_An hH ?_)
          refine An_done (by kernel_rfl) ?_
          replace hs := hs.front 2 rfl
          simp only [List.cons_append, List.nil_append, List.eraseIdx_cons_zero, List.eraseIdx_cons_succ] at hs
          replace hs := hs.front 3 rfl
          simp only [List.cons_append, List.nil_append, List.eraseIdx_cons_zero, List.eraseIdx_cons_succ] at hs
          replace hs := hs.front 3 rfl
          simp only [List.cons_append, List.nil_append, List.eraseIdx_cons_zero, List.eraseIdx_cons_succ] at hs
          refine Jm_join (b12, b21, b20) ?_ ?_
          · rw [hEn7]; exact (subE_cons rfl (subE_cons rfl (subE_cons rfl subE_nil)))
          · skip
            rw [hIv8]
            exact hs
      · skip
        refine Ls_make (m := m) hs Try.underlying62 infq3 rfl rfl rfl (by omega) (by omega) rfl ?_
        intro b24 w25 hs
        replace hs := hs.front 1 rfl
        simp only [List.cons_append, List.nil_append, List.eraseIdx_cons_zero, List.eraseIdx_cons_succ] at hs
        replace hH := Hold.of (Ls := [_]) hs
        refine Ls_nil (Jm_An hH ?_)
        refine An_two 1 6 (by kernel_rfl) rfl rfl ?_ ?_
        · skip
          refine Ls_make (m := m) hs Try.underlying62 infq3 rfl rfl rfl (by omega) (by omega) rfl ?_
          intro b26 w27 hs
          replace hs := hs.front 1 rfl
          simp only [List.cons_append, List.nil_append, List.eraseIdx_cons_zero, List.eraseIdx_cons_succ] at hs
          replace hH := Hold.of (Ls := [_]) hs
          refine Ls_nil (Jm_An hH ?_)
          refine An_take 4 rfl (by kernel_rfl) (by kernel_rfl) (by kernel_rfl) (fun _ _ _ h => h) hH (fun x hx => run_buildO (pv := [(1, _), (2, _)]) rfl (bld64_1_2 _ _ _ _ _ _)) rfl ?_
          refine An_take 5 rfl (by kernel_rfl) (by kernel_rfl) (by kernel_rfl) (fun _ _ _ h => h) hH (fun x hx => run_buildO (pv := [(0, _)]) rfl (bld66_0 _ _ _ _ _ _ _)) rfl ?_
          refine An_only 6 (by kernel_rfl) rfl ?_
          refine Ls_alloc hs inf66 rfl ?_
          intro b29 w28 hs
          replace hs := hs.front 1 rfl
          simp only [List.cons_append, List.nil_append, List.eraseIdx_cons_zero, List.eraseIdx_cons_succ] at hs
          replace hH := Hold.of (Ls := [_]) hs
          refine Ls_nil (Jm_An hH ?_)
          refine An_only 7 (by kernel_rfl) rfl ?_
          replace hs := hs.front 1 rfl
          simp only [List.cons_append, List.nil_append, List.eraseIdx_cons_zero, List.eraseIdx_cons_succ] at hs
          refine Ls_storeAgg hs inf66 rfl rfl rfl rfl (by simp [Value.oneCell', Value.cells, jcells]) ?_
          intro w30 hs
          replace hs := hs.front 1 rfl
          simp only [List.cons_append, List.nil_append, List.eraseIdx_cons_zero, List.eraseIdx_cons_succ] at hs
          replace hH := Hold.of (Ls := [_]) hs
          refine Ls_nil (Jm_An hH ?_)
          refine An_done (by kernel_rfl) ?_
          replace hs := hs.front 3 rfl
          simp only [List.cons_append, List.nil_append, List.eraseIdx_cons_zero, List.eraseIdx_cons_succ] at hs
          replace hs := hs.front 3 rfl
          simp only [List.cons_append, List.nil_append, List.eraseIdx_cons_zero, List.eraseIdx_cons_succ] at hs
          replace hs := hs.front 3 rfl
          simp only [List.cons_append, List.nil_append, List.eraseIdx_cons_zero, List.eraseIdx_cons_succ] at hs
          refine Jm_join (b26, b24, b29) ?_ ?_
          · rw [hEn7]; exact (subE_cons rfl (subE_cons rfl (subE_cons rfl subE_nil)))
          · skip
            rw [hIv8]
            exact hs
        · skip
          refine Ls_alloc hs inf66 rfl ?_
          intro b32 w31 hs
          replace hs := hs.front 1 rfl
          simp only [List.cons_append, List.nil_append, List.eraseIdx_cons_zero, List.eraseIdx_cons_succ] at hs
          replace hH := Hold.of (Ls := [_]) hs
          refine Ls_nil (Jm_An hH ?_)
          refine An_only 1 (by kernel_rfl) rfl ?_
          refine Ls_make (m := m) hs Try.underlying62 infq3 rfl rfl rfl (by omega) (by omega) rfl ?_
          intro b33 w34 hs
          replace hs := hs.front 1 rfl
          simp only [List.cons_append, List.nil_append, List.eraseIdx_cons_zero, List.eraseIdx_cons_succ] at hs
          replace hH := Hold.of (Ls := [_]) hs
          refine Ls_nil (Jm_An hH ?_)
          refine An_take 4 rfl (by kernel_rfl) (by kernel_rfl) (by kernel_rfl) (fun _ _ _ h => h) hH (fun x hx => run_buildO (pv := [(1, _), (2, _)]) rfl (bld64_1_2 _ _ _ _ _ _)) rfl ?_
          refine An_take 5 rfl (by kernel_rfl) (by kernel_rfl) (by kernel_rfl) (fun _ _ _ h => h) hH (fun x hx => run_buildO (pv := [(0, _)]) rfl (bld66_0 _ _ _ _ _ _ _)) rfl ?_
          refine An_only 7 (by kernel_rfl) rfl ?_
          replace hs := hs.front 2 rfl
          simp only [List.cons_append, List.nil_append, List.eraseIdx_cons_zero, List.eraseIdx_cons_succ] at hs
          refine Ls_storeAgg hs inf66 rfl rfl rfl rfl (by simp [Value.oneCell', Value.cells, jcells]) ?_
          intro w35 hs
          replace hs := hs.front 1 rfl
          simp only [List.cons_append, List.nil_append, List.eraseIdx_cons_zero, List.eraseIdx_cons_succ] at hs
          replace hH := Hold.of (Ls := [_]) hs
          refine Ls_nil (Jm_An hH ?_)
          refine An_done (by kernel_rfl) ?_
          replace hs := hs.front 3 rfl
          simp only [List.cons_append, List.nil_append, List.eraseIdx_cons_zero, List.eraseIdx_cons_succ] at hs
          replace hs := hs.front 3 rfl
          simp only [List.cons_append, List.nil_append, List.eraseIdx_cons_zero, List.eraseIdx_cons_succ] at hs
          replace hs := hs.front 3 rfl
          simp only [List.cons_append, List.nil_append, List.eraseIdx_cons_zero, List.eraseIdx_cons_succ] at hs
          refine Jm_join (b33, b24, b32) ?_ ?_
          · rw [hEn7]; exact (subE_cons rfl (subE_cons rfl (subE_cons rfl subE_nil)))
          · skip
            rw [hIv8]
            exact hs
      · skip
        refine Ls_alloc hs inf66 rfl ?_
        intro b37 w36 hs
        replace hs := hs.front 1 rfl
        simp only [List.cons_append, List.nil_append, List.eraseIdx_cons_zero, List.eraseIdx_cons_succ] at hs
        replace hH := Hold.of (Ls := [_]) hs
        refine Ls_nil (Jm_An hH ?_)
        refine An_two 1 3 (by kernel_rfl) rfl rfl ?_ ?_
        · skip
          refine Ls_make (m := m) hs Try.underlying62 infq3 rfl rfl rfl (by omega) (by omega) rfl ?_
          intro b38 w39 hs
          replace hs := hs.front 1 rfl
          simp only [List.cons_append, List.nil_append, List.eraseIdx_cons_zero, List.eraseIdx_cons_succ] at hs
          replace hH := Hold.of (Ls := [_]) hs
          refine Ls_nil (Jm_An hH ?_)
          refine An_only 3 (by kernel_rfl) rfl ?_
          refine Ls_make (m := m) hs Try.underlying62 infq3 rfl rfl rfl (by omega) (by omega) rfl ?_
          intro b40 w41 hs
          replace hs := hs.front 1 rfl
          simp only [List.cons_append, List.nil_append, List.eraseIdx_cons_zero, List.eraseIdx_cons_succ] at hs
          replace hH := Hold.of (Ls := [_]) hs
          refine Ls_nil (Jm_An hH ?_)
          refine An_take 4 rfl (by kernel_rfl) (by kernel_rfl) (by kernel_rfl) (fun _ _ _ h => h) hH (fun x hx => run_buildO (pv := [(1, _), (2, _)]) rfl (bld64_1_2 _ _ _ _ _ _)) rfl ?_
          refine An_take 5 rfl (by kernel_rfl) (by kernel_rfl) (by kernel_rfl) (fun _ _ _ h => h) hH (fun x hx => run_buildO (pv := [(0, _)]) rfl (bld66_0 _ _ _ _ _ _ _)) rfl ?_
          refine An_only 7 (by kernel_rfl) rfl ?_
          replace hs := hs.front 3 rfl
          simp only [List.cons_append, List.nil_append, List.eraseIdx_cons_zero, List.eraseIdx_cons_succ] at hs
          refine Ls_storeAgg hs inf66 rfl rfl rfl rfl (by simp [Value.oneCell', Value.cells, jcells]) ?_
          intro w42 hs
          replace hs := hs.front 1 rfl
          simp only [List.cons_append, List.nil_append, List.eraseIdx_cons_zero, List.eraseIdx_cons_succ] at hs
          replace hH := Hold.of (Ls := [_]) hs
          refine Ls_nil (Jm_An hH ?_)
          refine An_done (by kernel_rfl) ?_
          replace hs := hs.front 2 rfl
          simp only [List.cons_append, List.nil_append, List.eraseIdx_cons_zero, List.eraseIdx_cons_succ] at hs
          replace hs := hs.front 3 rfl
          simp only [List.cons_append, List.nil_append, List.eraseIdx_cons_zero, List.eraseIdx_cons_succ] at hs
          replace hs := hs.front 3 rfl
          simp only [List.cons_append, List.nil_append, List.eraseIdx_cons_zero, List.eraseIdx_cons_succ] at hs
          refine Jm_join (b38, b40, b37) ?_ ?_
          · rw [hEn7]; exact (subE_cons rfl (subE_cons rfl (subE_cons rfl subE_nil)))
          · skip
            rw [hIv8]
            exact hs
        · skip
          refine Ls_make (m := m) hs Try.underlying62 infq3 rfl rfl rfl (by omega) (by omega) rfl ?_
          intro b43 w44 hs
          replace hs := hs.front 1 rfl
          simp only [List.cons_append, List.nil_append, List.eraseIdx_cons_zero, List.eraseIdx_cons_succ] at hs
          replace hH := Hold.of (Ls := [_]) hs
          refine Ls_nil (Jm_An hH ?_)
          refine An_only 1 (by kernel_rfl) rfl ?_
          refine Ls_make (m := m) hs Try.underlying62 infq3 rfl rfl rfl (by omega) (by omega) rfl ?_
          intro b45 w46 hs
          replace hs := hs.front 1 rfl
          simp only [List.cons_append, List.nil_append, List.eraseIdx_cons_zero, List.eraseIdx_cons_succ] at hs
          replace hH := Hold.of (Ls := [_]) hs
          refine Ls_nil (Jm_An hH ?_)
          refine An_take 4 rfl (by kernel_rfl) (by kernel_rfl) (by kernel_rfl) (fun _ _ _ h => h) hH (fun x hx => run_buildO (pv := [(1, _), (2, _)]) rfl (bld64_1_2 _ _ _ _ _ _)) rfl ?_
          refine An_take 5 rfl (by kernel_rfl) (by kernel_rfl) (by kernel_rfl) (fun _ _ _ h => h) hH (fun x hx => run_buildO (pv := [(0, _)]) rfl (bld66_0 _ _ _ _ _ _ _)) rfl ?_
          refine An_only 7 (by kernel_rfl) rfl ?_
          replace hs := hs.front 3 rfl
          simp only [List.cons_append, List.nil_append, List.eraseIdx_cons_zero, List.eraseIdx_cons_succ] at hs
          refine Ls_storeAgg hs inf66 rfl rfl rfl rfl (by simp [Value.oneCell', Value.cells, jcells]) ?_
          intro w47 hs
          replace hs := hs.front 1 rfl
          simp only [List.cons_append, List.nil_append, List.eraseIdx_cons_zero, List.eraseIdx_cons_succ] at hs
          replace hH := Hold.of (Ls := [_]) hs
          refine Ls_nil (Jm_An hH ?_)
          refine An_done (by kernel_rfl) ?_
          replace hs := hs.front 3 rfl
          simp only [List.cons_append, List.nil_append, List.eraseIdx_cons_zero, List.eraseIdx_cons_succ] at hs
          replace hs := hs.front 3 rfl
          simp only [List.cons_append, List.nil_append, List.eraseIdx_cons_zero, List.eraseIdx_cons_succ] at hs
          replace hs := hs.front 3 rfl
          simp only [List.cons_append, List.nil_append, List.eraseIdx_cons_zero, List.eraseIdx_cons_succ] at hs
          refine Jm_join (b45, b43, b37) ?_ ?_
          · rw [hEn7]; exact (subE_cons rfl (subE_cons rfl (subE_cons rfl subE_nil)))
          · skip
            rw [hIv8]
            exact hs
    · skip
      rintro ⟨gp, gc, g7⟩ w9 hI48
      rw [hIv8] at hI48
      replace hs := hI48
      refine Jm_eqE (hEn7 _ _ _) ?_
      refine Jm_seq ?_
      refine St_seq ?_
      refine St_region ?_
      refine Ls_run (run_move rfl) rfl ?_
      refine Ls_run (run_move rfl) rfl ?_
      refine Ls_run (run_load_agg agg66 inf66 rfl rfl (hs.blk_cells 0 rfl 0 4)) rfl ?_
      refine Ls_run (run_buildO (pv := [(0, _), (1, _)]) rfl (bld96_0_1 _ _ _ _ _ _ _ _ _)) rfl ?_
      refine Ls_run (run_buildO (pv := [(0, _), (1, _), (2, _)]) rfl (bld98_0_1_2 _ _ _ _ _ _ _ _ _ _ _)) rfl ?_
      refine Ls_box hs rfl rfl ?_
      intro b50 w49 hs
      refine Ls_run (run_assign rfl) rfl ?_
      refine Ls_nil ?_
      refine Jm_seq ?_
      refine St_seq ?_
      refine St_seq ?_
      refine St_region ?_
      have hbyd1 : IsBytes [] := by simp [IsBytes]
      refine Ls_run (run_move rfl) rfl ?_
      replace hs := hs.front 4 rfl
      simp only [List.cons_append, List.nil_append, List.eraseIdx_cons_zero, List.eraseIdx_cons_succ] at hs
      refine Ls_call Try.func17 nm17 rfl rfl (Write_c B w49 _ b d hs (fun r hr => (hdok r hr).2) 1 none 0 0 [] (fun w' X q => (show Rd w' none 0 0 1 (bytesV []) from Rd.none w' 1)) (by omega)) rfl ?_
      rintro v51 w52 ⟨rfl, hs⟩
      obtain ⟨⟨ed1, d1⟩, hwd1⟩ : ∃ q, dwrite d 1 [] = q := ⟨_, rfl⟩
      have hkpd1 := dwrite_keeps d 1 [] (P := fun r => IsBytes r ∧ r.length ≤ 1024) hdok (fun hle => ⟨hbyd1, hle⟩)
      simp only [hwd1] at hs ⊢ hkpd1
      have hd1ok := hkpd1.1
      refine Ls_run (run_assign rfl) rfl ?_
      refine Ls_nil ?_
      refine Jm_seq ?_
      refine St_seq ?_
      refine St_region ?_
      refine Ls_run (run_move rfl) rfl ?_
      refine Ls_run (run_neq rfl rfl) rfl ?_
      refine Ls_nil ?_
      refine Jm_seq ?_
      refine St_ifP rfl (fun h53 => ?_) (fun h53 => ?_)
      · skip
        refine St_seq ?_
        refine St_region ?_
        refine Ls_run (run_move rfl) rfl ?_
        refine Ls_run (run_assign rfl) rfl ?_
        refine Ls_run (run_assign rfl) rfl ?_
        refine Ls_nil ?_
        refine Jm_seq ?_
        refine St_ret ?_
        refine Jm_then_ret  ?_
        refine Jm_ret2 rfl rfl rfl ?_
        replace hs := hs.erase 2
        simp only [List.cons_append, List.nil_append, List.eraseIdx_cons_zero, List.eraseIdx_cons_succ] at hs
        replace hs := hs.erase 1
        simp only [List.cons_append, List.nil_append, List.eraseIdx_cons_zero, List.eraseIdx_cons_succ] at hs
        replace hs := hs.erase 1
        simp only [List.cons_append, List.nil_append, List.eraseIdx_cons_zero, List.eraseIdx_cons_succ] at hs
        replace hs := hs.erase 1
        simp only [List.cons_append, List.nil_append, List.eraseIdx_cons_zero, List.eraseIdx_cons_succ] at hs
        have e : jformat d m = (ed1, none, d1) := by unfold jformat; rw [if_neg (by omega), if_neg (by omega), hwd1, if_pos (by assumption)]
        rw [e]
        exact ⟨_, rfl, none, rfl, hs.toJoNone⟩
      · skip
        refine St_skip ?_
        refine Jm_seq ?_
        refine St_seq ?_
        refine St_seq ?_
        refine St_region ?_
        refine Ls_run (run_move rfl) rfl ?_
        refine Ls_run (run_move rfl) rfl ?_
        refine Ls_run (run_nilCheck rfl) rfl ?_
        refine Ls_run (run_as (run_field Try.underlying98 rfl inf96 (by decide) rfl) (show _ = Value.pointer (some ⟨b50, 2, none⟩) from rfl)) rfl ?_
        rw [← flatKI_rep m] at hs
        refine Ls_run (run_load_agg agg96 inf96 rfl rfl (hs.blk_cells 1 rfl 2 5)) rfl ?_
        have hnk := (jnew_ok (parts := m) hm1 hm4).1
        refine Ls_call Try.func66 nm66 rfl rfl (bytes_e w52 (jnew m).n _ _ _ _ m m (by simp [jnew]) (by simp [jnew]) (hs.rd_at 3 rfl) (hs.rd_at 4 rfl) (by omega) 0 0 1 _ rfl rfl hnk (by simp [jnew]; omega) (by decide)) rfl ?_
        rintro v54 w55 ⟨Ab, cb, rfl, hsB⟩
        replace hs := hs.trans hsB
        simp only [List.cons_append, List.nil_append] at hs
        have hnl := nbytes_len hnk (by simp [jnew]; omega) (gen := 1) (by decide)
        obtain ⟨nb, hnb⟩ : ∃ q, q = nbytes 1 (jnew m).n := ⟨_, rfl⟩
        have hbyd2 : IsBytes nb := by rw [hnb]; exact nbytes_bytes _ _
        rw [← hnb] at hs hnl ⊢
        replace hs := hs.front 1 rfl
        simp only [List.cons_append, List.nil_append, List.eraseIdx_cons_zero, List.eraseIdx_cons_succ] at hs
        refine Ls_call Try.func17 nm17 rfl rfl (Write_c B w55 _ b d1 hs (fun r hr => (hd1ok r hr).2) 0 Ab nb.length cb nb (fun w' X q => q.rd_at 1 rfl) (by omega)) rfl ?_
        rintro v56 w57 ⟨rfl, hs⟩
        obtain ⟨⟨ed2, d2⟩, hwd2⟩ : ∃ q, dwrite d1 0 nb = q := ⟨_, rfl⟩
        have hkpd2 := dwrite_keeps d1 0 nb (P := fun r => IsBytes r ∧ r.length ≤ 1024) hd1ok (fun hle => ⟨hbyd2, hle⟩)
        simp only [hwd2] at hs ⊢ hkpd2
        have hd2ok := hkpd2.1
        refine Ls_run (run_assign rfl) rfl ?_
        refine Ls_nil ?_
        refine Jm_seq ?_
        refine St_seq ?_
        refine St_region ?_
        refine Ls_run (run_move rfl) rfl ?_
        refine Ls_run (run_neq rfl rfl) rfl ?_
        refine Ls_nil ?_
        refine Jm_seq ?_
        refine St_ifP rfl (fun h58 => ?_) (fun h58 => ?_)
        · skip
          refine St_seq ?_
          refine St_region ?_
          refine Ls_run (run_move rfl) rfl ?_
          refine Ls_run (run_assign rfl) rfl ?_
          refine Ls_run (run_assign rfl) rfl ?_
          refine Ls_nil ?_
          refine Jm_seq ?_
          refine St_ret ?_
          refine Jm_then_ret  ?_
          refine Jm_ret2 rfl rfl rfl ?_
          replace hs := hs.erase 1
          simp only [List.cons_append, List.nil_append, List.eraseIdx_cons_zero, List.eraseIdx_cons_succ] at hs
          replace hs := hs.erase 2
          simp only [List.cons_append, List.nil_append, List.eraseIdx_cons_zero, List.eraseIdx_cons_succ] at hs
          replace hs := hs.erase 1
          simp only [List.cons_append, List.nil_append, List.eraseIdx_cons_zero, List.eraseIdx_cons_succ] at hs
          replace hs := hs.erase 1
          simp only [List.cons_append, List.nil_append, List.eraseIdx_cons_zero, List.eraseIdx_cons_succ] at hs
          replace hs := hs.erase 1
          simp only [List.cons_append, List.nil_append, List.eraseIdx_cons_zero, List.eraseIdx_cons_succ] at hs
          have e : jformat d m = (ed2, none, d2) := by unfold jformat; rw [if_neg (by omega), if_neg (by omega), hwd1, if_neg (by assumption)]; simp only [Int.toNat_natCast, ← hnb, hwd2]; rw [if_pos (by assumption)]
          rw [e]
          exact ⟨_, rfl, none, rfl, hs.toJoNone⟩
        · skip
          refine St_skip ?_
          refine Jm_seq ?_
          refine St_seq ?_
          refine St_region ?_
          refine Ls_run (run_move rfl) rfl ?_
          refine Ls_run (run_assign rfl) rfl ?_
          refine Ls_run (run_assign rfl) rfl ?_
          refine Ls_nil ?_
          refine Jm_seq ?_
          refine St_ret ?_
          refine Jm_ret2 rfl rfl rfl ?_
          replace hs := hs.erase 1
          simp only [List.cons_append, List.nil_append, List.eraseIdx_cons_zero, List.eraseIdx_cons_succ] at hs
          replace hs := hs.erase 2
          simp only [List.cons_append, List.nil_append, List.eraseIdx_cons_zero, List.eraseIdx_cons_succ] at hs
          replace hs := hs.front 3 rfl
          simp only [List.cons_append, List.nil_append, List.eraseIdx_cons_zero, List.eraseIdx_cons_succ] at hs
          replace hs := hs.front 3 rfl
          simp only [List.cons_append, List.nil_append, List.eraseIdx_cons_zero, List.eraseIdx_cons_succ] at hs
          replace hs := hs.front 3 rfl
          simp only [List.cons_append, List.nil_append, List.eraseIdx_cons_zero, List.eraseIdx_cons_succ] at hs
          have e : jformat d m = (0, some (jnew m), d2) := by unfold jformat; rw [if_neg (by omega), if_neg (by omega), hwd1, if_neg (by assumption)]; simp only [Int.toNat_natCast, ← hnb, hwd2]; rw [if_neg (by assumption)]
          rw [e]
          have e1 : (jnew m).n.prev.length = m := by simp [jnew]
          have e2 : (jnew m).n.cur.length = m := by simp [jnew]
          refine ⟨_, rfl, _, rfl, Sat.toJoSome (Sat.jshut (j := jnew m) (Ap := some ⟨gp, 0, none⟩) (cp := m) (Ac := some ⟨gc, 0, none⟩) (cc := m) ?_)⟩
          simp only [jcells, e1, e2]
          exact hs
end Go.Proofs.Ytpmkedgennnekaa.Lg
