/-
  The reference's disk, walked. By program (gen/disk7.py).
-/
import Derived.Test.YtipkfdeiallifaaDisk6
import Derived.Test.YtipkfdeiallifaaDiskRef
set_option linter.unusedVariables false
set_option linter.unusedSimpArgs false
namespace Go.Proofs.Ytipkfdeiallifaa.Lg
open Go Go.RowKit
set_option maxRecDepth 100000 in
set_option maxHeartbeats 1000000 in
theorem rDown_c (w : World) (b : Nat) (s : RSt) (Ao : Option Addr) (co : Nat) (hd : w.heap[b]? = some (.cells (rcells s Ao co).toArray 135 (0, 0))) :
    Calls Try.prog 104 [.pointer (some ⟨b, 0, none⟩)].toArray w (Ret (fun v' w' => w = w' ∧ v' = .bool s.down)) := by
  have hs := Sat.ofBlk hd
  refine Calls_body Try.func104 rfl rfl rfl (envE_cons (i := 0) (v := .pointer (some ⟨b, 0, none⟩)) rfl envE_nil) ?_
  refine St_seq ?_
  refine St_region ?_
  refine Ls_run (run_assign rfl) rfl ?_
  refine Ls_nil ?_
  refine Jm_seq ?_
  refine St_seq ?_
  refine St_region ?_
  refine Ls_run (run_move rfl) rfl ?_
  refine Ls_run (run_asB (c := true) (run_neq_ptr_nil Try.underlying71 rfl rfl) rfl) rfl ?_
  refine Ls_run (run_move rfl) rfl ?_
  refine Ls_on rfl rfl ?_
  refine Ls_run (run_move rfl) rfl ?_
  refine Ls_on rfl rfl ?_
  refine Ls_run (run_nilCheck rfl) rfl ?_
  refine Ls_on rfl rfl ?_
  refine Ls_run (run_as (run_field Try.underlying135 rfl inf4 (by decide) rfl) (show _ = Value.pointer (some ⟨b, 1, none⟩) from rfl)) rfl ?_
  refine Ls_on rfl rfl ?_
  refine Ls_run (run_load sc4 rfl (hs.blk_at 0 rfl 1 rfl)) rfl ?_
  refine Ls_run (run_pick_t rfl rfl) rfl ?_
  refine Ls_run (run_assign rfl) rfl ?_
  refine Ls_nil ?_
  refine Jm_seq ?_
  refine St_ret ?_
  refine Jm_ret1 rfl rfl ?_
  exact ⟨_, rfl, rfl, rfl⟩
set_option maxRecDepth 100000 in
set_option maxHeartbeats 1000000 in
theorem rWrites_c (w : World) (b : Nat) (s : RSt) (Ao : Option Addr) (co : Nat) (hd : w.heap[b]? = some (.cells (rcells s Ao co).toArray 135 (0, 0))) :
    Calls Try.prog 55 [.pointer (some ⟨b, 0, none⟩)].toArray w (Ret (fun v' w' => w = w' ∧ v' = .int .i64 s.writes)) := by
  have hs := Sat.ofBlk hd
  refine Calls_body Try.func55 rfl rfl rfl (envE_cons (i := 0) (v := .pointer (some ⟨b, 0, none⟩)) rfl envE_nil) ?_
  refine St_seq ?_
  refine St_region ?_
  refine Ls_run (run_assign rfl) rfl ?_
  refine Ls_nil ?_
  refine Jm_seq ?_
  refine St_seq ?_
  refine St_seq ?_
  refine St_region ?_
  refine Ls_run (run_move rfl) rfl ?_
  refine Ls_run (run_asB (c := false) (run_eql_ptr_nil Try.underlying71 rfl rfl) rfl) rfl ?_
  refine Ls_nil ?_
  refine Jm_seq ?_
  refine St_iff rfl ?_
  refine St_skip ?_
  refine Jm_seq ?_
  refine St_seq ?_
  refine St_region ?_
  refine Ls_run (run_move rfl) rfl ?_
  refine Ls_run (run_nilCheck rfl) rfl ?_
  refine Ls_run (run_as (run_field Try.underlying135 rfl inf3 (by decide) rfl) (show _ = Value.pointer (some ⟨b, 4, none⟩) from rfl)) rfl ?_
  refine Ls_run (run_load sc3 rfl (hs.blk_at 0 rfl 4 rfl)) rfl ?_
  refine Ls_run (run_assign rfl) rfl ?_
  refine Ls_nil ?_
  refine Jm_seq ?_
  refine St_ret ?_
  refine Jm_ret1 rfl rfl ?_
  exact ⟨_, rfl, rfl, rfl⟩
set_option maxRecDepth 100000 in
set_option maxHeartbeats 1000000 in
theorem rReads_c (w : World) (b : Nat) (s : RSt) (Ao : Option Addr) (co : Nat) (hd : w.heap[b]? = some (.cells (rcells s Ao co).toArray 135 (0, 0))) :
    Calls Try.prog 57 [.pointer (some ⟨b, 0, none⟩)].toArray w (Ret (fun v' w' => w = w' ∧ v' = .int .i64 s.reads)) := by
  have hs := Sat.ofBlk hd
  refine Calls_body Try.func57 rfl rfl rfl (envE_cons (i := 0) (v := .pointer (some ⟨b, 0, none⟩)) rfl envE_nil) ?_
  refine St_seq ?_
  refine St_region ?_
  refine Ls_run (run_assign rfl) rfl ?_
  refine Ls_nil ?_
  refine Jm_seq ?_
  refine St_seq ?_
  refine St_seq ?_
  refine St_region ?_
  refine Ls_run (run_move rfl) rfl ?_
  refine Ls_run (run_asB (c := false) (run_eql_ptr_nil Try.underlying71 rfl rfl) rfl) rfl ?_
  refine Ls_nil ?_
  refine Jm_seq ?_
  refine St_iff rfl ?_
  refine St_skip ?_
  refine Jm_seq ?_
  refine St_seq ?_
  refine St_region ?_
  refine Ls_run (run_move rfl) rfl ?_
  refine Ls_run (run_nilCheck rfl) rfl ?_
  refine Ls_run (run_as (run_field Try.underlying135 rfl inf3 (by decide) rfl) (show _ = Value.pointer (some ⟨b, 3, none⟩) from rfl)) rfl ?_
  refine Ls_run (run_load sc3 rfl (hs.blk_at 0 rfl 3 rfl)) rfl ?_
  refine Ls_run (run_assign rfl) rfl ?_
  refine Ls_nil ?_
  refine Jm_seq ?_
  refine St_ret ?_
  refine Jm_ret1 rfl rfl ?_
  exact ⟨_, rfl, rfl, rfl⟩
set_option maxRecDepth 100000 in
set_option maxHeartbeats 1000000 in
theorem rBlocks_c (w : World) (b : Nat) (s : RSt) (Ao : Option Addr) (co : Nat) (hd : w.heap[b]? = some (.cells (rcells s Ao co).toArray 135 (0, 0))) :
    Calls Try.prog 97 [.pointer (some ⟨b, 0, none⟩)].toArray w (Ret (fun v' w' => w = w' ∧ v' = .int .i64 (s.bl.length : Int))) := by
  have hs := Sat.ofBlk hd
  refine Calls_body Try.func97 rfl rfl rfl (envE_cons (i := 0) (v := .pointer (some ⟨b, 0, none⟩)) rfl envE_nil) ?_
  refine St_seq ?_
  refine St_region ?_
  refine Ls_run (run_assign rfl) rfl ?_
  refine Ls_nil ?_
  refine Jm_seq ?_
  refine St_seq ?_
  refine St_seq ?_
  refine St_region ?_
  refine Ls_run (run_move rfl) rfl ?_
  refine Ls_run (run_asB (c := false) (run_eql_ptr_nil Try.underlying71 rfl rfl) rfl) rfl ?_
  refine Ls_nil ?_
  refine Jm_seq ?_
  refine St_iff rfl ?_
  refine St_skip ?_
  refine Jm_seq ?_
  refine St_seq ?_
  refine St_region ?_
  refine Ls_run (run_move rfl) rfl ?_
  refine Ls_run (run_nilCheck rfl) rfl ?_
  refine Ls_run (run_as (run_field Try.underlying135 rfl inf55 (by decide) rfl) (show _ = Value.pointer (some ⟨b, 0, none⟩) from rfl)) rfl ?_
  refine Ls_run (run_load sc55 rfl (hs.blk_at 0 rfl 0 rfl)) rfl ?_
  refine Ls_run (run_len Try.underlying55 rfl) rfl ?_
  refine Ls_run (run_assign rfl) rfl ?_
  refine Ls_nil ?_
  refine Jm_seq ?_
  refine St_ret ?_
  refine Jm_ret1 rfl rfl ?_
  exact ⟨_, rfl, rfl, rfl⟩
set_option maxRecDepth 100000 in
set_option maxHeartbeats 1000000 in
theorem rOff_c (B w : World) (L : List Assn) (b : Nat) (s : RSt) (Ao : Option Addr) (co : Nat) (hs : Sat B w (Blk b (rcells s Ao co) 135 :: L)) :
    Calls Try.prog 46 [.pointer (some ⟨b, 0, none⟩)].toArray w (Ret (fun v' w' => v' = .tuple #[] ∧ Sat B w' (Blk b (rcells (roff s) Ao co) 135 :: L))) := by
  refine Calls_body Try.func46 rfl rfl rfl (envE_cons (i := 0) (v := .pointer (some ⟨b, 0, none⟩)) rfl envE_nil) ?_
  refine St_seq ?_
  refine St_region ?_
  refine Ls_run (run_move rfl) rfl ?_
  refine Ls_run (run_asB (c := true) (run_neq_ptr_nil Try.underlying71 rfl rfl) rfl) rfl ?_
  refine Ls_nil ?_
  refine Jm_seq ?_
  refine St_ift rfl ?_
  refine St_seq ?_
  refine St_region ?_
  refine Ls_run (run_move rfl) rfl ?_
  refine Ls_run (run_nilCheck rfl) rfl ?_
  refine Ls_run (run_as (run_field Try.underlying135 rfl inf4 (by decide) rfl) (show _ = Value.pointer (some ⟨b, 1, none⟩) from rfl)) rfl ?_
  refine Ls_store hs inf4 rfl rfl rfl rfl ?_
  intro w2 hs
  try simp only [List.set_cons_zero, List.set_cons_succ] at hs
  refine Ls_nil ?_
  refine Jm_seq ?_
  refine St_region ?_
  refine Ls_run (run_move rfl) rfl ?_
  refine Ls_run (run_nilCheck rfl) rfl ?_
  refine Ls_run (run_as (run_field Try.underlying135 rfl inf3 (by decide) rfl) (show _ = Value.pointer (some ⟨b, 2, none⟩) from rfl)) rfl ?_
  refine Ls_store hs inf3 rfl rfl rfl rfl ?_
  intro w3 hs
  try simp only [List.set_cons_zero, List.set_cons_succ] at hs
  refine Ls_nil ?_
  refine Jm_end0 rfl ?_
  exact ⟨_, rfl, rfl, hs⟩
set_option maxRecDepth 100000 in
set_option maxHeartbeats 1000000 in
theorem rOn_c (B w : World) (L : List Assn) (b : Nat) (s : RSt) (Ao : Option Addr) (co : Nat) (hs : Sat B w (Blk b (rcells s Ao co) 135 :: L)) :
    Calls Try.prog 47 [.pointer (some ⟨b, 0, none⟩)].toArray w (Ret (fun v' w' => v' = .tuple #[] ∧ Sat B w' (Blk b (rcells (ron s) Ao co) 135 :: L))) := by
  refine Calls_body Try.func47 rfl rfl rfl (envE_cons (i := 0) (v := .pointer (some ⟨b, 0, none⟩)) rfl envE_nil) ?_
  refine St_seq ?_
  refine St_region ?_
  refine Ls_run (run_move rfl) rfl ?_
  refine Ls_run (run_asB (c := true) (run_neq_ptr_nil Try.underlying71 rfl rfl) rfl) rfl ?_
  refine Ls_nil ?_
  refine Jm_seq ?_
  refine St_ift rfl ?_
  refine St_seq ?_
  refine St_region ?_
  refine Ls_run (run_move rfl) rfl ?_
  refine Ls_run (run_nilCheck rfl) rfl ?_
  refine Ls_run (run_as (run_field Try.underlying135 rfl inf4 (by decide) rfl) (show _ = Value.pointer (some ⟨b, 1, none⟩) from rfl)) rfl ?_
  refine Ls_store hs inf4 rfl rfl rfl rfl ?_
  intro w2 hs
  try simp only [List.set_cons_zero, List.set_cons_succ] at hs
  refine Ls_nil ?_
  refine Jm_seq ?_
  refine St_region ?_
  refine Ls_run (run_move rfl) rfl ?_
  refine Ls_run (run_nilCheck rfl) rfl ?_
  refine Ls_run (run_as (run_field Try.underlying135 rfl inf3 (by decide) rfl) (show _ = Value.pointer (some ⟨b, 2, none⟩) from rfl)) rfl ?_
  refine Ls_store hs inf3 rfl rfl rfl rfl ?_
  intro w3 hs
  try simp only [List.set_cons_zero, List.set_cons_succ] at hs
  refine Ls_nil ?_
  refine Jm_end0 rfl ?_
  exact ⟨_, rfl, rfl, hs⟩
set_option maxRecDepth 100000 in
set_option maxHeartbeats 1000000 in
theorem rCut_c (B w : World) (L : List Assn) (b : Nat) (s : RSt) (Ao : Option Addr) (co : Nat) (hs : Sat B w (Blk b (rcells s Ao co) 135 :: L)) (n : Int) :
    Calls Try.prog 44 [.pointer (some ⟨b, 0, none⟩), .int .i64 n].toArray w (Ret (fun v' w' => v' = .tuple #[] ∧ Sat B w' (Blk b (rcells (rcut s n) Ao co) 135 :: L))) := by
  refine Calls_body Try.func44 rfl rfl rfl (envE_cons (i := 0) (v := .pointer (some ⟨b, 0, none⟩)) rfl (envE_cons (i := 1) (v := .int .i64 n) rfl envE_nil)) ?_
  refine St_seq ?_
  refine St_seq ?_
  refine St_region ?_
  refine Ls_run (run_move rfl) rfl ?_
  refine Ls_run (run_asB (c := false) (run_eql_ptr_nil Try.underlying71 rfl rfl) rfl) rfl ?_
  refine Ls_nil ?_
  refine Jm_seq ?_
  refine St_iff rfl ?_
  refine St_skip ?_
  refine Jm_seq ?_
  refine St_seq ?_
  refine St_region ?_
  refine Ls_run (run_move rfl) rfl ?_
  refine Ls_run (run_move rfl) rfl ?_
  refine Ls_run (run_nilCheck rfl) rfl ?_
  refine Ls_run (run_as (run_field Try.underlying135 rfl inf3 (by decide) rfl) (show _ = Value.pointer (some ⟨b, 2, none⟩) from rfl)) rfl ?_
  refine Ls_store hs inf3 rfl rfl rfl rfl ?_
  intro w2 hs
  try simp only [List.set_cons_zero, List.set_cons_succ] at hs
  refine Ls_nil ?_
  refine Jm_seq ?_
  refine St_seq ?_
  refine St_region ?_
  refine Ls_run (run_move rfl) rfl ?_
  refine Ls_run (run_lss rfl rfl) rfl ?_
  refine Ls_nil ?_
  refine Jm_seq ?_
  refine St_ifP rfl (fun h3 => ?_) (fun h3 => ?_)
  · skip
    refine St_region ?_
    refine Ls_run (run_move rfl) rfl ?_
    refine Ls_run (run_nilCheck rfl) rfl ?_
    refine Ls_run (run_as (run_field Try.underlying135 rfl inf3 (by decide) rfl) (show _ = Value.pointer (some ⟨b, 2, none⟩) from rfl)) rfl ?_
    refine Ls_store hs inf3 rfl rfl rfl rfl ?_
    intro w4 hs
    try simp only [List.set_cons_zero, List.set_cons_succ] at hs
    refine Ls_nil ?_
    refine Jm_end0 rfl ?_
    refine ⟨_, rfl, rfl, ?_⟩
    unfold rcut
    first | (rw [if_pos (by omega)]; exact hs) | (rw [if_neg (by omega)]; exact hs)
  · skip
    refine St_skip ?_
    refine Jm_end0 rfl ?_
    refine ⟨_, rfl, rfl, ?_⟩
    unfold rcut
    first | (rw [if_pos (by omega)]; exact hs) | (rw [if_neg (by omega)]; exact hs)
set_option maxRecDepth 100000 in
set_option maxHeartbeats 1000000 in
theorem rRead_c (B w : World) (L : List Assn) (b : Nat) (s : RSt) (hs : Sat B w (RefA 135 28 5 b s :: L)) (hok : ∀ r ∈ s.bl, r.length ≤ 1024) (i : Int) :
    Calls Try.prog 103 [.pointer (some ⟨b, 0, none⟩), .int .i64 i].toArray w (Ret (fun v' w' => ∃ A c, v' = .tuple #[.slice A (rread s i).1.length c, .int .i64 (rread s i).2.1] ∧ Sat B w' (RefA 135 28 5 b (rread s i).2.2 :: Own 5 1 (.slice A (rread s i).1.length c) (rread s i).1.length (bytesV (rread s i).1) :: L))) := by
  obtain ⟨vs, Ao, co, hvs, hs⟩ := hs.ropen
  refine Calls_body Try.func103 rfl rfl rfl (envE_cons (i := 0) (v := .pointer (some ⟨b, 0, none⟩)) rfl (envE_cons (i := 1) (v := .int .i64 i) rfl envE_nil)) ?_
  refine St_seq ?_
  refine St_region ?_
  refine Ls_run (run_assign rfl) rfl ?_
  refine Ls_run (run_assign rfl) rfl ?_
  refine Ls_nil ?_
  refine Jm_seq ?_
  refine St_seq ?_
  refine St_seq ?_
  refine St_region ?_
  refine Ls_run (run_move rfl) rfl ?_
  refine Ls_run (run_asB (c := false) (run_eql_ptr_nil Try.underlying71 rfl rfl) rfl) rfl ?_
  refine Ls_nil ?_
  refine Jm_seq ?_
  refine St_iff rfl ?_
  refine St_skip ?_
  refine Jm_seq ?_
  refine St_seq ?_
  refine St_seq ?_
  refine St_region ?_
  refine Ls_run (run_move rfl) rfl ?_
  refine Ls_run (run_nilCheck rfl) rfl ?_
  refine Ls_run (run_as (run_field Try.underlying135 rfl inf4 (by decide) rfl) (show _ = Value.pointer (some ⟨b, 1, none⟩) from rfl)) rfl ?_
  refine Ls_run (run_load sc4 rfl (hs.blk_at 0 rfl 1 rfl)) rfl ?_
  refine Ls_nil ?_
  refine Jm_seq ?_
  refine St_if rfl (fun h2 => ?_) (fun h2 => ?_)
  · skip
    refine St_seq ?_
    refine St_region ?_
    refine Ls_run (run_assign rfl) rfl ?_
    refine Ls_run (run_assign rfl) rfl ?_
    refine Ls_nil ?_
    refine Jm_seq ?_
    refine St_ret ?_
    refine Jm_then_ret  ?_
    refine Jm_ret2 rfl rfl rfl ?_
    have hc : rcheck s i = 80 := by unfold rcheck; rw [if_pos (by assumption)]
    have e : rread s i = ([], 80, s) := by unfold rread; rw [if_neg (by omega), hc]
    rw [e]
    have hs5 := hs.rshut hvs
    exact ⟨_, rfl, none, 0, rfl, ((hs5.own_nil 5 1).front 1 rfl)⟩
  · skip
    refine St_skip ?_
    refine Jm_seq ?_
    refine St_seq ?_
    refine St_seq ?_
    refine St_region ?_
    refine Ls_run (run_move rfl) rfl ?_
    refine Ls_run (run_lss rfl rfl) rfl ?_
    refine Ls_run (run_move rfl) rfl ?_
    refine Ls_partP (t := 14) rfl (fun h3 => ?_) (fun h3 => ?_)
    · skip
      refine Ls_off rfl rfl rfl rfl ?_
      refine Ls_off rfl rfl rfl rfl ?_
      refine Ls_off rfl rfl rfl rfl ?_
      refine Ls_off rfl rfl rfl rfl ?_
      refine Ls_off rfl rfl rfl rfl ?_
      refine Ls_off rfl rfl rfl rfl ?_
      refine Ls_off rfl rfl rfl rfl ?_
      refine Ls_run (run_pick_t rfl rfl) rfl ?_
      refine Ls_nil ?_
      refine Jm_seq ?_
      refine St_ift rfl ?_
      refine St_seq ?_
      refine St_region ?_
      refine Ls_run (run_assign rfl) rfl ?_
      refine Ls_run (run_assign rfl) rfl ?_
      refine Ls_nil ?_
      refine Jm_seq ?_
      refine St_ret ?_
      refine Jm_then_ret  ?_
      refine Jm_ret2 rfl rfl rfl ?_
      have hc : rcheck s i = 81 := by unfold rcheck; rw [if_neg (by simp_all), if_pos (by omega)]
      have e : rread s i = ([], 81, s) := by unfold rread; rw [if_neg (by omega), hc]
      rw [e]
      have hs5 := hs.rshut hvs
      exact ⟨_, rfl, none, 0, rfl, ((hs5.own_nil 5 1).front 1 rfl)⟩
    · skip
      refine Ls_on rfl rfl ?_
      refine Ls_run (run_move rfl) rfl ?_
      refine Ls_on rfl rfl ?_
      refine Ls_run (run_move rfl) rfl ?_
      refine Ls_on rfl rfl ?_
      refine Ls_run (run_nilCheck rfl) rfl ?_
      refine Ls_on rfl rfl ?_
      refine Ls_run (run_as (run_field Try.underlying135 rfl inf55 (by decide) rfl) (show _ = Value.pointer (some ⟨b, 0, none⟩) from rfl)) rfl ?_
      refine Ls_on rfl rfl ?_
      refine Ls_run (run_load sc55 rfl (hs.blk_at 0 rfl 0 rfl)) rfl ?_
      refine Ls_on rfl rfl ?_
      refine Ls_run (run_len Try.underlying55 rfl) rfl ?_
      refine Ls_on rfl rfl ?_
      refine Ls_run (run_geq rfl rfl) rfl ?_
      refine Ls_run (run_pick_f rfl rfl) rfl ?_
      refine Ls_nil ?_
      refine Jm_seq ?_
      refine St_ifP rfl (fun h5 => ?_) (fun h5 => ?_)
      · skip
        refine St_seq ?_
        refine St_region ?_
        refine Ls_run (run_assign rfl) rfl ?_
        refine Ls_run (run_assign rfl) rfl ?_
        refine Ls_nil ?_
        refine Jm_seq ?_
        refine St_ret ?_
        refine Jm_then_ret  ?_
        refine Jm_ret2 rfl rfl rfl ?_
        have hc : rcheck s i = 81 := by unfold rcheck; rw [if_neg (by simp_all), if_pos (by omega)]
        have e : rread s i = ([], 81, s) := by unfold rread; rw [if_neg (by omega), hc]
        rw [e]
        have hs5 := hs.rshut hvs
        exact ⟨_, rfl, none, 0, rfl, ((hs5.own_nil 5 1).front 1 rfl)⟩
      · skip
        refine St_skip ?_
        refine Jm_seq ?_
        refine St_seq ?_
        refine St_region ?_
        refine Ls_run (run_move rfl) rfl ?_
        refine Ls_run (run_nilCheck rfl) rfl ?_
        refine Ls_run (run_as (run_field Try.underlying135 rfl inf3 (by decide) rfl) (show _ = Value.pointer (some ⟨b, 3, none⟩) from rfl)) rfl ?_
        refine Ls_run (run_load sc3 rfl (hs.blk_at 0 rfl 3 rfl)) rfl ?_
        refine Ls_run (run_add rfl rfl rfl) rfl ?_
        refine Ls_run (run_nilCheck rfl) rfl ?_
        refine Ls_run (run_as (run_field Try.underlying135 rfl inf3 (by decide) rfl) (show _ = Value.pointer (some ⟨b, 3, none⟩) from rfl)) rfl ?_
        refine Ls_store hs inf3 rfl rfl rfl rfl ?_
        intro w6 hs
        try simp only [List.set_cons_zero, List.set_cons_succ] at hs
        refine Ls_nil ?_
        refine Jm_seq ?_
        refine St_seq ?_
        refine St_region ?_
        refine Ls_run (run_move rfl) rfl ?_
        refine Ls_run (run_nilCheck rfl) rfl ?_
        refine Ls_run (run_as (run_field Try.underlying135 rfl inf55 (by decide) rfl) (show _ = Value.pointer (some ⟨b, 0, none⟩) from rfl)) rfl ?_
        refine Ls_run (run_load sc55 rfl (hs.blk_at 0 rfl 0 rfl)) rfl ?_
        refine Ls_run (run_move rfl) rfl ?_
        have hc : rcheck s i = 0 := by unfold rcheck; rw [if_neg (by simp_all), if_neg (by omega)]
        obtain ⟨k, rfl⟩ : ∃ k : Nat, i = (k : Int) := ⟨i.toNat, by omega⟩
        have hkl : k < s.bl.length := by omega
        have hrow := hok _ (getD_mem_bl hkl)
        obtain ⟨Ak, nk, ck, hvk, hrk⟩ := (Sat.parts (pre := _ :: _ :: L) hs hvs).2 k hkl
        rw [← bytesV_flat] at hrk
        have hnk := rdB_len hrk
        refine Ls_index (El.val) (hs.rd_at 1 rfl) Try.underlying55 inf28 rfl rfl (by omega) (by omega) hvk rfl ?_
        intro b7 o8 hc9
        refine Ls_run (run_load sc28 rfl (hc9 0 _ rfl)) rfl ?_
        refine Ls_call Try.func120 nm120 rfl rfl (copied_c w6 Ak nk ck (s.bl.getD k []) hrk (by omega)) rfl ?_
        rintro v10 w11 ⟨Ac, cc, rfl, hsC⟩
        replace hs := hs.trans hsC
        simp only [List.cons_append, List.nil_append] at hs
        refine Ls_run (run_assign rfl) rfl ?_
        refine Ls_run (run_assign rfl) rfl ?_
        refine Ls_nil ?_
        refine Jm_seq ?_
        refine St_ret ?_
        refine Jm_ret2 rfl rfl rfl ?_
        replace hs := hs.front 2 rfl
        simp only [List.cons_append, List.nil_append, List.eraseIdx_cons_zero, List.eraseIdx_cons_succ] at hs
        replace hs := hs.front 2 rfl
        simp only [List.cons_append, List.nil_append, List.eraseIdx_cons_zero, List.eraseIdx_cons_succ] at hs
        have e : rread s (k : Int) = (s.bl.getD k [], 0, { s with reads := IntKind.i64.wrap (s.reads + 1) }) := by unfold rread; rw [if_pos hc]; rfl
        rw [e]
        have hs5 := Sat.rshut (s := { s with reads := IntKind.i64.wrap (s.reads + 1) }) (L := _ :: L) hvs hs
        rw [← hnk] at hs5
        exact ⟨_, by rw [← hnk], Ac, cc, rfl, hs5⟩
set_option maxRecDepth 100000 in
set_option maxHeartbeats 1000000 in
theorem rWrite_c (B w : World) (L : List Assn) (b : Nat) (s : RSt) (hs : Sat B w (RefA 135 28 5 b s :: L)) (hok : ∀ r ∈ s.bl, r.length ≤ 1024) (hlf : -1 ≤ s.left ∧ s.left ≤ 9223372036854775807) (i : Int) (A : Option Addr) (n c : Nat) (l : List Int) (hr : ∀ w' X, Sat B w' (X :: L) → Rd w' A n c 1 (bytesV l)) (hn : n ≤ 140737488355328) :
    Calls Try.prog 98 [.pointer (some ⟨b, 0, none⟩), .int .i64 i, .slice A n c].toArray w (Ret (fun v' w' => v' = .int .i64 (rwrite s i l).1 ∧ Sat B w' (RefA 135 28 5 b (rwrite s i l).2 :: L))) := by
  have hl : l.length = n := rdB_len (hr _ _ hs)
  obtain ⟨vs, Ao, co, hvs, hs⟩ := hs.ropen
  refine Calls_body Try.func98 rfl rfl rfl (envE_cons (i := 0) (v := .pointer (some ⟨b, 0, none⟩)) rfl (envE_cons (i := 1) (v := .int .i64 i) rfl (envE_cons (i := 2) (v := .slice A n c) rfl envE_nil))) ?_
  refine St_seq ?_
  refine St_region ?_
  refine Ls_run (run_assign rfl) rfl ?_
  refine Ls_nil ?_
  refine Jm_seq ?_
  refine St_seq ?_
  refine St_seq ?_
  refine St_region ?_
  refine Ls_run (run_move rfl) rfl ?_
  refine Ls_run (run_asB (c := false) (run_eql_ptr_nil Try.underlying71 rfl rfl) rfl) rfl ?_
  refine Ls_nil ?_
  refine Jm_seq ?_
  refine St_iff rfl ?_
  refine St_skip ?_
  refine Jm_seq ?_
  refine St_seq ?_
  refine St_seq ?_
  refine St_region ?_
  refine Ls_run (run_move rfl) rfl ?_
  refine Ls_run (run_nilCheck rfl) rfl ?_
  refine Ls_run (run_as (run_field Try.underlying135 rfl inf4 (by decide) rfl) (show _ = Value.pointer (some ⟨b, 1, none⟩) from rfl)) rfl ?_
  refine Ls_run (run_load sc4 rfl (hs.blk_at 0 rfl 1 rfl)) rfl ?_
  refine Ls_nil ?_
  refine Jm_seq ?_
  refine St_if rfl (fun h2 => ?_) (fun h2 => ?_)
  · skip
    refine St_seq ?_
    refine St_region ?_
    refine Ls_run (run_assign rfl) rfl ?_
    refine Ls_nil ?_
    refine Jm_seq ?_
    refine St_ret ?_
    refine Jm_then_ret  ?_
    refine Jm_ret1 rfl rfl ?_
    have hc : rcheck s i = 80 := by unfold rcheck; rw [if_pos (by assumption)]
    have e : rwrite s i l = (80, s) := by unfold rwrite; rw [if_pos (by omega), hc]
    rw [e]
    exact ⟨_, rfl, rfl, hs.rshut hvs⟩
  · skip
    refine St_skip ?_
    refine Jm_seq ?_
    refine St_seq ?_
    refine St_seq ?_
    refine St_region ?_
    refine Ls_run (run_move rfl) rfl ?_
    refine Ls_run (run_lss rfl rfl) rfl ?_
    refine Ls_run (run_move rfl) rfl ?_
    refine Ls_partP (t := 15) rfl (fun h3 => ?_) (fun h3 => ?_)
    · skip
      refine Ls_off rfl rfl rfl rfl ?_
      refine Ls_off rfl rfl rfl rfl ?_
      refine Ls_off rfl rfl rfl rfl ?_
      refine Ls_off rfl rfl rfl rfl ?_
      refine Ls_off rfl rfl rfl rfl ?_
      refine Ls_off rfl rfl rfl rfl ?_
      refine Ls_off rfl rfl rfl rfl ?_
      refine Ls_run (run_pick_t rfl rfl) rfl ?_
      refine Ls_nil ?_
      refine Jm_seq ?_
      refine St_ift rfl ?_
      refine St_seq ?_
      refine St_region ?_
      refine Ls_run (run_assign rfl) rfl ?_
      refine Ls_nil ?_
      refine Jm_seq ?_
      refine St_ret ?_
      refine Jm_then_ret  ?_
      refine Jm_ret1 rfl rfl ?_
      have hc : rcheck s i = 81 := by unfold rcheck; rw [if_neg (by simp_all), if_pos (by omega)]
      have e : rwrite s i l = (81, s) := by unfold rwrite; rw [if_pos (by omega), hc]
      rw [e]
      exact ⟨_, rfl, rfl, hs.rshut hvs⟩
    · skip
      refine Ls_on rfl rfl ?_
      refine Ls_run (run_move rfl) rfl ?_
      refine Ls_on rfl rfl ?_
      refine Ls_run (run_move rfl) rfl ?_
      refine Ls_on rfl rfl ?_
      refine Ls_run (run_nilCheck rfl) rfl ?_
      refine Ls_on rfl rfl ?_
      refine Ls_run (run_as (run_field Try.underlying135 rfl inf55 (by decide) rfl) (show _ = Value.pointer (some ⟨b, 0, none⟩) from rfl)) rfl ?_
      refine Ls_on rfl rfl ?_
      refine Ls_run (run_load sc55 rfl (hs.blk_at 0 rfl 0 rfl)) rfl ?_
      refine Ls_on rfl rfl ?_
      refine Ls_run (run_len Try.underlying55 rfl) rfl ?_
      refine Ls_on rfl rfl ?_
      refine Ls_run (run_geq rfl rfl) rfl ?_
      refine Ls_run (run_pick_f rfl rfl) rfl ?_
      refine Ls_nil ?_
      refine Jm_seq ?_
      refine St_ifP rfl (fun h5 => ?_) (fun h5 => ?_)
      · skip
        refine St_seq ?_
        refine St_region ?_
        refine Ls_run (run_assign rfl) rfl ?_
        refine Ls_nil ?_
        refine Jm_seq ?_
        refine St_ret ?_
        refine Jm_then_ret  ?_
        refine Jm_ret1 rfl rfl ?_
        have hc : rcheck s i = 81 := by unfold rcheck; rw [if_neg (by simp_all), if_pos (by omega)]
        have e : rwrite s i l = (81, s) := by unfold rwrite; rw [if_pos (by omega), hc]
        rw [e]
        exact ⟨_, rfl, rfl, hs.rshut hvs⟩
      · skip
        refine St_skip ?_
        refine Jm_seq ?_
        refine St_seq ?_
        refine St_seq ?_
        refine St_region ?_
        have hc : rcheck s i = 0 := by unfold rcheck; rw [if_neg (by simp_all), if_neg (by omega)]
        obtain ⟨k, rfl⟩ : ∃ k : Nat, i = (k : Int) := ⟨i.toNat, by omega⟩
        have hkl : k < s.bl.length := by omega
        refine Ls_run (run_move rfl) rfl ?_
        refine Ls_run (run_len Try.underlying28 rfl) rfl ?_
        refine Ls_run (run_gtr rfl rfl) rfl ?_
        refine Ls_nil ?_
        refine Jm_seq ?_
        refine St_ifP rfl (fun h6 => ?_) (fun h6 => ?_)
        · skip
          refine St_seq ?_
          refine St_region ?_
          refine Ls_run (run_assign rfl) rfl ?_
          refine Ls_nil ?_
          refine Jm_seq ?_
          refine St_ret ?_
          refine Jm_then_ret  ?_
          refine Jm_ret1 rfl rfl ?_
          have e : rwrite s (k : Int) l = (6, s) := by unfold rwrite; rw [if_neg (by omega), if_pos (by omega)]
          rw [e]
          exact ⟨_, rfl, rfl, hs.rshut hvs⟩
        · skip
          refine St_skip ?_
          refine Jm_seq ?_
          refine St_seq ?_
          refine St_seq ?_
          refine St_region ?_
          refine Ls_run (run_move rfl) rfl ?_
          refine Ls_run (run_nilCheck rfl) rfl ?_
          refine Ls_run (run_as (run_field Try.underlying135 rfl inf3 (by decide) rfl) (show _ = Value.pointer (some ⟨b, 2, none⟩) from rfl)) rfl ?_
          refine Ls_run (run_load sc3 rfl (hs.blk_at 0 rfl 2 rfl)) rfl ?_
          refine Ls_run (run_eql rfl rfl) rfl ?_
          refine Ls_nil ?_
          refine Jm_seq ?_
          refine St_ifP rfl (fun h7 => ?_) (fun h7 => ?_)
          · skip
            refine St_seq ?_
            refine St_region ?_
            refine Ls_run (run_move rfl) rfl ?_
            refine Ls_call Try.func46 nm46 rfl rfl (rOff_c B w _ b s Ao co hs) rfl ?_
            rintro v8 w9 ⟨rfl, hs⟩
            refine Ls_nil ?_
            refine Jm_seq ?_
            refine St_seq ?_
            refine St_region ?_
            refine Ls_run (run_assign rfl) rfl ?_
            refine Ls_nil ?_
            refine Jm_seq ?_
            refine St_ret ?_
            refine Jm_then_ret  ?_
            refine Jm_ret1 rfl rfl ?_
            have e : rwrite s (k : Int) l = (80, roff s) := by unfold rwrite; rw [if_neg (by omega), if_neg (by omega), if_pos (by assumption)]
            rw [e]
            exact ⟨_, rfl, rfl, Sat.rshut (s := roff s) hvs hs⟩
          · skip
            refine St_skip ?_
            refine Jm_seq ?_
            refine St_seq ?_
            refine St_seq ?_
            refine St_region ?_
            refine Ls_run (run_move rfl) rfl ?_
            refine Ls_run (run_nilCheck rfl) rfl ?_
            refine Ls_run (run_as (run_field Try.underlying135 rfl inf3 (by decide) rfl) (show _ = Value.pointer (some ⟨b, 2, none⟩) from rfl)) rfl ?_
            refine Ls_run (run_load sc3 rfl (hs.blk_at 0 rfl 2 rfl)) rfl ?_
            refine Ls_run (run_gtr rfl rfl) rfl ?_
            refine Ls_nil ?_
            refine Jm_seq ?_
            refine St_ifP rfl (fun h10 => ?_) (fun h10 => ?_)
            · skip
              refine St_region ?_
              refine Ls_run (run_move rfl) rfl ?_
              refine Ls_run (run_nilCheck rfl) rfl ?_
              refine Ls_run (run_as (run_field Try.underlying135 rfl inf3 (by decide) rfl) (show _ = Value.pointer (some ⟨b, 2, none⟩) from rfl)) rfl ?_
              refine Ls_run (run_load sc3 rfl (hs.blk_at 0 rfl 2 rfl)) rfl ?_
              refine Ls_run (run_sub rfl rfl (w64 (by omega))) rfl ?_
              refine Ls_run (run_nilCheck rfl) rfl ?_
              refine Ls_run (run_as (run_field Try.underlying135 rfl inf3 (by decide) rfl) (show _ = Value.pointer (some ⟨b, 2, none⟩) from rfl)) rfl ?_
              refine Ls_store hs inf3 rfl rfl rfl rfl ?_
              intro w11 hs
              try simp only [List.set_cons_zero, List.set_cons_succ] at hs
              refine Ls_nil ?_
              refine Jm_seq ?_
              refine St_seq ?_
              refine St_drawC 8 (fun x => Below w11.heap.size w11 x) mixed ?_
              intro w12 q13
              have hH := q13.below
              replace hs := hs.quiet q13
              refine AnC_grow hH ?_
              replace hH := Below.refl w12.heap.size w12
              refine AnC_takeP 0 (by kernel_rfl) rfl (by kernel_rfl) (by kernel_rfl) (by kernel_rfl) (fun _ _ _ h => h) (fun _ => hH) (fun x => run_move rfl) rfl ?_
              refine AnC_takeP 1 (by kernel_rfl) rfl (by kernel_rfl) (by kernel_rfl) (by kernel_rfl) (fun _ _ _ h => h) (fun _ => hH) (fun x => run_nilCheck rfl) rfl ?_
              refine AnC_takeP 2 (by kernel_rfl) rfl (by kernel_rfl) (by kernel_rfl) (by kernel_rfl) (fun _ _ _ h => h) (fun _ => hH) (fun x => run_as (run_field Try.underlying135 rfl inf55 (by decide) rfl) (show _ = Value.pointer (some ⟨b, 0, none⟩) from rfl)) rfl ?_
              refine AnC_take 3 [8, 3] rfl (by kernel_rfl) (by kernel_rfl) (by kernel_rfl) (by kernel_rfl) (fun _ _ _ h => h) hH (fun x hx => run_load sc55 rfl ((hs.grow hx).blk_at 0 rfl 0 rfl)) rfl ?_
              refine AnC_takeP 4 (by kernel_rfl) rfl (by kernel_rfl) (by kernel_rfl) (by kernel_rfl) (fun _ _ _ h => h) (fun _ => hH) (fun x => run_move rfl) rfl ?_
              refine AnC_takeP 5 (by kernel_rfl) rfl (by kernel_rfl) (by kernel_rfl) (by kernel_rfl) (fun _ _ _ h => h) (fun _ => hH) (fun x => run_move rfl) rfl ?_
              refine AnC_only 6 (by kernel_rfl) rfl ?_
              refine Ls_call Try.func120 nm120 rfl rfl (copied_c w12 A n c l (Sat.rdL (pre := [_, _]) hr hs) hn) rfl ?_
              rintro v14 w15 ⟨Ac, cc, rfl, hsC⟩
              replace hs := hs.trans hsC
              simp only [List.cons_append, List.nil_append] at hs
              replace hH := (hsC.below : Below w12.heap.size w12 w15)
              refine Ls_nil (Jm_AnC (fun _ => hH) ?_)
              refine AnC_grow hH ?_
              replace hH := Below.refl w15.heap.size w15
              obtain ⟨g, rfl⟩ := (hs.front 2 rfl).own_addr (by omega)
              refine AnC_takeP 7 (by kernel_rfl) rfl (by kernel_rfl) (by kernel_rfl) (by kernel_rfl) (fun _ _ _ h => h) (fun _ => hH) (fun x => run_index Try.underlying55 inf28 rfl rfl rfl (by omega) (by omega)) rfl ?_
              refine AnC_only 8 (by kernel_rfl) rfl ?_
              replace hs := hs.front 2 rfl
              simp only [List.cons_append, List.nil_append, List.eraseIdx_cons_zero, List.eraseIdx_cons_succ] at hs
              refine Ls_storeOwn hs inf28 rfl rfl rfl (by omega) ?_
              intro w16 hs
              refine Ls_nil (Jm_AnC_closed (by kernel_rfl) ?_)
              refine AnC_switch (H' := fun x => Below w16.heap.size w16 x) 9 (by kernel_rfl) ?_
              replace hH := Below.refl w16.heap.size w16
              refine AnC_done (by kernel_rfl) ?_
              refine Jm_seq ?_
              refine St_seq ?_
              refine St_region ?_
              replace hs := hs.front 2 rfl
              simp only [List.cons_append, List.nil_append, List.eraseIdx_cons_zero, List.eraseIdx_cons_succ] at hs
              replace hs := hs.front 1 rfl
              simp only [List.cons_append, List.nil_append, List.eraseIdx_cons_zero, List.eraseIdx_cons_succ] at hs
              replace hs := hs.front 2 rfl
              simp only [List.cons_append, List.nil_append, List.eraseIdx_cons_zero, List.eraseIdx_cons_succ] at hs
              simp only [Nat.zero_add, Nat.mul_one, Int.toNat_natCast, El.val_flat] at hs
              have hs5 := Sat.row_swap (pre := _ :: _ :: L) k l hs hl.symm (bytesV_flat l) hvs (by omega)
              replace hs := hs5
              simp only [List.cons_append] at hs
              refine Ls_run (run_move rfl) rfl ?_
              refine Ls_run (run_nilCheck rfl) rfl ?_
              refine Ls_run (run_as (run_field Try.underlying135 rfl inf3 (by decide) rfl) (show _ = Value.pointer (some ⟨b, 4, none⟩) from rfl)) rfl ?_
              refine Ls_run (run_load sc3 rfl (hs.blk_at 1 rfl 4 rfl)) rfl ?_
              refine Ls_run (run_add rfl rfl rfl) rfl ?_
              refine Ls_run (run_nilCheck rfl) rfl ?_
              refine Ls_run (run_as (run_field Try.underlying135 rfl inf3 (by decide) rfl) (show _ = Value.pointer (some ⟨b, 4, none⟩) from rfl)) rfl ?_
              replace hs := hs.front 1 rfl
              simp only [List.cons_append, List.nil_append, List.eraseIdx_cons_zero, List.eraseIdx_cons_succ] at hs
              refine Ls_store hs inf3 rfl rfl rfl rfl ?_
              intro w17 hs
              try simp only [List.set_cons_zero, List.set_cons_succ] at hs
              refine Ls_nil ?_
              refine Jm_seq ?_
              refine St_seq ?_
              refine St_region ?_
              refine Ls_run (run_assign rfl) rfl ?_
              refine Ls_nil ?_
              refine Jm_seq ?_
              refine St_ret ?_
              refine Jm_ret1 rfl rfl ?_
              have e : rwrite s (k : Int) l = (0, { s with left := s.left - 1, bl := s.bl.set k l, writes := IntKind.i64.wrap (s.writes + 1) }) := by unfold rwrite; rw [if_neg (by omega), if_neg (by omega), if_neg (by assumption), if_pos (by omega)]; rfl
              rw [e]
              refine ⟨_, rfl, rfl, Sat.rshut (s := { s with left := s.left - 1, bl := s.bl.set k l, writes := IntKind.i64.wrap (s.writes + 1) }) (vs := vs.set k (Value.slice Ac n cc)) (A := some ⟨g, 0, none⟩) (c := co) (by simpa using hvs) ?_⟩
              simp only [rcells, List.length_set, El.val_flat] at hs ⊢
              exact hs
            · skip
              refine St_skip ?_
              refine Jm_seq ?_
              refine St_seq ?_
              refine St_drawC 8 (fun x => Below w.heap.size w x) mixed ?_
              intro w18 q19
              have hH := q19.below
              replace hs := hs.quiet q19
              refine AnC_grow hH ?_
              replace hH := Below.refl w18.heap.size w18
              refine AnC_takeP 0 (by kernel_rfl) rfl (by kernel_rfl) (by kernel_rfl) (by kernel_rfl) (fun _ _ _ h => h) (fun _ => hH) (fun x => run_move rfl) rfl ?_
              refine AnC_takeP 1 (by kernel_rfl) rfl (by kernel_rfl) (by kernel_rfl) (by kernel_rfl) (fun _ _ _ h => h) (fun _ => hH) (fun x => run_nilCheck rfl) rfl ?_
              refine AnC_takeP 2 (by kernel_rfl) rfl (by kernel_rfl) (by kernel_rfl) (by kernel_rfl) (fun _ _ _ h => h) (fun _ => hH) (fun x => run_as (run_field Try.underlying135 rfl inf55 (by decide) rfl) (show _ = Value.pointer (some ⟨b, 0, none⟩) from rfl)) rfl ?_
              refine AnC_take 3 [8, 3] rfl (by kernel_rfl) (by kernel_rfl) (by kernel_rfl) (by kernel_rfl) (fun _ _ _ h => h) hH (fun x hx => run_load sc55 rfl ((hs.grow hx).blk_at 0 rfl 0 rfl)) rfl ?_
              refine AnC_takeP 4 (by kernel_rfl) rfl (by kernel_rfl) (by kernel_rfl) (by kernel_rfl) (fun _ _ _ h => h) (fun _ => hH) (fun x => run_move rfl) rfl ?_
              refine AnC_takeP 5 (by kernel_rfl) rfl (by kernel_rfl) (by kernel_rfl) (by kernel_rfl) (fun _ _ _ h => h) (fun _ => hH) (fun x => run_move rfl) rfl ?_
              refine AnC_only 6 (by kernel_rfl) rfl ?_
              refine Ls_call Try.func120 nm120 rfl rfl (copied_c w18 A n c l (Sat.rdL (pre := [_, _]) hr hs) hn) rfl ?_
              rintro v20 w21 ⟨Ac, cc, rfl, hsC⟩
              replace hs := hs.trans hsC
              simp only [List.cons_append, List.nil_append] at hs
              replace hH := (hsC.below : Below w18.heap.size w18 w21)
              refine Ls_nil (Jm_AnC (fun _ => hH) ?_)
              refine AnC_grow hH ?_
              replace hH := Below.refl w21.heap.size w21
              obtain ⟨g, rfl⟩ := (hs.front 2 rfl).own_addr (by omega)
              refine AnC_takeP 7 (by kernel_rfl) rfl (by kernel_rfl) (by kernel_rfl) (by kernel_rfl) (fun _ _ _ h => h) (fun _ => hH) (fun x => run_index Try.underlying55 inf28 rfl rfl rfl (by omega) (by omega)) rfl ?_
              refine AnC_only 8 (by kernel_rfl) rfl ?_
              replace hs := hs.front 2 rfl
              simp only [List.cons_append, List.nil_append, List.eraseIdx_cons_zero, List.eraseIdx_cons_succ] at hs
              refine Ls_storeOwn hs inf28 rfl rfl rfl (by omega) ?_
              intro w22 hs
              refine Ls_nil (Jm_AnC_closed (by kernel_rfl) ?_)
              refine AnC_switch (H' := fun x => Below w22.heap.size w22 x) 9 (by kernel_rfl) ?_
              replace hH := Below.refl w22.heap.size w22
              refine AnC_done (by kernel_rfl) ?_
              refine Jm_seq ?_
              refine St_seq ?_
              refine St_region ?_
              replace hs := hs.front 2 rfl
              simp only [List.cons_append, List.nil_append, List.eraseIdx_cons_zero, List.eraseIdx_cons_succ] at hs
              replace hs := hs.front 1 rfl
              simp only [List.cons_append, List.nil_append, List.eraseIdx_cons_zero, List.eraseIdx_cons_succ] at hs
              replace hs := hs.front 2 rfl
              simp only [List.cons_append, List.nil_append, List.eraseIdx_cons_zero, List.eraseIdx_cons_succ] at hs
              simp only [Nat.zero_add, Nat.mul_one, Int.toNat_natCast, El.val_flat] at hs
              have hs5 := Sat.row_swap (pre := _ :: _ :: L) k l hs hl.symm (bytesV_flat l) hvs (by omega)
              replace hs := hs5
              simp only [List.cons_append] at hs
              refine Ls_run (run_move rfl) rfl ?_
              refine Ls_run (run_nilCheck rfl) rfl ?_
              refine Ls_run (run_as (run_field Try.underlying135 rfl inf3 (by decide) rfl) (show _ = Value.pointer (some ⟨b, 4, none⟩) from rfl)) rfl ?_
              refine Ls_run (run_load sc3 rfl (hs.blk_at 1 rfl 4 rfl)) rfl ?_
              refine Ls_run (run_add rfl rfl rfl) rfl ?_
              refine Ls_run (run_nilCheck rfl) rfl ?_
              refine Ls_run (run_as (run_field Try.underlying135 rfl inf3 (by decide) rfl) (show _ = Value.pointer (some ⟨b, 4, none⟩) from rfl)) rfl ?_
              replace hs := hs.front 1 rfl
              simp only [List.cons_append, List.nil_append, List.eraseIdx_cons_zero, List.eraseIdx_cons_succ] at hs
              refine Ls_store hs inf3 rfl rfl rfl rfl ?_
              intro w23 hs
              try simp only [List.set_cons_zero, List.set_cons_succ] at hs
              refine Ls_nil ?_
              refine Jm_seq ?_
              refine St_seq ?_
              refine St_region ?_
              refine Ls_run (run_assign rfl) rfl ?_
              refine Ls_nil ?_
              refine Jm_seq ?_
              refine St_ret ?_
              refine Jm_ret1 rfl rfl ?_
              have e : rwrite s (k : Int) l = (0, { s with left := s.left, bl := s.bl.set k l, writes := IntKind.i64.wrap (s.writes + 1) }) := by unfold rwrite; rw [if_neg (by omega), if_neg (by omega), if_neg (by assumption), if_neg (by omega)]; rfl
              rw [e]
              refine ⟨_, rfl, rfl, Sat.rshut (s := { s with left := s.left, bl := s.bl.set k l, writes := IntKind.i64.wrap (s.writes + 1) }) (vs := vs.set k (Value.slice Ac n cc)) (A := some ⟨g, 0, none⟩) (c := co) (by simpa using hvs) ?_⟩
              simp only [rcells, List.length_set, El.val_flat] at hs ⊢
              exact hs
end Go.Proofs.Ytipkfdeiallifaa.Lg
