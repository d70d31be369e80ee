/-
  The disk's functions, walked. By program (gen/disk1.py).
-/
import Derived.Test.YtipkfdeiallifaaBl
import Derived.Test.YtipkfdeiallifaaDiskPure
import Derived.Test.YtipkfdeiallifaaDc
set_option linter.unusedVariables false
set_option linter.unusedSimpArgs false
namespace Go.Proofs.Ytipkfdeiallifaa.Lg
open Go Go.RowKit
set_option maxRecDepth 100000 in
set_option maxHeartbeats 1000000 in
theorem Clone_c (w : World) (A : Option Addr) (n c : Nat) (l : List Int) (hr : Rd w A n c 1 (bytesV l)) (hn : n ≤ 140737488355328) :
    Calls Try.prog 118 [.slice A n c].toArray w (Ret (fun v' w' => ∃ A' c', v' = .slice A' n c' ∧ Sat w w' [Own 5 1 v' n (bytesV l)])) := by
  have hs := Sat.start w
  have hl : l.length = n := rdB_len hr
  have hnc := hr.cap
  refine Calls_body Try.func118 rfl rfl rfl (envE_cons (i := 0) (v := .slice A n c) rfl envE_nil) ?_
  refine St_seq ?_
  refine St_region ?_
  refine Ls_run (run_assign rfl) rfl ?_
  refine Ls_nil ?_
  refine Jm_seq ?_
  refine St_seq ?_
  refine St_seq ?_
  refine St_region ?_
  refine Ls_run (run_move rfl) rfl ?_
  refine Ls_run (run_eql_slice_nil Try.underlying28 rfl rfl) rfl ?_
  refine Ls_nil ?_
  refine Jm_seq ?_
  refine St_if rfl (fun h1 => ?_) (fun h1 => ?_)
  · skip
    refine St_seq ?_
    refine St_region ?_
    refine Ls_run (run_assign rfl) rfl ?_
    refine Ls_nil ?_
    refine Jm_seq ?_
    refine St_ret ?_
    refine Jm_then_ret  ?_
    refine Jm_ret1 rfl rfl ?_
    have hA : A = none := by simpa using h1
    have hc := hr.nil hA
    have hn0 : n = 0 := by omega
    have hl0 : l = [] := List.eq_nil_of_length_eq_zero (by omega)
    subst hA hn0 hl0
    exact ⟨_, rfl, _, _, rfl, hs.own_nil _ _⟩
  · skip
    refine St_skip ?_
    refine Jm_seq ?_
    refine St_seq ?_
    refine St_region ?_
    refine Ls_literal [] hs Try.underlying28 inf5 rfl rfl rfl rfl rfl rfl ?_
    intro b2 w3 hs
    simp only [List.flatMap_cons, List.flatMap_nil, Value.cells, List.cons_append, List.nil_append] at hs
    replace hs := Sat.own_block hs 1 0 rfl (by decide)
    refine Ls_run (run_move rfl) rfl ?_
    refine Ls_append hs Try.underlying28 inf5 rfl (by decide) (by decide) rfl rfl (hr.inB hs) (bytesV_one' _) (by omega) rfl ?_
    intro A4 c5 w6 hs
    refine Ls_run (run_assign rfl) rfl ?_
    refine Ls_nil ?_
    refine Jm_seq ?_
    refine St_ret ?_
    refine Jm_ret1 rfl rfl ?_
    simp only [Nat.zero_add, List.nil_append] at hs ⊢
    exact ⟨_, rfl, _, _, rfl, hs⟩
set_option maxRecDepth 100000 in
set_option maxHeartbeats 1000000 in
theorem copied_c (w : World) (A : Option Addr) (n c : Nat) (l : List Int) (hr : Rd w A n c 1 (bytesV l)) (hn : n ≤ 140737488355328) :
    Calls Try.prog 120 [.slice A n c].toArray w (Ret (fun v' w' => ∃ A' c', v' = .slice A' n c' ∧ Sat w w' [Own 5 1 v' n (bytesV l)])) := by
  have hs := Sat.start w
  have hl : l.length = n := rdB_len hr
  refine Calls_body Try.func120 rfl rfl rfl (envE_cons (i := 0) (v := .slice A n c) rfl envE_nil) ?_
  refine St_seq ?_
  refine St_region ?_
  refine Ls_run (run_assign rfl) rfl ?_
  refine Ls_nil ?_
  refine Jm_seq ?_
  refine St_seq ?_
  refine St_region ?_
  refine Ls_literal [] hs Try.underlying28 inf5 rfl rfl rfl rfl rfl rfl ?_
  intro b1 w2 hs
  simp only [List.flatMap_cons, List.flatMap_nil, Value.cells, List.cons_append, List.nil_append] at hs
  replace hs := Sat.own_block hs 1 0 rfl (by decide)
  refine Ls_run (run_assign rfl) rfl ?_
  refine Ls_nil ?_
  refine Jm_seq ?_
  refine St_seq ?_
  refine St_region ?_
  refine Ls_run (run_move rfl) rfl ?_
  refine Ls_run (run_move rfl) rfl ?_
  refine Ls_append hs Try.underlying28 inf5 rfl (by decide) (by decide) rfl rfl (hr.inB hs) (bytesV_one' _) (by omega) rfl ?_
  intro A3 c4 w5 hs
  refine Ls_run (run_assign rfl) rfl ?_
  refine Ls_nil ?_
  refine Jm_seq ?_
  refine St_seq ?_
  refine St_region ?_
  refine Ls_run (run_move rfl) rfl ?_
  refine Ls_run (run_assign rfl) rfl ?_
  refine Ls_nil ?_
  refine Jm_seq ?_
  refine St_ret ?_
  refine Jm_ret1 rfl rfl ?_
  simp only [Nat.zero_add, List.nil_append] at hs ⊢
  exact ⟨_, rfl, _, _, rfl, hs⟩
set_option maxRecDepth 100000 in
set_option maxHeartbeats 1000000 in
theorem set_c (B w : World) (L : List Assn) (b : Nat) (s : DSt) (Ao : Option Addr) (co : Nat) (hs : Sat B w (Blk b (dcells s Ao co) 129 :: L)) (dn : Bool) (n : Int) :
    Calls Try.prog 93 [.pointer (some ⟨b, 0, none⟩), .bool dn, .int .i64 n].toArray w (Ret (fun v' w' => v' = .tuple #[] ∧ Sat B w' (Blk b (dcells (dset s dn n) Ao co) 129 :: L))) := by
  refine Calls_body Try.func93 rfl rfl rfl (envE_cons (i := 0) (v := .pointer (some ⟨b, 0, none⟩)) rfl (envE_cons (i := 1) (v := .bool dn) rfl (envE_cons (i := 2) (v := .int .i64 n) rfl envE_nil))) ?_
  refine St_seq ?_
  refine St_region ?_
  refine Ls_run (run_move rfl) rfl ?_
  refine Ls_run (run_asB (c := true) (run_neq_ptr_nil Try.underlying46 rfl rfl) rfl) rfl ?_
  refine Ls_nil ?_
  refine Jm_seq ?_
  refine St_ift rfl ?_
  refine St_region ?_
  refine Ls_run (run_move rfl) rfl ?_
  refine Ls_run (run_move rfl) rfl ?_
  refine Ls_run (run_move rfl) rfl ?_
  refine Ls_run (run_move rfl) rfl ?_
  refine Ls_run (run_move rfl) rfl ?_
  refine Ls_run (run_geq rfl rfl) rfl ?_
  refine Ls_run (run_move rfl) rfl ?_
  refine Ls_run (run_nilCheck rfl) rfl ?_
  refine Ls_run (run_as (run_field Try.underlying129 rfl inf4 (by decide) rfl) (show _ = Value.pointer (some ⟨b, 1, none⟩) from rfl)) rfl ?_
  refine Ls_store hs inf4 rfl rfl rfl rfl ?_
  intro w2 hs
  try simp only [List.set_cons_zero, List.set_cons_succ] at hs
  refine Ls_run (run_nilCheck rfl) rfl ?_
  refine Ls_run (run_as (run_field Try.underlying129 rfl inf4 (by decide) rfl) (show _ = Value.pointer (some ⟨b, 2, none⟩) from rfl)) rfl ?_
  refine Ls_store hs inf4 rfl rfl rfl rfl ?_
  intro w3 hs
  try simp only [List.set_cons_zero, List.set_cons_succ] at hs
  refine Ls_run (run_nilCheck rfl) rfl ?_
  refine Ls_run (run_as (run_field Try.underlying129 rfl inf3 (by decide) rfl) (show _ = Value.pointer (some ⟨b, 3, none⟩) from rfl)) rfl ?_
  refine Ls_store hs inf3 rfl rfl rfl rfl ?_
  intro w4 hs
  try simp only [List.set_cons_zero, List.set_cons_succ] at hs
  refine Ls_nil ?_
  refine Jm_end0 rfl ?_
  exact ⟨_, rfl, rfl, hs⟩
set_option maxRecDepth 100000 in
set_option maxHeartbeats 1000000 in
theorem Down_c (w : World) (b : Nat) (s : DSt) (Ao : Option Addr) (co : Nat) (hd : w.heap[b]? = some (.cells (dcells s Ao co).toArray 129 (0, 0))) :
    Calls Try.prog 34 [.pointer (some ⟨b, 0, none⟩)].toArray w (Ret (fun v' w' => w = w' ∧ v' = .bool s.down)) := by
  have hs := Sat.ofBlk hd
  refine Calls_body Try.func34 rfl rfl rfl (envE_cons (i := 0) (v := .pointer (some ⟨b, 0, none⟩)) rfl envE_nil) ?_
  refine St_seq ?_
  refine St_region ?_
  refine Ls_run (run_assign rfl) rfl ?_
  refine Ls_nil ?_
  refine Jm_seq ?_
  refine St_seq ?_
  refine St_region ?_
  refine Ls_run (run_move rfl) rfl ?_
  refine Ls_run (run_asB (c := true) (run_neq_ptr_nil Try.underlying46 rfl rfl) rfl) rfl ?_
  refine Ls_run (run_move rfl) rfl ?_
  refine Ls_on rfl rfl ?_
  refine Ls_run (run_move rfl) rfl ?_
  refine Ls_on rfl rfl ?_
  refine Ls_run (run_nilCheck rfl) rfl ?_
  refine Ls_on rfl rfl ?_
  refine Ls_run (run_as (run_field Try.underlying129 rfl inf4 (by decide) rfl) (show _ = Value.pointer (some ⟨b, 1, none⟩) from rfl)) rfl ?_
  refine Ls_on rfl rfl ?_
  refine Ls_run (run_load sc4 rfl (hs.blk_at 0 rfl 1 rfl)) rfl ?_
  refine Ls_run (run_pick_t rfl rfl) rfl ?_
  refine Ls_run (run_assign rfl) rfl ?_
  refine Ls_nil ?_
  refine Jm_seq ?_
  refine St_ret ?_
  refine Jm_ret1 rfl rfl ?_
  exact ⟨_, rfl, rfl, rfl⟩
set_option maxRecDepth 100000 in
set_option maxHeartbeats 1000000 in
theorem Writes_c (w : World) (b : Nat) (s : DSt) (Ao : Option Addr) (co : Nat) (hd : w.heap[b]? = some (.cells (dcells s Ao co).toArray 129 (0, 0))) :
    Calls Try.prog 54 [.pointer (some ⟨b, 0, none⟩)].toArray w (Ret (fun v' w' => w = w' ∧ v' = .int .i64 s.writes)) := by
  have hs := Sat.ofBlk hd
  refine Calls_body Try.func54 rfl rfl rfl (envE_cons (i := 0) (v := .pointer (some ⟨b, 0, none⟩)) rfl envE_nil) ?_
  refine St_seq ?_
  refine St_region ?_
  refine Ls_run (run_assign rfl) rfl ?_
  refine Ls_nil ?_
  refine Jm_seq ?_
  refine St_seq ?_
  refine St_seq ?_
  refine St_region ?_
  refine Ls_run (run_move rfl) rfl ?_
  refine Ls_run (run_asB (c := false) (run_eql_ptr_nil Try.underlying46 rfl rfl) rfl) rfl ?_
  refine Ls_nil ?_
  refine Jm_seq ?_
  refine St_iff rfl ?_
  refine St_skip ?_
  refine Jm_seq ?_
  refine St_seq ?_
  refine St_region ?_
  refine Ls_run (run_move rfl) rfl ?_
  refine Ls_run (run_nilCheck rfl) rfl ?_
  refine Ls_run (run_as (run_field Try.underlying129 rfl inf3 (by decide) rfl) (show _ = Value.pointer (some ⟨b, 5, none⟩) from rfl)) rfl ?_
  refine Ls_run (run_load sc3 rfl (hs.blk_at 0 rfl 5 rfl)) rfl ?_
  refine Ls_run (run_assign rfl) rfl ?_
  refine Ls_nil ?_
  refine Jm_seq ?_
  refine St_ret ?_
  refine Jm_ret1 rfl rfl ?_
  exact ⟨_, rfl, rfl, rfl⟩
set_option maxRecDepth 100000 in
set_option maxHeartbeats 1000000 in
theorem Reads_c (w : World) (b : Nat) (s : DSt) (Ao : Option Addr) (co : Nat) (hd : w.heap[b]? = some (.cells (dcells s Ao co).toArray 129 (0, 0))) :
    Calls Try.prog 56 [.pointer (some ⟨b, 0, none⟩)].toArray w (Ret (fun v' w' => w = w' ∧ v' = .int .i64 s.reads)) := by
  have hs := Sat.ofBlk hd
  refine Calls_body Try.func56 rfl rfl rfl (envE_cons (i := 0) (v := .pointer (some ⟨b, 0, none⟩)) rfl envE_nil) ?_
  refine St_seq ?_
  refine St_region ?_
  refine Ls_run (run_assign rfl) rfl ?_
  refine Ls_nil ?_
  refine Jm_seq ?_
  refine St_seq ?_
  refine St_seq ?_
  refine St_region ?_
  refine Ls_run (run_move rfl) rfl ?_
  refine Ls_run (run_asB (c := false) (run_eql_ptr_nil Try.underlying46 rfl rfl) rfl) rfl ?_
  refine Ls_nil ?_
  refine Jm_seq ?_
  refine St_iff rfl ?_
  refine St_skip ?_
  refine Jm_seq ?_
  refine St_seq ?_
  refine St_region ?_
  refine Ls_run (run_move rfl) rfl ?_
  refine Ls_run (run_nilCheck rfl) rfl ?_
  refine Ls_run (run_as (run_field Try.underlying129 rfl inf3 (by decide) rfl) (show _ = Value.pointer (some ⟨b, 4, none⟩) from rfl)) rfl ?_
  refine Ls_run (run_load sc3 rfl (hs.blk_at 0 rfl 4 rfl)) rfl ?_
  refine Ls_run (run_assign rfl) rfl ?_
  refine Ls_nil ?_
  refine Jm_seq ?_
  refine St_ret ?_
  refine Jm_ret1 rfl rfl ?_
  exact ⟨_, rfl, rfl, rfl⟩
set_option maxRecDepth 100000 in
set_option maxHeartbeats 1000000 in
theorem Blocks_c (w : World) (b : Nat) (s : DSt) (Ao : Option Addr) (co : Nat) (hd : w.heap[b]? = some (.cells (dcells s Ao co).toArray 129 (0, 0))) :
    Calls Try.prog 94 [.pointer (some ⟨b, 0, none⟩)].toArray w (Ret (fun v' w' => w = w' ∧ v' = .int .i64 (s.bl.length : Int))) := by
  have hs := Sat.ofBlk hd
  refine Calls_body Try.func94 rfl rfl rfl (envE_cons (i := 0) (v := .pointer (some ⟨b, 0, none⟩)) rfl envE_nil) ?_
  refine St_seq ?_
  refine St_region ?_
  refine Ls_run (run_assign rfl) rfl ?_
  refine Ls_nil ?_
  refine Jm_seq ?_
  refine St_seq ?_
  refine St_seq ?_
  refine St_region ?_
  refine Ls_run (run_move rfl) rfl ?_
  refine Ls_run (run_asB (c := false) (run_eql_ptr_nil Try.underlying46 rfl rfl) rfl) rfl ?_
  refine Ls_nil ?_
  refine Jm_seq ?_
  refine St_iff rfl ?_
  refine St_skip ?_
  refine Jm_seq ?_
  refine St_seq ?_
  refine St_region ?_
  refine Ls_run (run_move rfl) rfl ?_
  refine Ls_run (run_nilCheck rfl) rfl ?_
  refine Ls_run (run_as (run_field Try.underlying129 rfl inf55 (by decide) rfl) (show _ = Value.pointer (some ⟨b, 0, none⟩) from rfl)) rfl ?_
  refine Ls_run (run_load sc55 rfl (hs.blk_at 0 rfl 0 rfl)) rfl ?_
  refine Ls_run (run_len Try.underlying55 rfl) rfl ?_
  refine Ls_run (run_assign rfl) rfl ?_
  refine Ls_nil ?_
  refine Jm_seq ?_
  refine St_ret ?_
  refine Jm_ret1 rfl rfl ?_
  exact ⟨_, rfl, rfl, rfl⟩
set_option maxRecDepth 100000 in
set_option maxHeartbeats 1000000 in
theorem Off_c (B w : World) (L : List Assn) (b : Nat) (s : DSt) (Ao : Option Addr) (co : Nat) (hs : Sat B w (Blk b (dcells s Ao co) 129 :: L)) :
    Calls Try.prog 45 [.pointer (some ⟨b, 0, none⟩)].toArray w (Ret (fun v' w' => v' = .tuple #[] ∧ Sat B w' (Blk b (dcells (doff s) Ao co) 129 :: L))) := by
  refine Calls_body Try.func45 rfl rfl rfl (envE_cons (i := 0) (v := .pointer (some ⟨b, 0, none⟩)) rfl envE_nil) ?_
  refine St_region ?_
  refine Ls_run (run_move rfl) rfl ?_
  refine Ls_call Try.func93 nm93 rfl rfl (set_c B w L b s Ao co hs _ _) rfl ?_
  rintro v1 w2 ⟨rfl, hs⟩
  refine Ls_nil ?_
  refine Jm_end0 rfl ?_
  exact ⟨_, rfl, rfl, hs⟩
set_option maxRecDepth 100000 in
set_option maxHeartbeats 1000000 in
theorem On_c (B w : World) (L : List Assn) (b : Nat) (s : DSt) (Ao : Option Addr) (co : Nat) (hs : Sat B w (Blk b (dcells s Ao co) 129 :: L)) :
    Calls Try.prog 35 [.pointer (some ⟨b, 0, none⟩)].toArray w (Ret (fun v' w' => v' = .tuple #[] ∧ Sat B w' (Blk b (dcells (don s) Ao co) 129 :: L))) := by
  refine Calls_body Try.func35 rfl rfl rfl (envE_cons (i := 0) (v := .pointer (some ⟨b, 0, none⟩)) rfl envE_nil) ?_
  refine St_region ?_
  refine Ls_run (run_move rfl) rfl ?_
  refine Ls_call Try.func93 nm93 rfl rfl (set_c B w L b s Ao co hs _ _) rfl ?_
  rintro v1 w2 ⟨rfl, hs⟩
  refine Ls_nil ?_
  refine Jm_end0 rfl ?_
  exact ⟨_, rfl, rfl, hs⟩
set_option maxRecDepth 100000 in
set_option maxHeartbeats 1000000 in
theorem Cut_c (B w : World) (L : List Assn) (b : Nat) (s : DSt) (Ao : Option Addr) (co : Nat) (hs : Sat B w (Blk b (dcells s Ao co) 129 :: L)) (n : Int) :
    Calls Try.prog 32 [.pointer (some ⟨b, 0, none⟩), .int .i64 n].toArray w (Ret (fun v' w' => v' = .tuple #[] ∧ Sat B w' (Blk b (dcells (dcut s n) Ao co) 129 :: L))) := by
  refine Calls_body Try.func32 rfl rfl rfl (envE_cons (i := 0) (v := .pointer (some ⟨b, 0, none⟩)) rfl (envE_cons (i := 1) (v := .int .i64 n) rfl envE_nil)) ?_
  refine St_region ?_
  refine Ls_run (run_move rfl) rfl ?_
  refine Ls_run (run_move rfl) rfl ?_
  refine Ls_call Try.func34 nm34 rfl rfl (Down_c w b s Ao co (hs.is_at 0 rfl).2) rfl ?_
  rintro v1 w2 ⟨rfl, rfl⟩
  refine Ls_run (run_move rfl) rfl ?_
  refine Ls_call Try.func93 nm93 rfl rfl (set_c B w L b s Ao co hs _ _) rfl ?_
  rintro v3 w4 ⟨rfl, hs⟩
  refine Ls_nil ?_
  refine Jm_end0 rfl ?_
  exact ⟨_, rfl, rfl, hs⟩
set_option maxRecDepth 100000 in
set_option maxHeartbeats 1000000 in
theorem check_c (w : World) (b : Nat) (s : DSt) (Ao : Option Addr) (co : Nat) (hd : w.heap[b]? = some (.cells (dcells s Ao co).toArray 129 (0, 0))) (i : Int) :
    Calls Try.prog 119 [.pointer (some ⟨b, 0, none⟩), .int .i64 i].toArray w (Ret (fun v' w' => w = w' ∧ v' = .int .i64 (dcheck s i))) := by
  have hs := Sat.ofBlk hd
  refine Calls_body Try.func119 rfl rfl rfl (envE_cons (i := 0) (v := .pointer (some ⟨b, 0, none⟩)) rfl (envE_cons (i := 1) (v := .int .i64 i) rfl envE_nil)) ?_
  refine St_seq ?_
  refine St_region ?_
  refine Ls_run (run_assign rfl) rfl ?_
  refine Ls_nil ?_
  refine Jm_seq ?_
  refine St_seq ?_
  refine St_block ?_
  refine St_seq ?_
  refine St_region ?_
  refine Ls_run (run_move rfl) rfl ?_
  refine Ls_run (run_asB (c := false) (run_eql_ptr_nil Try.underlying46 rfl rfl) rfl) rfl ?_
  refine Ls_run (run_assign rfl) rfl ?_
  refine Ls_nil ?_
  refine Jm_seq ?_
  refine St_iff rfl ?_
  refine St_seq ?_
  refine St_region ?_
  refine Ls_run (run_move rfl) rfl ?_
  refine Ls_run (run_nilCheck rfl) rfl ?_
  refine Ls_run (run_as (run_field Try.underlying129 rfl inf4 (by decide) rfl) (show _ = Value.pointer (some ⟨b, 1, none⟩) from rfl)) rfl ?_
  refine Ls_run (run_load sc4 rfl (hs.blk_at 0 rfl 1 rfl)) rfl ?_
  refine Ls_run (run_assign rfl) rfl ?_
  refine Ls_nil ?_
  refine Jm_seq ?_
  refine St_if rfl (fun h2 => ?_) (fun h2 => ?_)
  · skip
    refine St_seq ?_
    refine St_region ?_
    refine Ls_run (run_assign rfl) rfl ?_
    refine Ls_nil ?_
    refine Jm_seq ?_
    refine St_ret ?_
    refine Jm_block_ret (Jm_then_ret  ?_)
    refine Jm_ret1 rfl rfl ?_
    refine ⟨_, rfl, rfl, ?_⟩
    unfold dcheck
    first | (rw [if_pos (by assumption)]; done) | (rw [if_neg (by simp_all), if_pos (by omega)]; done) | (rw [if_neg (by simp_all), if_neg (by omega)]; done)
  · skip
    refine St_seq ?_
    refine St_region ?_
    refine Ls_run (run_move rfl) rfl ?_
    refine Ls_run (run_lss rfl rfl) rfl ?_
    refine Ls_run (run_move rfl) rfl ?_
    refine Ls_partP (t := 16) rfl (fun h3 => ?_) (fun h3 => ?_)
    · skip
      refine Ls_off rfl rfl rfl rfl ?_
      refine Ls_off rfl rfl rfl rfl ?_
      refine Ls_off rfl rfl rfl rfl ?_
      refine Ls_off rfl rfl rfl rfl ?_
      refine Ls_off rfl rfl rfl rfl ?_
      refine Ls_off rfl rfl rfl rfl ?_
      refine Ls_off rfl rfl rfl rfl ?_
      refine Ls_run (run_pick_t rfl rfl) rfl ?_
      refine Ls_run (run_assign rfl) rfl ?_
      refine Ls_nil ?_
      refine Jm_seq ?_
      refine St_ift rfl ?_
      refine St_seq ?_
      refine St_region ?_
      refine Ls_run (run_assign rfl) rfl ?_
      refine Ls_nil ?_
      refine Jm_seq ?_
      refine St_ret ?_
      refine Jm_block_ret (Jm_then_ret  ?_)
      refine Jm_ret1 rfl rfl ?_
      refine ⟨_, rfl, rfl, ?_⟩
      unfold dcheck
      first | (rw [if_pos (by assumption)]; done) | (rw [if_neg (by simp_all), if_pos (by omega)]; done) | (rw [if_neg (by simp_all), if_neg (by omega)]; done)
    · skip
      refine Ls_on rfl rfl ?_
      refine Ls_run (run_move rfl) rfl ?_
      refine Ls_on rfl rfl ?_
      refine Ls_run (run_move rfl) rfl ?_
      refine Ls_on rfl rfl ?_
      refine Ls_run (run_nilCheck rfl) rfl ?_
      refine Ls_on rfl rfl ?_
      refine Ls_run (run_as (run_field Try.underlying129 rfl inf55 (by decide) rfl) (show _ = Value.pointer (some ⟨b, 0, none⟩) from rfl)) rfl ?_
      refine Ls_on rfl rfl ?_
      refine Ls_run (run_load sc55 rfl (hs.blk_at 0 rfl 0 rfl)) rfl ?_
      refine Ls_on rfl rfl ?_
      refine Ls_run (run_len Try.underlying55 rfl) rfl ?_
      refine Ls_on rfl rfl ?_
      refine Ls_run (run_geq rfl rfl) rfl ?_
      refine Ls_run (run_pick_f rfl rfl) rfl ?_
      refine Ls_run (run_assign rfl) rfl ?_
      refine Ls_nil ?_
      refine Jm_seq ?_
      refine St_ifP rfl (fun h5 => ?_) (fun h5 => ?_)
      · skip
        refine St_seq ?_
        refine St_region ?_
        refine Ls_run (run_assign rfl) rfl ?_
        refine Ls_nil ?_
        refine Jm_seq ?_
        refine St_ret ?_
        refine Jm_block_ret (Jm_then_ret  ?_)
        refine Jm_ret1 rfl rfl ?_
        refine ⟨_, rfl, rfl, ?_⟩
        unfold dcheck
        first | (rw [if_pos (by assumption)]; done) | (rw [if_neg (by simp_all), if_pos (by omega)]; done) | (rw [if_neg (by simp_all), if_neg (by omega)]; done)
      · skip
        refine St_skip ?_
        refine Jm_block_normal (Jm_seq ?_)
        refine St_seq ?_
        refine St_region ?_
        refine Ls_run (run_assign rfl) rfl ?_
        refine Ls_nil ?_
        refine Jm_seq ?_
        refine St_ret ?_
        refine Jm_ret1 rfl rfl ?_
        refine ⟨_, rfl, rfl, ?_⟩
        unfold dcheck
        first | (rw [if_pos (by assumption)]; done) | (rw [if_neg (by simp_all), if_pos (by omega)]; done) | (rw [if_neg (by simp_all), if_neg (by omega)]; done)
end Go.Proofs.Ytipkfdeiallifaa.Lg
