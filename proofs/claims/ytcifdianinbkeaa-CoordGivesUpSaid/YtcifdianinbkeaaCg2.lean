/-
  Part 2 of the proof: DiskAll, WirePure, Wire4, DiskO, JPure, WireP2, JRead, JourAll. No condition.
-/
import Derived.Test.YtcifdianinbkeaaCg1
import Derived.Laws.Bits64
import Derived.Laws.BitsAllLaws
set_option linter.unusedVariables false
set_option linter.unusedSimpArgs false
namespace Go.Proofs.Ytcifdianinbkeaa.Lg
open Go Go.RowKit
set_option maxRecDepth 100000 in
set_option maxHeartbeats 1000000 in
theorem Clone_c (w : World) (A : Option Addr) (n c : Nat) (l : List Int) (hr : Rd w A n c 1 (bytesV l)) (hn : n ≤ 140737488355328) :
    Calls Try.prog 78 [.slice A n c].toArray w (Ret (fun v' w' => ∃ A' c', v' = .slice A' n c' ∧ Sat w w' [Own 5 1 v' n (bytesV l)])) := by
  have hs := Sat.start w
  have hl : l.length = n := rdB_len hr
  have hnc := hr.cap
  refine Zb Try.func78 rfl rfl rfl (Zs (Za rfl (Zj (St_seq (Zs (Zm rfl (Zr (run_eql_slice_nil un125 rfl rfl) rfl (Zj (St_if rfl (fun h1 => ?_) (fun h1 => ?_))))))))))
  · refine Zs (Za rfl (Zj (St_ret (Jm_then_ret (Jm_ret1 rfl rfl ?_)))))
    have hA : A = none := by simpa using h1
    have hc := hr.nil hA
    have hn0 : n = 0 := by omega
    have hl0 : l = [] := List.eq_nil_of_length_eq_zero (by omega)
    subst hA hn0 hl0
    exact ⟨_, rfl, _, _, rfl, hs.own_nil _ _⟩
  refine St_skip (Zq (Zs (Ls_literal [] hs un125 inf5 rfl rfl rfl rfl rfl rfl (fun b2 w3 hs => ?_))))
  simp only [List.flatMap_cons, List.flatMap_nil, Value.cells, List.cons_append, List.nil_append] at hs
  replace hs := Sat.own_block hs 1 0 rfl (by decide)
  refine Zm rfl (Ls_append hs un125 inf5 rfl (by decide) (by decide) rfl rfl (hr.inB hs) (bytesV_one' _) (by omega) rfl (fun A4 c5 w6 hs => (Za rfl (Zj (St_ret (Jm_ret1 rfl rfl ?_))))))
  simp only [Nat.zero_add, List.nil_append] at hs ⊢
  exact ⟨_, rfl, _, _, rfl, hs⟩
set_option maxRecDepth 100000 in
set_option maxHeartbeats 1000000 in
theorem set_c (B w : World) (L : List Assn) (b : Nat) (s : DSt) (Ao : Option Addr) (co : Nat) (hs : Sat B w (Blk b (dcells s Ao co) 122 :: L)) (dn : Bool) (n : Int) :
    Calls Try.prog 44 [.pointer (some ⟨b, 0, none⟩), .bool dn, .int .i64 n].toArray w (Ret (fun v' w' => v' = .tuple #[] ∧ Sat B w' (Blk b (dcells (dset s dn n) Ao co) 122 :: L))) := by
  refine Zb Try.func44 rfl rfl rfl (Zs (Zm rfl (Zr (run_asB (c := true) (run_neq_ptr_nil un27 rfl rfl) rfl) rfl (Zj (St_ift rfl (St_region (Zm rfl (Zm rfl (Zm rfl (Zm rfl (Zm rfl (Zr (run_geq rfl rfl) rfl (Zm rfl (Zk rfl (Zf un122 inf4 rfl 1 rfl (Ls_store hs inf4 rfl rfl rfl rfl (fun w2 hs => ?_)))))))))))))))))
  try simp only [List.set_cons_zero, List.set_cons_succ] at hs
  refine Zk rfl (Zf un122 inf4 rfl 2 rfl (Ls_store hs inf4 rfl rfl rfl rfl (fun w3 hs => ?_)))
  try simp only [List.set_cons_zero, List.set_cons_succ] at hs
  refine Zk rfl (Zf un122 inf3 rfl 3 rfl (Ls_store hs inf3 rfl rfl rfl rfl (fun w4 hs => ?_)))
  try simp only [List.set_cons_zero, List.set_cons_succ] at hs
  refine Ls_nil (Jm_end0 rfl ?_)
  exact ⟨_, rfl, rfl, hs⟩
set_option maxRecDepth 100000 in
set_option maxHeartbeats 1000000 in
theorem Down_c (w : World) (b : Nat) (s : DSt) (Ao : Option Addr) (co : Nat) (hd : w.heap[b]? = some (.cells (dcells s Ao co).toArray 122 (0, 0))) :
    Calls Try.prog 43 [.pointer (some ⟨b, 0, none⟩)].toArray w (Ret (fun v' w' => w = w' ∧ v' = .bool s.down)) := by
  have hs := Sat.ofBlk hd
  refine Zb Try.func43 rfl rfl rfl (Zs (Za rfl (Zt (Zm rfl (Zr (run_asB (c := true) (run_neq_ptr_nil un27 rfl rfl) rfl) rfl (Zm rfl (Zo rfl (Zm rfl (Zo rfl (Zk rfl (Zo rfl (Zf un122 inf4 rfl 1 rfl (Zo rfl (Zl sc4 rfl (hs.blk_at 0 rfl 1 rfl) (Zr (run_pick_t rfl rfl) rfl (Za rfl (Zj (St_ret (Jm_ret1 rfl rfl ?_)))))))))))))))))))
  exact ⟨_, rfl, rfl, rfl⟩
set_option maxRecDepth 100000 in
set_option maxHeartbeats 1000000 in
theorem Blocks_c (w : World) (b : Nat) (s : DSt) (Ao : Option Addr) (co : Nat) (hd : w.heap[b]? = some (.cells (dcells s Ao co).toArray 122 (0, 0))) :
    Calls Try.prog 69 [.pointer (some ⟨b, 0, none⟩)].toArray w (Ret (fun v' w' => w = w' ∧ v' = .int .i64 (s.bl.length : Int))) := by
  have hs := Sat.ofBlk hd
  refine Zb Try.func69 rfl rfl rfl (Zs (Za rfl (Zj (St_seq (Zs (Zm rfl (Zr (run_asB (c := false) (run_eql_ptr_nil un27 rfl rfl) rfl) rfl (Zj (St_iff rfl (St_skip (Zq (Zs (Zm rfl (Zk rfl (Zf un122 inf120 rfl 0 rfl (Zl sc120 rfl (hs.blk_at 0 rfl 0 rfl) (Zr (run_len un120 rfl) rfl (Za rfl (Zj (St_ret (Jm_ret1 rfl rfl ?_)))))))))))))))))))))
  exact ⟨_, rfl, rfl, rfl⟩
set_option maxRecDepth 100000 in
set_option maxHeartbeats 1000000 in
theorem Off_c (B w : World) (L : List Assn) (b : Nat) (s : DSt) (Ao : Option Addr) (co : Nat) (hs : Sat B w (Blk b (dcells s Ao co) 122 :: L)) :
    Calls Try.prog 81 [.pointer (some ⟨b, 0, none⟩)].toArray w (Ret (fun v' w' => v' = .tuple #[] ∧ Sat B w' (Blk b (dcells (doff s) Ao co) 122 :: L))) := by
  refine Zb Try.func81 rfl rfl rfl (St_region (Zm rfl (Zc fn44 rfl (set_c B w L b s Ao co hs _ _) rfl ?_)))
  rintro v1 w2 ⟨rfl, hs⟩
  refine Ls_nil (Jm_end0 rfl ?_)
  exact ⟨_, rfl, rfl, hs⟩
set_option maxRecDepth 100000 in
set_option maxHeartbeats 1000000 in
theorem On_c (B w : World) (L : List Assn) (b : Nat) (s : DSt) (Ao : Option Addr) (co : Nat) (hs : Sat B w (Blk b (dcells s Ao co) 122 :: L)) :
    Calls Try.prog 20 [.pointer (some ⟨b, 0, none⟩)].toArray w (Ret (fun v' w' => v' = .tuple #[] ∧ Sat B w' (Blk b (dcells (don s) Ao co) 122 :: L))) := by
  refine Zb Try.func20 rfl rfl rfl (St_region (Zm rfl (Zc fn44 rfl (set_c B w L b s Ao co hs _ _) rfl ?_)))
  rintro v1 w2 ⟨rfl, hs⟩
  refine Ls_nil (Jm_end0 rfl ?_)
  exact ⟨_, rfl, rfl, hs⟩
set_option maxRecDepth 100000 in
set_option maxHeartbeats 1000000 in
theorem Cut_c (B w : World) (L : List Assn) (b : Nat) (s : DSt) (Ao : Option Addr) (co : Nat) (hs : Sat B w (Blk b (dcells s Ao co) 122 :: L)) (n : Int) :
    Calls Try.prog 42 [.pointer (some ⟨b, 0, none⟩), .int .i64 n].toArray w (Ret (fun v' w' => v' = .tuple #[] ∧ Sat B w' (Blk b (dcells (dcut s n) Ao co) 122 :: L))) := by
  refine Zb Try.func42 rfl rfl rfl (St_region (Zm rfl (Zm rfl (Zc fn43 rfl (Down_c w b s Ao co (hs.is_at 0 rfl).2) rfl ?_))))
  rintro v1 w2 ⟨rfl, rfl⟩
  refine Zm rfl (Zc fn44 rfl (set_c B w L b s Ao co hs _ _) rfl ?_)
  rintro v3 w4 ⟨rfl, hs⟩
  refine Ls_nil (Jm_end0 rfl ?_)
  exact ⟨_, rfl, rfl, hs⟩
set_option maxRecDepth 100000 in
set_option maxHeartbeats 1000000 in
theorem check_c (w : World) (b : Nat) (s : DSt) (Ao : Option Addr) (co : Nat) (hd : w.heap[b]? = some (.cells (dcells s Ao co).toArray 122 (0, 0))) (i : Int) :
    Calls Try.prog 77 [.pointer (some ⟨b, 0, none⟩), .int .i64 i].toArray w (Ret (fun v' w' => w = w' ∧ v' = .int .i64 (dcheck s i))) := by
  have hs := Sat.ofBlk hd
  refine Zb Try.func77 rfl rfl rfl (Zs (Za rfl (Zj (St_seq (St_block (Zs (Zm rfl (Zr (run_asB (c := false) (run_eql_ptr_nil un27 rfl rfl) rfl) rfl (Za rfl (Zj (St_iff rfl (Zs (Zm rfl (Zk rfl (Zf un122 inf4 rfl 1 rfl (Zl sc4 rfl (hs.blk_at 0 rfl 1 rfl) (Za rfl (Zj (St_if rfl (fun h2 => ?_) (fun h2 => ?_))))))))))))))))))))
  · refine Zs (Za rfl (Zj (St_ret (Jm_block_ret (Jm_then_ret (Jm_ret1 rfl rfl (⟨_, rfl, rfl, ?_⟩)))))))
    unfold dcheck
    first | (rw [if_pos (by assumption)]; done) | (rw [if_neg (by simp_all), if_pos (by omega)]; done) | (rw [if_neg (by simp_all), if_neg (by omega)]; done)
  refine Zs (Zm rfl (Zr (run_lss rfl rfl) rfl (Zm rfl (Ls_partP (t := 16) rfl (fun h3 => ?_) (fun h3 => ?_)))))
  · refine Zx rfl (Zx rfl (Zx rfl (Zx rfl (Zx rfl (Zx rfl (Zx rfl (Zr (run_pick_t rfl rfl) rfl (Za rfl (Zj (St_ift rfl (Zs (Za rfl (Zj (St_ret (Jm_block_ret (Jm_then_ret (Jm_ret1 rfl rfl (⟨_, rfl, rfl, ?_⟩))))))))))))))))))
    unfold dcheck
    first | (rw [if_pos (by assumption)]; done) | (rw [if_neg (by simp_all), if_pos (by omega)]; done) | (rw [if_neg (by simp_all), if_neg (by omega)]; done)
  refine Zo rfl (Zm rfl (Zo rfl (Zm rfl (Zo rfl (Zk rfl (Zo rfl (Zf un122 inf120 rfl 0 rfl (Zo rfl (Zl sc120 rfl (hs.blk_at 0 rfl 0 rfl) (Zo rfl (Zr (run_len un120 rfl) rfl (Zo rfl (Zr (run_geq rfl rfl) rfl (Zr (run_pick_f rfl rfl) rfl (Za rfl (Zj (St_ifP rfl (fun h5 => ?_) (fun h5 => ?_))))))))))))))))))
  · refine Zs (Za rfl (Zj (St_ret (Jm_block_ret (Jm_then_ret (Jm_ret1 rfl rfl (⟨_, rfl, rfl, ?_⟩)))))))
    unfold dcheck
    first | (rw [if_pos (by assumption)]; done) | (rw [if_neg (by simp_all), if_pos (by omega)]; done) | (rw [if_neg (by simp_all), if_neg (by omega)]; done)
  refine St_skip (Jm_block_normal (Zq (Zs (Za rfl (Zj (St_ret (Jm_ret1 rfl rfl (⟨_, rfl, rfl, ?_⟩))))))))
  unfold dcheck
  first | (rw [if_pos (by assumption)]; done) | (rw [if_neg (by simp_all), if_pos (by omega)]; done) | (rw [if_neg (by simp_all), if_neg (by omega)]; done)
end Go.Proofs.Ytcifdianinbkeaa.Lg

/-
  The disk's Read and Write, walked. By program (gen/disk2.py).
-/
set_option linter.unusedVariables false
set_option linter.unusedSimpArgs false
namespace Go.Proofs.Ytcifdianinbkeaa.Lg
open Go Go.RowKit
theorem getD_mem_bl {ls : List (List Int)} {i : Nat} (hi : i < ls.length) : ls.getD i [] ∈ ls := by
  rw [List.getD_eq_getElem?_getD, List.getElem?_eq_getElem hi]; exact List.getElem_mem _
theorem dcheck_0 {s : DSt} {i : Int} (h : dcheck s i = 0) : s.down = false ∧ 0 ≤ i ∧ i < (s.bl.length : Int) := by
  unfold dcheck at h
  split at h
  · simp at h
  · split at h
    · simp at h
    · rename_i h1 h2; exact ⟨by simpa using h1, by omega, by omega⟩
set_option maxRecDepth 100000 in
set_option maxHeartbeats 1000000 in
theorem Read_c (B w : World) (L : List Assn) (b : Nat) (s : DSt) (hs : Sat B w (DiskA 122 125 5 b s :: L)) (hok : ∀ r ∈ s.bl, r.length ≤ 1024) (i : Int) :
    Calls Try.prog 70 [.pointer (some ⟨b, 0, none⟩), .int .i64 i].toArray w (Ret (fun v' w' => ∃ A c, v' = .tuple #[.slice A (dread s i).1.length c, .int .i64 (dread s i).2.1] ∧ Sat B w' (DiskA 122 125 5 b (dread s i).2.2 :: Own 5 1 (.slice A (dread s i).1.length c) (dread s i).1.length (bytesV (dread s i).1) :: L))) := by
  obtain ⟨vs, Ao, co, hvs, hs⟩ := hs.dopen
  refine Zb Try.func70 rfl rfl rfl (Zs (Za rfl (Za rfl (Zj (St_seq (Zs (Zm rfl (Zm rfl (Zc fn77 rfl (check_c w b s Ao co (hs.is_at 0 rfl).2 i) rfl ?_)))))))))
  rintro v1 w2 ⟨rfl, rfl⟩
  refine Za rfl (Zt (Zm rfl (Zr (run_neq rfl rfl) rfl (Zj (St_ifP rfl (fun h3 => ?_) (fun h3 => ?_))))))
  · refine Zs (Zm rfl (Za rfl (Za rfl (Zj (St_ret (Jm_then_ret (Jm_ret2 rfl rfl rfl ?_)))))))
    have e : dread s i = ([], dcheck s i, s) := by unfold dread; rw [if_neg (by assumption)]
    rw [e]
    have hs5 := hs.dshut hvs
    exact ⟨_, rfl, none, 0, rfl, ((hs5.own_nil 5 1).front 1 rfl)⟩
  have hc : dcheck s i = 0 := by omega
  obtain ⟨hdn, hi0, hi1⟩ := dcheck_0 hc
  obtain ⟨k, rfl⟩ : ∃ k : Nat, i = (k : Int) := ⟨i.toNat, by omega⟩
  have hkl : k < s.bl.length := by omega
  have hrow := hok _ (getD_mem_bl hkl)
  refine St_skip (Zq (Zs (Zm rfl (Zk rfl (Zf un122 inf3 rfl 4 rfl (Zl sc3 rfl (hs.blk_at 0 rfl 4 rfl) (Zr (run_add rfl rfl rfl) rfl (Zk rfl (Zf un122 inf3 rfl 4 rfl (Ls_store hs inf3 rfl rfl rfl rfl (fun w4 hs => ?_)))))))))))
  try simp only [List.set_cons_zero, List.set_cons_succ] at hs
  refine Zt (Zm rfl (Zk rfl (Zf un122 inf120 rfl 0 rfl (Zl sc120 rfl (hs.blk_at 0 rfl 0 rfl) (Zm rfl ?_)))))
  obtain ⟨Ak, nk, ck, hvk, hrk⟩ := (Sat.parts (pre := _ :: _ :: L) hs hvs).2 k hkl
  rw [← bytesV_flat] at hrk
  have hnk := rdB_len hrk
  refine Ls_index (El.val) (hs.rd_at 1 rfl) un120 inf125 rfl rfl (by omega) (by omega) hvk rfl (fun b5 o6 hc7 => (Zl sc125 rfl (hc7 0 _ rfl) (Zc fn78 rfl (Clone_c w4 Ak nk ck (s.bl.getD k []) hrk (by omega)) rfl ?_)))
  rintro v8 w9 ⟨Ac, cc, rfl, hsC⟩
  replace hs := hs.T hsC
  refine Za rfl (Za rfl (Zj (St_ret (Jm_ret2 rfl rfl rfl ?_))))
  replace hs := hs.F2.F2
  have e : dread s (k : Int) = (s.bl.getD k [], 0, { s with reads := IntKind.i64.wrap (s.reads + 1) }) := by unfold dread; rw [if_pos hc]; rfl
  rw [e]
  have hs5 := Sat.dshut (s := { s with reads := IntKind.i64.wrap (s.reads + 1) }) (L := _ :: L) hvs hs
  rw [← hnk] at hs5
  exact ⟨_, by rw [← hnk], Ac, cc, rfl, hs5⟩
set_option maxRecDepth 100000 in
set_option maxHeartbeats 1000000 in
theorem Write_c (B w : World) (L : List Assn) (b : Nat) (s : DSt) (hs : Sat B w (DiskA 122 125 5 b s :: L)) (hok : ∀ r ∈ s.bl, r.length ≤ 1024) (i : Int) (A : Option Addr) (n c : Nat) (l : List Int) (hr : ∀ w' X, Sat B w' (X :: L) → Rd w' A n c 1 (bytesV l)) (hn : n ≤ 140737488355328) :
    Calls Try.prog 72 [.pointer (some ⟨b, 0, none⟩), .int .i64 i, .slice A n c].toArray w (Ret (fun v' w' => v' = .int .i64 (dwrite s i l).1 ∧ Sat B w' (DiskA 122 125 5 b (dwrite s i l).2 :: L))) := by
  have hl : l.length = n := rdB_len (hr _ _ hs)
  obtain ⟨vs, Ao, co, hvs, hs⟩ := hs.dopen
  refine Zb Try.func72 rfl rfl rfl (Zs (Za rfl (Zt (Zm rfl (Zm rfl (Zc fn77 rfl (check_c w b s Ao co (hs.is_at 0 rfl).2 i) rfl ?_))))))
  rintro v1 w2 ⟨rfl, rfl⟩
  refine Za rfl (Zj (St_seq (St_block (Zs (Zm rfl (Zr (run_neq rfl rfl) rfl (Za rfl (Zj (St_ifP rfl (fun h3 => ?_) (fun h3 => ?_))))))))))
  · refine Zs (Zm rfl (Za rfl (Zj (St_ret (Jm_block_ret (Jm_then_ret (Jm_ret1 rfl rfl ?_)))))))
    have e : dwrite s i l = (dcheck s i, s) := by unfold dwrite; rw [if_pos (by assumption)]
    rw [e]
    exact ⟨_, rfl, rfl, hs.dshut hvs⟩
  have hc : dcheck s i = 0 := by omega
  obtain ⟨hdn, hi0, hi1⟩ := dcheck_0 hc
  obtain ⟨k, rfl⟩ : ∃ k : Nat, i = (k : Int) := ⟨i.toNat, by omega⟩
  have hkl : k < s.bl.length := by omega
  have hrow := hok _ (getD_mem_bl hkl)
  refine Zs (Zm rfl (Zr (run_len un125 rfl) rfl (Zr (run_gtr rfl rfl) rfl (Za rfl (Zj (St_ifP rfl (fun h4 => ?_) (fun h4 => ?_)))))))
  · refine Zs (Za rfl (Zj (St_ret (Jm_block_ret (Jm_then_ret (Jm_ret1 rfl rfl ?_))))))
    have e : dwrite s (k : Int) l = (6, s) := by unfold dwrite; rw [if_neg (by omega), if_pos (by omega)]
    rw [e]
    exact ⟨_, rfl, rfl, hs.dshut hvs⟩
  refine Zs (Zm rfl (Zk rfl (Zf un122 inf4 rfl 2 rfl (Zl sc4 rfl (hs.blk_at 0 rfl 2 rfl) (Zm rfl (Ls_part (t := 24) rfl (fun h5 => ?_) (fun h5 => ?_)))))))
  · refine Zo rfl (Zm rfl (Zo rfl (Zk rfl (Zo rfl (Zf un122 inf3 rfl 3 rfl (Zo rfl (Zl sc3 rfl (hs.blk_at 0 rfl 3 rfl) (Zo rfl (Zr (run_eql rfl rfl) rfl (Zr (run_pick_t rfl rfl) rfl (Za rfl (Zj (St_ifP rfl (fun h6 => ?_) (fun h6 => ?_))))))))))))))
    · refine Zs (Zm rfl (Zc fn81 rfl (Off_c B w _ b s Ao co hs) rfl ?_))
      rintro v7 w9 ⟨rfl, hs⟩
      refine Zt (Za rfl (Zj (St_ret (Jm_block_ret (Jm_then_ret (Jm_ret1 rfl rfl ?_))))))
      have e : dwrite s (k : Int) l = (80, doff s) := by unfold dwrite; rw [if_neg (by omega), if_neg (by omega), if_pos ⟨by assumption, by assumption⟩]
      rw [e]
      exact ⟨_, rfl, rfl, Sat.dshut (s := doff s) hvs hs⟩
    refine St_skip (Jm_block_normal (Zq (Zs (Zm rfl (Zk rfl (Zf un122 inf3 rfl 3 rfl (Zl sc3 rfl (hs.blk_at 0 rfl 3 rfl) (Zr (run_sub rfl rfl rfl) rfl (Zk rfl (Zf un122 inf3 rfl 3 rfl (Ls_store hs inf3 rfl rfl rfl rfl (fun w10 hs => ?_))))))))))))
    try simp only [List.set_cons_zero, List.set_cons_succ] at hs
    refine Zj (St_seq (St_drawC 8 (fun x => Below w10.heap.size w10 x) mixed (fun w11 q12 => ?_)))
    have hH := q12.below
    replace hs := hs.quiet q12
    refine AnC_grow hH ?_
    replace hH := Below.refl w11.heap.size w11
    refine Yr (fun _ => hH) 0 rfl (by kernel_rfl) (fun x => run_move rfl) (Yr (fun _ => hH) 1 rfl (by kernel_rfl) (fun x => run_nilCheck rfl) (Yr (fun _ => hH) 2 rfl (by kernel_rfl) (fun x => run_fd un122 inf120 rfl 0 rfl) (Yd hH 3 [8, 3] rfl (by kernel_rfl) (fun x hx => run_load sc120 rfl ((hs.grow hx).blk_at 0 rfl 0 rfl)) (Yr (fun _ => hH) 4 rfl (by kernel_rfl) (fun x => run_move rfl) (Yr (fun _ => hH) 5 rfl (by kernel_rfl) (fun x => run_move rfl) (AnC_only 6 (by kernel_rfl) rfl (Zc fn78 rfl (Clone_c w11 A n c l (Sat.rdL (pre := [_, _]) hr hs) hn) rfl ?_)))))))
    rintro v13 w14 ⟨Ac, cc, rfl, hsC⟩
    replace hs := hs.T hsC
    replace hH := (hsC.below : Below w11.heap.size w11 w14)
    refine Ls_nil (Jm_AnC (fun _ => hH) (AnC_grow hH ?_))
    replace hH := Below.refl w14.heap.size w14
    obtain ⟨g, rfl⟩ := (hs.front 2 rfl).own_addr (by omega)
    refine Yr (fun _ => hH) 7 rfl (by kernel_rfl) (fun x => run_index un120 inf125 rfl rfl rfl (by omega) (by omega)) (AnC_only 8 (by kernel_rfl) rfl ?_)
    replace hs := hs.F2
    refine Ls_storeOwn hs inf125 rfl rfl rfl (by omega) (fun w15 hs => (Ls_nil (Jm_AnC_closed (by kernel_rfl) (AnC_switch (H' := fun x => Below w15.heap.size w15 x) 9 (by kernel_rfl) ?_))))
    replace hH := Below.refl w15.heap.size w15
    refine AnC_done (by kernel_rfl) (Zq (Zs ?_))
    replace hs := hs.F2.F1.F2
    simp only [Nat.zero_add, Nat.mul_one, Int.toNat_natCast, El.val_flat] at hs
    have hs5 := Sat.row_swap (pre := _ :: _ :: L) k l hs hl.symm (bytesV_flat l) hvs (by omega)
    replace hs := hs5
    simp only [List.cons_append] at hs
    refine Zm rfl (Zk rfl (Zf un122 inf3 rfl 5 rfl (Zl sc3 rfl (hs.blk_at 1 rfl 5 rfl) (Zr (run_add rfl rfl rfl) rfl (Zk rfl (Zf un122 inf3 rfl 5 rfl ?_))))))
    replace hs := hs.F1
    refine Ls_store hs inf3 rfl rfl rfl rfl (fun w16 hs => ?_)
    try simp only [List.set_cons_zero, List.set_cons_succ] at hs
    refine Zt (Za rfl (Zj (St_ret (Jm_ret1 rfl rfl ?_))))
    have e : dwrite s (k : Int) l = (0, { s with left := IntKind.i64.wrap (s.left - 1), bl := s.bl.set k l, writes := IntKind.i64.wrap (s.writes + 1) }) := by unfold dwrite; rw [if_neg (by omega), if_neg (by omega), if_neg (by simp_all)]; rfl
    rw [e]
    refine ⟨_, rfl, rfl, Sat.dshut (s := { s with left := IntKind.i64.wrap (s.left - 1), bl := s.bl.set k l, writes := IntKind.i64.wrap (s.writes + 1) }) (vs := vs.set k (Value.slice Ac n cc)) (A := some ⟨g, 0, none⟩) (c := co) (by simpa using hvs) ?_⟩
    simp only [dcells, List.length_set, El.val_flat] at hs ⊢
    exact hs
  refine Zx rfl (Zx rfl (Zx rfl (Zx rfl (Zx rfl (Zr (run_pick_f rfl rfl) rfl (Za rfl (Zj (St_iff rfl (St_skip (Jm_block_normal (Zq (Zs (Zm rfl (Zk rfl (Zf un122 inf3 rfl 3 rfl (Zl sc3 rfl (hs.blk_at 0 rfl 3 rfl) (Zr (run_sub rfl rfl rfl) rfl (Zk rfl (Zf un122 inf3 rfl 3 rfl (Ls_store hs inf3 rfl rfl rfl rfl (fun w18 hs => ?_)))))))))))))))))))))
  try simp only [List.set_cons_zero, List.set_cons_succ] at hs
  refine Zj (St_seq (St_drawC 8 (fun x => Below w18.heap.size w18 x) mixed (fun w19 q20 => ?_)))
  have hH := q20.below
  replace hs := hs.quiet q20
  refine AnC_grow hH ?_
  replace hH := Below.refl w19.heap.size w19
  refine Yr (fun _ => hH) 0 rfl (by kernel_rfl) (fun x => run_move rfl) (Yr (fun _ => hH) 1 rfl (by kernel_rfl) (fun x => run_nilCheck rfl) (Yr (fun _ => hH) 2 rfl (by kernel_rfl) (fun x => run_fd un122 inf120 rfl 0 rfl) (Yd hH 3 [8, 3] rfl (by kernel_rfl) (fun x hx => run_load sc120 rfl ((hs.grow hx).blk_at 0 rfl 0 rfl)) (Yr (fun _ => hH) 4 rfl (by kernel_rfl) (fun x => run_move rfl) (Yr (fun _ => hH) 5 rfl (by kernel_rfl) (fun x => run_move rfl) (AnC_only 6 (by kernel_rfl) rfl (Zc fn78 rfl (Clone_c w19 A n c l (Sat.rdL (pre := [_, _]) hr hs) hn) rfl ?_)))))))
  rintro v21 w22 ⟨Ac, cc, rfl, hsC⟩
  replace hs := hs.T hsC
  replace hH := (hsC.below : Below w19.heap.size w19 w22)
  refine Ls_nil (Jm_AnC (fun _ => hH) (AnC_grow hH ?_))
  replace hH := Below.refl w22.heap.size w22
  obtain ⟨g, rfl⟩ := (hs.front 2 rfl).own_addr (by omega)
  refine Yr (fun _ => hH) 7 rfl (by kernel_rfl) (fun x => run_index un120 inf125 rfl rfl rfl (by omega) (by omega)) (AnC_only 8 (by kernel_rfl) rfl ?_)
  replace hs := hs.F2
  refine Ls_storeOwn hs inf125 rfl rfl rfl (by omega) (fun w23 hs => (Ls_nil (Jm_AnC_closed (by kernel_rfl) (AnC_switch (H' := fun x => Below w23.heap.size w23 x) 9 (by kernel_rfl) ?_))))
  replace hH := Below.refl w23.heap.size w23
  refine AnC_done (by kernel_rfl) (Zq (Zs ?_))
  replace hs := hs.F2.F1.F2
  simp only [Nat.zero_add, Nat.mul_one, Int.toNat_natCast, El.val_flat] at hs
  have hs5 := Sat.row_swap (pre := _ :: _ :: L) k l hs hl.symm (bytesV_flat l) hvs (by omega)
  replace hs := hs5
  simp only [List.cons_append] at hs
  refine Zm rfl (Zk rfl (Zf un122 inf3 rfl 5 rfl (Zl sc3 rfl (hs.blk_at 1 rfl 5 rfl) (Zr (run_add rfl rfl rfl) rfl (Zk rfl (Zf un122 inf3 rfl 5 rfl ?_))))))
  replace hs := hs.F1
  refine Ls_store hs inf3 rfl rfl rfl rfl (fun w24 hs => ?_)
  try simp only [List.set_cons_zero, List.set_cons_succ] at hs
  refine Zt (Za rfl (Zj (St_ret (Jm_ret1 rfl rfl ?_))))
  have e : dwrite s (k : Int) l = (0, { s with left := IntKind.i64.wrap (s.left - 1), bl := s.bl.set k l, writes := IntKind.i64.wrap (s.writes + 1) }) := by unfold dwrite; rw [if_neg (by omega), if_neg (by omega), if_neg (by simp_all)]; rfl
  rw [e]
  refine ⟨_, rfl, rfl, Sat.dshut (s := { s with left := IntKind.i64.wrap (s.left - 1), bl := s.bl.set k l, writes := IntKind.i64.wrap (s.writes + 1) }) (vs := vs.set k (Value.slice Ac n cc)) (A := some ⟨g, 0, none⟩) (c := co) (by simpa using hvs) ?_⟩
  simp only [dcells, List.length_set, El.val_flat] at hs ⊢
  exact hs
end Go.Proofs.Ytcifdianinbkeaa.Lg

/-
  The disk's New, copies, Image, and the laws' images, walked. By program (gen/disk3.py).
-/
set_option linter.unusedVariables false
set_option linter.unusedSimpArgs false
namespace Go.Proofs.Ytcifdianinbkeaa.Lg
open Go Go.RowKit
set_option maxRecDepth 100000 in
set_option maxHeartbeats 1000000 in
theorem New_c (w : World) (m : Nat) (h1 : 1 ≤ m) (h2 : m ≤ 64) :
    Calls Try.prog 49 [.int .i64 (m : Int)].toArray w (Ret (fun v' w' => ∃ b, v' = .tuple #[.pointer (some ⟨b, 0, none⟩), .int .i64 0] ∧ Sat w w' [DiskA 122 125 5 b (dnew m)])) := by
  have hs := Sat.start w
  refine Zb Try.func49 rfl rfl rfl (Zs (Za rfl (Za rfl (Zj (St_seq (Zs (Zm rfl (Zr (run_lss rfl rfl) rfl (Zm rfl (Ls_partP (t := 6) rfl (fun h1 => ?_) (fun h1 => ?_)))))))))))
  · exfalso; omega
  refine Zo rfl (Zm rfl (Zo rfl (Zr (run_gtr rfl rfl) rfl (Zr (run_pick_f rfl rfl) rfl (Zj (St_ifP rfl (fun h2 => ?_) (fun h2 => ?_)))))))
  · exfalso; omega
  refine St_skip (Zq (Zs (Zm rfl (Ls_make (m := m) hs un120 infq125 rfl rfl rfl (by omega) (by omega) rfl (fun b3 w4 hs => (Zr (run_buildO (pv := [(0, _)]) rfl (bld122_0 _ _ _)) rfl (Ls_box hs rfl rfl (fun b6 w5 hs => (Za rfl (Za rfl (Zj (St_ret (Jm_ret2 rfl rfl rfl ?_)))))))))))))
  replace hs := Sat.rows_nil 5 (El.int .u8) m hs
  refine ⟨_, rfl, _, rfl, Sat.dshut (s := dnew m) (L := []) (vs := List.replicate m nilV) (A := some ⟨b3, 0, none⟩) (c := m) (by simp [dnew]) ?_⟩
  have e : (dnew m).bl.length = m := by simp [dnew]
  unfold dcells
  rw [e, El.val_flat]
  exact hs
end Go.Proofs.Ytcifdianinbkeaa.Lg

/-
  The disk's laws: images, laid, awake. By program (gen/disk4.py).
-/
set_option linter.unusedVariables false
set_option linter.unusedSimpArgs false
namespace Go.Proofs.Ytcifdianinbkeaa.Lg
open Go Go.RowKit
/-- A disk's block, read. -/
theorem Sat.dhd {B w : World} {TD TS TB b : Nat} {s : DSt} {L : List Assn} (hs : Sat B w (DiskA TD TS TB b s :: L)) : ∃ (A : Option Addr) (c : Nat), w.heap[b]? = some (.cells (dcells s A c).toArray TD (0, 0)) := by
  obtain ⟨vs, A, c, _, h⟩ := hs.dopen
  exact ⟨A, c, (h.is_at 0 rfl).2⟩

def a1 : DSt := (dwrite (dnew 3) 1 [97, 98]).2
def a2 : DSt := (dread a1 1).2.2
def a3 : DSt := dcut a2 1
def a4 : DSt := (dwrite a3 0 [99]).2
def a5 : DSt := (dwrite a4 0 [100]).2
end Go.Proofs.Ytcifdianinbkeaa.Lg

/-
  The law DiskLast, walked. By program (gen/disk5.py).
-/
set_option linter.unusedVariables false
set_option linter.unusedSimpArgs false
namespace Go.Proofs.Ytcifdianinbkeaa.Lg
open Go Go.RowKit
theorem PartsK.set {w : World} {vs : List Value} {xss : List (List Int)} {A : Option Addr} {n c k : Nat} {l : List Int} (h : PartsK (El.int .u8) w vs xss) (hr : Rd w A n c 1 (bytesV l)) (hk : k < xss.length) : PartsK (El.int .u8) w (vs.set k (.slice A n c)) (xss.set k l) :=
  ⟨by simp [h.1], fun i hi => by
    have h1 := h.1
    simp only [List.length_set] at hi
    by_cases e : k = i
    · subst e
      have e1 : (vs.set k (Value.slice A n c)).getD k nilV = .slice A n c := by simp [List.getD_eq_getElem?_getD, show k < vs.length by omega]
      have e2 : (xss.set k l).getD k [] = l := by simp [List.getD_eq_getElem?_getD, hk]
      rw [e1, e2]; exact ⟨A, n, c, rfl, by rw [← bytesV_flat]; exact hr⟩
    · have e1 : (vs.set k (Value.slice A n c)).getD i nilV = vs.getD i nilV := by simp [List.getD_eq_getElem?_getD, List.getElem?_set_ne e]
      have e2 : (xss.set k l).getD i [] = xss.getD i [] := by simp [List.getD_eq_getElem?_getD, List.getElem?_set_ne e]
      rw [e1, e2]; exact h.2 i hi⟩
theorem set_mem {P : List Int → Prop} {bl : List (List Int)} {k : Nat} {l : List Int} (h : ∀ r ∈ bl, P r) (hl : P l) : ∀ r ∈ bl.set k l, P r := by
  intro r hr
  rcases List.mem_or_eq_of_mem_set hr with hr | rfl
  · exact h r hr
  · exact hl
end Go.Proofs.Ytcifdianinbkeaa.Lg

/-
  The law DiskCut, walked. By program (gen/disk6.py).
-/
set_option linter.unusedVariables false
set_option linter.unusedSimpArgs false
namespace Go.Proofs.Ytcifdianinbkeaa.Lg
open Go Go.RowKit
theorem dwrite_gone {s : DSt} {k : Nat} {l : List Int} (h1 : s.down = false) (hk : k < s.bl.length) (hl : l.length ≤ 1024) (h2 : s.armed = true) (h3 : s.left = 0) : dwrite s (k : Int) l = (80, doff s) := by
  have hc : dcheck s (k : Int) = 0 := by unfold dcheck; rw [if_neg (by simp [h1]), if_neg (by omega)]
  unfold dwrite
  rw [if_neg (by omega), if_neg (by omega), if_pos ⟨h2, h3⟩]
theorem dwrite_goes {s : DSt} {k : Nat} {l : List Int} (h1 : s.down = false) (hk : k < s.bl.length) (hl : l.length ≤ 1024) (h2 : ¬ (s.armed = true ∧ s.left = 0)) :
    dwrite s (k : Int) l = (0, { s with left := IntKind.i64.wrap (s.left - 1), bl := s.bl.set k l, writes := IntKind.i64.wrap (s.writes + 1) }) := by
  have hc : dcheck s (k : Int) = 0 := by unfold dcheck; rw [if_neg (by simp [h1]), if_neg (by omega)]
  unfold dwrite
  rw [if_neg (by omega), if_neg (by omega), if_neg h2]
  rfl
end Go.Proofs.Ytcifdianinbkeaa.Lg

/-
  The reference's disk, walked. By program (gen/disk7.py).
-/
set_option linter.unusedVariables false
set_option linter.unusedSimpArgs false
namespace Go.Proofs.Ytcifdianinbkeaa.Lg
open Go Go.RowKit
end Go.Proofs.Ytcifdianinbkeaa.Lg

/-
  The reference's New, walked. By program (gen/disk8.py).
-/
set_option linter.unusedVariables false
set_option linter.unusedSimpArgs false
namespace Go.Proofs.Ytcifdianinbkeaa.Lg
open Go Go.RowKit
end Go.Proofs.Ytcifdianinbkeaa.Lg

/-
  Both Loads, the reference's copies and Image, what a disk that is none answers. By program (gen/disk9.py).
-/
set_option linter.unusedVariables false
set_option linter.unusedSimpArgs false
namespace Go.Proofs.Ytcifdianinbkeaa.Lg
open Go Go.RowKit
end Go.Proofs.Ytcifdianinbkeaa.Lg

/-
  The law DiskLoads, walked. By program (gen/disk10.py).
-/
set_option linter.unusedVariables false
set_option linter.unusedSimpArgs false
namespace Go.Proofs.Ytcifdianinbkeaa.Lg
open Go Go.RowKit
theorem dwrite_bl (s : DSt) (i : Int) (b : List Int) : (dwrite s i b).2.bl = s.bl ∨ (dwrite s i b).2.bl = s.bl.set i.toNat b ∧ b.length ≤ 1024 := by
  unfold dwrite
  split
  · exact .inl rfl
  · split
    · exact .inl rfl
    · split
      · exact .inl rfl
      · exact .inr ⟨rfl, by omega⟩
theorem dwrite_keeps (s : DSt) (i : Int) (b : List Int) {P : List Int → Prop} (h : ∀ r ∈ s.bl, P r) (hb : b.length ≤ 1024 → P b) : (∀ r ∈ (dwrite s i b).2.bl, P r) ∧ (dwrite s i b).2.bl.length = s.bl.length := by
  rcases dwrite_bl s i b with e | ⟨e, hl⟩
  · rw [e]; exact ⟨h, rfl⟩
  · rw [e]; exact ⟨set_mem h (hb hl), by rw [List.length_set]⟩
end Go.Proofs.Ytcifdianinbkeaa.Lg
namespace Go.Proofs.Ytcifdianinbkeaa.WirePure

/-- A number's bytes, seven bits a byte, the lowest first. -/
def pb (n : Nat) : List Int := if h : n < 128 then [(n : Int)] else ((n % 128 + 128 : Nat) : Int) :: pb (n / 128)
termination_by n
decreasing_by omega

theorem pb_small {n : Nat} (h : n < 128) : pb n = [(n : Int)] := by rw [pb, dif_pos h]
theorem pb_big {n : Nat} (h : ¬ n < 128) : pb n = ((n % 128 + 128 : Nat) : Int) :: pb (n / 128) := by rw [pb, dif_neg h]

theorem pb_pos (n : Nat) : 1 ≤ (pb n).length := by
  by_cases h : n < 128
  · rw [pb_small h]; simp
  · rw [pb_big h]; simp

theorem pb_len_le : ∀ (d n : Nat), n < 128 ^ (d + 1) → (pb n).length ≤ d + 1 := by
  intro d
  induction d with
  | zero => intro n h; rw [pb_small (by omega)]; simp
  | succ d ih =>
    intro n h
    by_cases hs : n < 128
    · rw [pb_small hs]; simp
    · rw [pb_big hs]
      have := ih (n / 128) (by rw [Nat.pow_succ] at h; omega)
      simp only [List.length_cons]
      omega

theorem pb_len10 {n : Nat} (h : n < 18446744073709551616) : (pb n).length ≤ 10 :=
  pb_len_le 9 n (by have : (128 : Nat) ^ 10 = 1180591620717411303424 := by decide
                    omega)

theorem pb_byte : ∀ (n : Nat), ∀ x ∈ pb n, 0 ≤ x ∧ x ≤ 255 := by
  intro n
  induction n using Nat.strongRecOn with
  | ind n ih =>
    intro x hx
    by_cases h : n < 128
    · rw [pb_small h] at hx
      simp at hx
      omega
    · rw [pb_big h] at hx
      rcases List.mem_cons.1 hx with hx | hx
      · omega
      · exact ih (n / 128) (by omega) x hx

/-- What 'take' answers at a list: from place i on, acc read so far. -/
def tk (i : Nat) (acc : Int) : List Int → Int × Int × Int
  | [] => (0, 0, 3)
  | c :: r =>
    if i = 9 ∧ 1 < c then (0, 0, 4)
    else if 128 ≤ c then tk (i + 1) (acc + (c % 128) * (128 ^ i : Nat)) r
    else if c = 0 ∧ 0 < i then (0, 0, 4)
    else (acc + c * (128 ^ i : Nat), (i : Int) + 1, 0)

theorem tk_nil (i : Nat) (acc : Int) : tk i acc [] = (0, 0, 3) := rfl
theorem tk_cons (i : Nat) (acc c : Int) (r : List Int) : tk i acc (c :: r) =
    if i = 9 ∧ 1 < c then (0, 0, 4)
    else if 128 ≤ c then tk (i + 1) (acc + (c % 128) * (128 ^ i : Nat)) r
    else if c = 0 ∧ 0 < i then (0, 0, 4)
    else (acc + c * (128 ^ i : Nat), (i : Int) + 1, 0) := rfl

/-- The room that is left at place i: numbers below 2^64 in all. -/
def room : Nat → Nat
  | 0 => 18446744073709551616
  | i + 1 => room i / 128

theorem room9 : room 9 = 2 := by decide
theorem room_anti {i : Nat} (h : i < 9) : room i = 128 * room (i + 1) := by
  have : i = 0 ∨ i = 1 ∨ i = 2 ∨ i = 3 ∨ i = 4 ∨ i = 5 ∨ i = 6 ∨ i = 7 ∨ i = 8 := by omega
  rcases this with rfl | rfl | rfl | rfl | rfl | rfl | rfl | rfl | rfl <;> decide
theorem room_big : ∀ i, 9 < i → room i = 0 := by
  intro i h
  obtain ⟨k, rfl⟩ : ∃ k, i = k + 10 := ⟨i - 10, by omega⟩
  clear h
  induction k with
  | zero => decide
  | succ k ih => show room (k + 10) / 128 = 0; rw [ih]

theorem room_le9 {i n : Nat} (h : n < room i) (hn : 128 ≤ n) : i < 9 := by
  rcases Nat.lt_or_ge i 9 with h' | h'
  · exact h'
  · rcases Nat.lt_or_ge 9 i with h2 | h2
    · rw [room_big i h2] at h; omega
    · have : i = 9 := by omega
      subst this
      rw [room9] at h
      omega

theorem pow_succ128 (i : Nat) (a : Int) : a * ((128 ^ (i + 1) : Nat) : Int) = (a * 128) * ((128 ^ i : Nat) : Int) := by
  rw [Nat.pow_succ, Int.natCast_mul, Int.mul_assoc, Int.mul_comm ((128 ^ i : Nat) : Int)]
  simp

/-- What put lays down is read again, whatever stands behind it. -/
theorem tk_pb : ∀ (n i : Nat) (acc : Int) (rest : List Int), n < room i → (0 < i → 0 < n) → tk i acc (pb n ++ rest) = (acc + (n : Int) * ((128 ^ i : Nat) : Int), (i : Int) + ((pb n).length : Int), 0) := by
  intro n
  induction n using Nat.strongRecOn with
  | ind n ih =>
    intro i acc rest hr h0
    by_cases h : n < 128
    · rw [pb_small h]
      simp only [List.cons_append, List.nil_append, tk_cons]
      rw [if_neg, if_neg (by omega), if_neg]
      · simp
      · rintro ⟨h1, h2⟩; have := h0 h2; omega
      · rintro ⟨rfl, h1⟩; rw [room9] at hr; omega
    · have hi := room_le9 hr (by omega)
      rw [pb_big h]
      simp only [List.cons_append, tk_cons]
      rw [if_neg (by omega), if_pos (by omega), ih (n / 128) (by omega) (i + 1) _ rest (by have := room_anti hi; omega) (fun _ => by omega)]
      rw [pow_succ128]
      simp only [List.length_cons, Prod.mk.injEq]
      refine ⟨?_, by omega, trivial⟩
      rw [Int.add_assoc, ← Int.add_mul]
      congr 2
      omega

/-- What take takes is what put lays down. -/
theorem tk_form : ∀ (l : List Int) (i : Nat) (acc x a : Int), (∀ c ∈ l, 0 ≤ c ∧ c ≤ 255) → i ≤ 9 → tk i acc l = (x, a, 0) →
    ∃ (n : Nat) (rest : List Int), n < room i ∧ (0 < i → 0 < n) ∧ x = acc + (n : Int) * ((128 ^ i : Nat) : Int) ∧ l = pb n ++ rest ∧ a = (i : Int) + ((pb n).length : Int) := by
  intro l
  induction l with
  | nil => intro i acc x a _ _ h; simp [tk_nil] at h
  | cons c r ih =>
    intro i acc x a hb hi h
    have hc := hb c (by simp)
    rw [tk_cons] at h
    by_cases h1 : i = 9 ∧ 1 < c
    · rw [if_pos h1] at h; simp at h
    · rw [if_neg h1] at h
      by_cases h2 : 128 ≤ c
      · rw [if_pos h2] at h
        have hi' : i < 9 := by omega
        obtain ⟨m, rest, hm, hm0, hx, hl, ha⟩ := ih (i + 1) _ x a (fun y hy => hb y (by simp [hy])) (by omega) h
        have hm0 := hm0 (by omega)
        have hra := room_anti hi'
        obtain ⟨cn, rfl⟩ : ∃ cn : Nat, c = (cn : Int) := ⟨c.toNat, by omega⟩
        refine ⟨m * 128 + (cn - 128), rest, by omega, fun _ => by omega, ?_, ?_, ?_⟩
        · have e : ((m * 128 + (cn - 128) : Nat) : Int) = (cn : Int) % 128 + (m : Int) * 128 := by omega
          rw [hx, pow_succ128, Int.add_assoc, ← Int.add_mul, e]
        · rw [pb_big (by omega), hl]
          have e1 : (m * 128 + (cn - 128)) % 128 + 128 = cn := by omega
          have e2 : (m * 128 + (cn - 128)) / 128 = m := by omega
          rw [e1, e2]; rfl
        · rw [pb_big (by omega)]
          have e2 : (m * 128 + (cn - 128)) / 128 = m := by omega
          rw [e2, ha]
          simp only [List.length_cons]
          omega
      · rw [if_neg h2] at h
        by_cases h3 : c = 0 ∧ 0 < i
        · rw [if_pos h3] at h; simp at h
        · rw [if_neg h3] at h
          obtain ⟨cn, rfl⟩ : ∃ cn : Nat, c = (cn : Int) := ⟨c.toNat, by omega⟩
          simp only [Prod.mk.injEq, and_true] at h
          have hroom : 2 ≤ room i := by
            have : i = 0 ∨ i = 1 ∨ i = 2 ∨ i = 3 ∨ i = 4 ∨ i = 5 ∨ i = 6 ∨ i = 7 ∨ i = 8 ∨ i = 9 := by omega
            rcases this with rfl | rfl | rfl | rfl | rfl | rfl | rfl | rfl | rfl | rfl <;> decide
          have hroom' : i < 9 → 128 ≤ room i := by
            intro h9
            have : i = 0 ∨ i = 1 ∨ i = 2 ∨ i = 3 ∨ i = 4 ∨ i = 5 ∨ i = 6 ∨ i = 7 ∨ i = 8 := by omega
            rcases this with rfl | rfl | rfl | rfl | rfl | rfl | rfl | rfl | rfl <;> decide
          refine ⟨cn, r, ?_, ?_, h.1.symm, ?_, ?_⟩
          · by_cases h9 : i = 9
            · omega
            · have := hroom' (by omega); omega
          · intro hi0; omega
          · rw [pb_small (by omega)]; rfl
          · rw [pb_small (by omega)]; simp only [List.length_cons, List.length_nil]; omega

/-- What is read is a number below 2^64. -/
theorem tk_range {l : List Int} {x a : Int} (hb : ∀ c ∈ l, 0 ≤ c ∧ c ≤ 255) (h : tk 0 0 l = (x, a, 0)) : 0 ≤ x ∧ x < 18446744073709551616 ∧ 1 ≤ a ∧ a ≤ 10 ∧ a ≤ (l.length : Int) ∧ l.take a.toNat = pb x.toNat := by
  obtain ⟨n, rest, hn, _, hx, hl, ha⟩ := tk_form l 0 0 x a hb (by omega) h
  have hn' : n < 18446744073709551616 := hn
  have h10 := pb_len10 hn'
  have h1 := pb_pos n
  simp at hx ha
  subst hx ha hl
  refine ⟨by omega, by omega, by omega, by omega, by simp; omega, ?_⟩
  simp

/-- A list of numbers: how many, then each. -/
def nmB (list : List Int) : List Int := list.flatMap fun x => pb x.toNat
def nm (list : List Int) : List Int := pb list.length ++ nmB list
theorem nmB_take_succ (list : List Int) (i : Nat) (hi : i < list.length) : nmB (list.take (i + 1)) = nmB (list.take i) ++ pb (list.getD i 0).toNat := by
  unfold nmB
  rw [List.take_succ_eq_append_getElem hi, List.flatMap_append]
  simp [List.getD_eq_getElem?_getD, hi]
theorem nmB_len {list : List Int} (h : ∀ x ∈ list, x < 18446744073709551616) : (nmB list).length ≤ 10 * list.length := by
  induction list with
  | nil => simp [nmB]
  | cons x l ih =>
    have h1 := ih (fun y hy => h y (by simp [hy]))
    have hx := h x (by simp)
    have h2 : (pb x.toNat).length ≤ 10 := pb_len10 (by omega)
    have e : nmB (x :: l) = pb x.toNat ++ nmB l := by simp [nmB]
    rw [e, List.length_append, List.length_cons]
    omega
theorem pb_bytes (n : Nat) : ∀ x ∈ pb n, 0 ≤ x ∧ x ≤ 255 := pb_byte n
theorem nm_bytes (list : List Int) : ∀ x ∈ nm list, 0 ≤ x ∧ x ≤ 255 := by
  intro x hx
  rcases List.mem_append.1 hx with h | h
  · exact pb_byte _ x h
  · simp only [nmB, List.mem_flatMap] at h
    obtain ⟨y, _, h⟩ := h
    exact pb_byte _ x h
/-- The numbers up to the first that is below 0. -/
def anyNeg (list : List Int) : Prop := ∃ x ∈ list, x < 0
/-- The numbers that are taken one behind the other. -/
def tnl (l : List Int) : Nat → Nat → List Int → List Int × Int × Int
  | 0, at_, acc => (acc, (at_ : Int), 0)
  | k + 1, at_, acc =>
    if (tk 0 0 (l.drop at_)).2.2 ≠ 0 then ([], 0, (tk 0 0 (l.drop at_)).2.2)
    else if (tk 0 0 (l.drop at_)).1 > 4611686018427387904 then ([], 0, 4)
    else tnl l k (at_ + (tk 0 0 (l.drop at_)).2.1.toNat) (acc ++ [(tk 0 0 (l.drop at_)).1])
def tnum (l : List Int) (most : Int) : List Int × Int × Int :=
  if (tk 0 0 l).2.2 ≠ 0 then ([], 0, (tk 0 0 l).2.2)
  else if most < 0 ∨ (tk 0 0 l).1 > most then ([], 0, 6)
  else tnl l (tk 0 0 l).1.toNat (tk 0 0 l).2.1.toNat []
theorem tnl_succ (l : List Int) (k at_ : Nat) (acc : List Int) : tnl l (k + 1) at_ acc =
    if (tk 0 0 (l.drop at_)).2.2 ≠ 0 then ([], 0, (tk 0 0 (l.drop at_)).2.2)
    else if (tk 0 0 (l.drop at_)).1 > 4611686018427387904 then ([], 0, 4)
    else tnl l k (at_ + (tk 0 0 (l.drop at_)).2.1.toNat) (acc ++ [(tk 0 0 (l.drop at_)).1]) := rfl
end Go.Proofs.Ytcifdianinbkeaa.WirePure
set_option linter.unusedVariables false
set_option linter.unusedSimpArgs false
namespace Go.Proofs.Ytcifdianinbkeaa.Lg
open Go Go.RowKit Go.Proofs.Ytcifdianinbkeaa.WirePure

theorem or_128 : ∀ a : Nat, a < 256 → a ||| 128 = a % 128 + 128 := by decide +kernel
theorem put_byte (n : Nat) : Go.bits .or .u8 (IntKind.u8.wrap (n : Int)) 128 = ((n % 128 + 128 : Nat) : Int) := by
  have := u8_or_nat (n % 256) 128 (by omega) (by omega)
  rw [or_128 _ (by omega)] at this
  have e : ((n % 256 : Nat) : Int) = IntKind.u8.wrap (n : Int) := by rw [IntKind.wrap_u8]; omega
  rw [e] at this
  rw [show (128 : Int) = ((128 : Nat) : Int) from rfl, this]
  omega
theorem shr7 (n : Nat) : (n : Int) / 2 ^ min (7 : Int).toNat IntKind.u64.bits = ((n / 128 : Nat) : Int) := by
  have : min (7 : Int).toNat IntKind.u64.bits = 7 := by decide
  rw [this]; omega
set_option maxRecDepth 100000 in
set_option maxHeartbeats 1000000 in
theorem put_c (B w : World) (L : List Assn) (v0 : Value) (n0 : Nat) (xs : List Int) (x0 : Nat) (hs : Sat B w (Own 5 1 v0 n0 (bytesV xs) :: L)) (hx : x0 < 18446744073709551616) (hn : n0 + 10 ≤ 140737488355328) :
    Calls Try.prog 89 [v0, .int .u64 (x0 : Int)].toArray w (Ret (fun v' w' => ∃ A c, v' = .slice A (n0 + (pb x0).length) c ∧ Sat B w' (Own 5 1 v' (n0 + (pb x0).length) (bytesV (xs ++ pb x0)) :: L))) := by
  have h10 := pb_len10 hx
  refine Zb Try.func89 rfl rfl rfl (Zs (Za rfl (Zj (St_seq (St_block ?_)))))
  obtain ⟨En1, hEn1⟩ := ex4 fun (x : Nat) (v : Value) (m : Nat) (ys : List Int) => ([(0, v), (1, .int .u64 (x : Int))] : Env)
  obtain ⟨Iv2, hIv2⟩ := ew4 fun (x : Nat) (v : Value) (m : Nat) (ys : List Int) (wr : World) => Sat B wr (Own 5 1 v m (bytesV ys) :: L) ∧ x < 18446744073709551616 ∧ ys ++ pb x = xs ++ pb x0 ∧ m + (pb x).length = n0 + (pb x0).length
  obtain ⟨ms3, hms3⟩ := ex4 fun (x : Nat) (v : Value) (m : Nat) (ys : List Int) => (x : Nat)
  refine St_loop En1 Iv2 ms3 (x0, v0, n0, xs) ?_ ?_ ?_
  · rw [hIv2]
    exact ⟨hs, hx, rfl, rfl⟩
  · rw [hEn1]; exact sE ⟨rfl, rfl, trivial⟩
  rintro ⟨x, v, m, ys⟩ wr hI4
  rw [hIv2] at hI4
  obtain ⟨hs, hx, hp, hl⟩ := hI4
  refine St_eqE (hEn1 _ _ _ _) ?_
  have hpos := pb_pos x
  refine St_seq (Zs (Zm rfl (Zr (run_geq rfl rfl) rfl (Zj (St_ifP rfl (fun h5 => ?_) (fun h5 => ?_))))))
  · refine St_skip (Zq (St_seq (St_block (St_region (Zm rfl (Zm rfl (Zr (run_conv_int un5 us134 rfl rfl) rfl (Zr (run_bits (by simp) rfl rfl (put_byte x)) rfl (Ls_literal [_] hs un125 inf5 rfl rfl rfl rfl rfl rfl (fun b6 w7 hs => ?_))))))))))
    simp only [List.flatMap_cons, List.flatMap_nil, Value.cells, List.cons_append, List.nil_append] at hs
    replace hs := hs.F1
    refine Ls_append hs un125 inf5 rfl (by decide) (by decide) rfl rfl (rd_block (hs.is_at 1 rfl).2 1 1 rfl) (by simp [Value.oneCell']) (by omega) rfl (fun A8 c9 w10 hs => ?_)
    replace hs := hs.E1
    refine Za rfl (Ls_nil (Jm_block_normal (Zq (St_region (Zm rfl (Zr (run_shr rfl rfl (by omega) (shr7 x)) rfl (Za rfl (Ls_nil ?_))))))))
    rw [pb_big (n := x) (by omega)] at hp hl
    simp only [List.length_cons] at hl
    refine Jm_round (x / 128, Value.slice A8 (m + 1) c9, m + 1, ys ++ [((x % 128 + 128 : Nat) : Int)]) ?_ ?_ ?_
    · rw [hEn1]; exact sE ⟨rfl, rfl, trivial⟩
    · rw [hIv2]
      refine ⟨?_, by omega, ?_, by omega⟩
      · rw [bytesV_append]; exact hs
      · rw [← hp]; simp
    rw [hms3, hms3]
    omega
  refine St_exit (Jm_then_exit (Jm_then_exit (Jm_block_same (Zq (Zs (Zm rfl (Zm rfl (Zr (run_conv_int un5 us134 rfl rfl) rfl (Ls_literal [_] hs un125 inf5 rfl rfl rfl rfl rfl rfl (fun b11 w12 hs => ?_))))))))))
  simp only [List.flatMap_cons, List.flatMap_nil, Value.cells, List.cons_append, List.nil_append] at hs
  replace hs := hs.F1
  refine Ls_append hs un125 inf5 rfl (by decide) (by decide) rfl rfl (rd_block (hs.is_at 1 rfl).2 1 1 rfl) (by simp [Value.oneCell']) (by omega) rfl (fun A13 c14 w15 hs => ?_)
  replace hs := hs.E1
  refine Za rfl (Zj (St_ret (Jm_ret1 rfl rfl ?_)))
  rw [pb_small (n := x) (by omega)] at hp hl
  have e : IntKind.u8.wrap (x : Int) = (x : Int) := wu8 (by omega)
  rw [e] at hs
  have e2 : m + 1 = n0 + (pb x0).length := by simpa using hl
  rw [e2] at hs ⊢
  refine ⟨_, rfl, _, _, rfl, ?_⟩
  rw [← hp, bytesV_append]; exact hs
set_option maxRecDepth 100000 in
set_option maxHeartbeats 1000000 in
theorem Put_c (w : World) (x0 : Nat) (hx : x0 < 18446744073709551616) :
    Calls Try.prog 84 [.int .u64 (x0 : Int)].toArray w (Ret (fun v' w' => ∃ A c, v' = .slice A (pb x0).length c ∧ Sat w w' [Own 5 1 v' (pb x0).length (bytesV (pb x0))])) := by
  have hs := Sat.start w
  refine Zb Try.func84 rfl rfl rfl (Zs (Za rfl (Zt (Zm rfl ?_))))
  replace hs := hs.own_nil 5 1
  refine Zc fn89 rfl (put_c w _ [] (.slice none 0 0) 0 [] x0 hs hx (by omega)) rfl ?_
  rintro v1 w2 ⟨A, c, rfl, hs⟩
  refine Za rfl (Zj (St_ret (Jm_ret1 rfl rfl ?_)))
  simp only [Nat.zero_add, List.nil_append] at hs ⊢
  exact ⟨_, rfl, A, c, rfl, hs⟩

theorem and_127 : ∀ a : Nat, a < 256 → a &&& (255 - 128) = a % 128 := by decide +kernel
theorem and_128 : ∀ a : Nat, a < 256 → ((a &&& 128) = 0 ↔ a < 128) := by decide +kernel
theorem andb_128 (c : Nat) (h : c < 256) : (Go.bits .and .u8 (c : Int) 128 ≠ 0) ↔ 128 ≤ c := by
  have := u8_and_nat c 128 h (by omega)
  rw [show (128 : Int) = ((128 : Nat) : Int) from rfl, this]
  have := and_128 c h
  omega
theorem take_or (i : Nat) (hi : i ≤ 9) (acc c : Nat) (ha : acc < 128 ^ i) (hc : c < 256) (h9 : i = 9 → c ≤ 1) :
    Go.bits .or .u64 (acc : Int) (IntKind.u64.wrap (IntKind.u64.wrap (Go.bits .andNot .u8 (c : Int) 128) * 2 ^ min (7 * (i : Int)).toNat IntKind.u64.bits)) = ((acc + (c % 128) * 128 ^ i : Nat) : Int) := by
  have h1 : Go.bits .andNot .u8 (c : Int) 128 = ((c % 128 : Nat) : Int) := by
    have := u8_andNot_nat c 128 hc (by omega)
    rw [and_127 c hc] at this
    exact this
  have hp : (128 : Nat) ^ i = 2 ^ (7 * i) := by rw [Nat.pow_mul]
  have hb : (c % 128) * 128 ^ i < 18446744073709551616 ∧ 128 ^ i ≤ 9223372036854775808 := by
    have : i = 0 ∨ i = 1 ∨ i = 2 ∨ i = 3 ∨ i = 4 ∨ i = 5 ∨ i = 6 ∨ i = 7 ∨ i = 8 ∨ i = 9 := by omega
    rcases this with rfl | rfl | rfl | rfl | rfl | rfl | rfl | rfl | rfl | rfl <;> simp only [Nat.reducePow] <;> omega
  have hm : min (7 * (i : Int)).toNat IntKind.u64.bits = 7 * i := by
    have : IntKind.u64.bits = 64 := rfl
    omega
  rw [h1, wu64 (n := ((c % 128 : Nat) : Int)) (by omega), hm]
  have hs : ((c % 128 : Nat) : Int) * 2 ^ (7 * i) = ((c % 128 * 128 ^ i : Nat) : Int) := by rw [hp]; simp
  rw [hs, wu64 (by omega), u64_or_nat _ _ (by omega) hb.1, hp]
  rw [hp] at ha
  congr 1
  rw [Nat.or_comm, ← Nat.shiftLeft_eq, ← Nat.shiftLeft_add_eq_or_of_lt ha, Nat.add_comm]
theorem tk_step (l : List Int) (i : Nat) (acc : Int) (hi : i < l.length) : tk i acc (l.drop i) =
    if i = 9 ∧ 1 < l.getD i 0 then (0, 0, 4)
    else if 128 ≤ l.getD i 0 then tk (i + 1) (acc + (l.getD i 0 % 128) * (128 ^ i : Nat)) (l.drop (i + 1))
    else if l.getD i 0 = 0 ∧ 0 < i then (0, 0, 4)
    else (acc + l.getD i 0 * (128 ^ i : Nat), (i : Int) + 1, 0) := by
  rw [List.drop_eq_getElem_cons hi, tk_cons, List.getD_eq_getElem?_getD, List.getElem?_eq_getElem hi]
  rfl
/-- The answer of Take. -/
def tkV (l : List Int) : Value := .tuple #[.int .u64 (tk 0 0 l).1, .int .i64 (tk 0 0 l).2.1, .int .i64 (tk 0 0 l).2.2]
theorem tkV_eq {l : List Int} {x a e : Int} (h : tk 0 0 l = (x, a, e)) : tkV l = .tuple #[.int .u64 x, .int .i64 a, .int .i64 e] := by unfold tkV; rw [h]
set_option maxRecDepth 100000 in
set_option maxHeartbeats 1000000 in
theorem Take_c (w : World) (A : Option Addr) (n c : Nat) (l : List Int) (hr : Rd w A n c 1 (bytesV l)) (hb : IsBytes l) (hn : n ≤ 9223372036854775807) :
    Calls Try.prog 79 [.slice A n c].toArray w (Ret (fun v' w' => w = w' ∧ v' = tkV l)) := by
  have hl : l.length = n := by have := hr.len; rw [bytesV_length] at this; omega
  rw [bytesV_flat] at hr
  refine Zb Try.func79 rfl rfl rfl (Zs (Za rfl (Za rfl (Za rfl (Zt (Za rfl (Zj (St_seq (Zs (Zm rfl (Zr (run_len un125 rfl) rfl (Zm rfl (Zj (St_block ?_))))))))))))))
  obtain ⟨En1, hEn1⟩ := ex2 fun (i : Nat) (acc : Nat) => ([(8, .slice A n c), (9, .int .i64 (n : Int)), (10, .int .i64 (i : Int)), (5, .int .u64 (acc : Int))] : Env)
  obtain ⟨Iv2, hIv2⟩ := ew2 fun (i : Nat) (acc : Nat) (wr : World) => w = wr ∧ i ≤ n ∧ i ≤ 9 ∧ acc < 128 ^ i ∧ tk i (acc : Int) (l.drop i) = tk 0 0 l
  obtain ⟨ms3, hms3⟩ := ex2 fun (i : Nat) (acc : Nat) => (n - i : Nat)
  refine St_loop En1 Iv2 ms3 (0, 0) ?_ ?_ ?_
  · rw [hIv2]
    exact ⟨rfl, by omega, by omega, by decide, rfl⟩
  · rw [hEn1]; exact sE ⟨rfl, rfl, rfl, rfl, trivial⟩
  rintro ⟨i, acc⟩ wr hI4
  rw [hIv2] at hI4
  obtain ⟨rfl, hin, hi9, hacc, htk⟩ := hI4
  refine St_eqE (hEn1 _ _) (Zs (Zr (run_lss rfl rfl) rfl (Zj (St_seq (St_ifP rfl (fun h5 => ?_) (fun h5 => ?_))))))
  · refine St_skip (Zq (St_seq (St_block (Zs (Zm rfl ?_)))))
    have hbi := hb (l.getD i 0) (by rw [List.getD_eq_getElem?_getD, List.getElem?_eq_getElem (show i < l.length by omega)]; exact List.getElem_mem _)
    obtain ⟨cn, hcv⟩ : ∃ cn : Nat, l.getD i 0 = (cn : Int) := ⟨(l.getD i 0).toNat, by omega⟩
    rw [hcv] at hbi
    refine Ls_index (El.int .u8) hr un125 inf5 rfl rfl (by omega) (by omega) hcv rfl (fun b6 o7 hc8 => (Zl sc5 rfl (hc8 0 _ rfl) (Za rfl (Za rfl (Zj (St_seq (Zs (Zm rfl (Zr (run_eql rfl rfl) rfl (Zm rfl (Ls_partP (t := 17) rfl (fun h9 => ?_) (fun h9 => ?_))))))))))))
    · refine Zo rfl (Zm rfl (Zo rfl (Zr (run_gtr rfl rfl) rfl (Zr (run_pick_t rfl rfl) rfl (Zj (St_ifP rfl (fun h10 => ?_) (fun h10 => ?_)))))))
      · refine Zs (Za rfl (Za rfl (Za rfl (Zj (St_ret (Jm_then_ret (Jm_block_ret (Jm_then_ret (Jm_then_ret (Jm_block_ret (Jm_then_ret (Jm_ret3 rfl rfl rfl rfl ?_))))))))))))
        first
        | (rw [List.drop_eq_nil_of_le (by omega)] at htk; exact ⟨_, rfl, rfl, (tkV_eq htk.symm).symm⟩)
        | (rw [tk_step l i acc (by omega), hcv, if_pos (by omega)] at htk; exact ⟨_, rfl, rfl, (tkV_eq htk.symm).symm⟩)
        | (rw [tk_step l i acc (by omega), hcv, if_neg (by omega), if_neg (by omega), if_pos (by omega)] at htk; exact ⟨_, rfl, rfl, (tkV_eq htk.symm).symm⟩)
        | (rw [tk_step l i acc (by omega), hcv, if_neg (by omega), if_neg (by omega), if_neg (by omega)] at htk; have e : cn % 128 = cn := by omega
           rw [e]; refine ⟨_, rfl, rfl, ?_⟩; rw [tkV_eq htk.symm]; simp)
      refine St_skip (Zq (Zs (Zm rfl (Zm rfl (Zr (run_bits (by simp) rfl rfl rfl) rfl (Zr (run_conv_int un134 us5 rfl rfl) rfl (Zm rfl (Zr (run_mul rfl rfl (w64 (by omega))) rfl (Zr (run_shl rfl rfl (by omega) rfl) rfl (Zr (run_bits (by simp) rfl rfl (take_or i hi9 acc cn hacc (by omega) (by omega))) rfl (Za rfl (Zj (St_seq (Zs (Zm rfl (Zr (run_bits (by simp) rfl rfl rfl) rfl (Zr (run_neq rfl rfl) rfl (Zj (St_ifP rfl (fun h11 => ?_) (fun h11 => ?_))))))))))))))))))))
      · have h11 := (andb_128 cn (by omega)).1 h11
        refine St_exit (Jm_then_exit (Jm_block_same (Zq (St_region (Zr (run_add rfl rfl (w64 (by omega))) rfl (Zm rfl (Ls_nil ?_)))))))
        have hi9 : i < 9 := by omega
        rw [tk_step l i acc (by omega), hcv, if_neg (by omega), if_pos (by omega)] at htk
        refine Jm_round (i + 1, acc + (cn % 128) * 128 ^ i) ?_ ?_ ?_
        · rw [hEn1]; exact sE ⟨rfl, rfl, rfl, rfl, trivial⟩
        · rw [hIv2]
          refine ⟨rfl, by omega, by omega, ?_, ?_⟩
          · rw [Nat.pow_succ]; have hm : cn % 128 ≤ 127 := by omega
            have := Nat.mul_le_mul_right (128 ^ i) hm; omega
          · rw [← htk]; simp
        rw [hms3, hms3]
        omega
      have h11 : ¬ 128 ≤ cn := fun q => h11 ((andb_128 cn (by omega)).2 q)
      refine St_skip (Zq (St_seq (Zs (Zm rfl (Zr (run_eql rfl rfl) rfl (Zm rfl (Ls_partP (t := 34) rfl (fun h12 => ?_) (fun h12 => ?_))))))))
      · refine Zo rfl (Zm rfl (Zo rfl (Zr (run_gtr rfl rfl) rfl (Zr (run_pick_t rfl rfl) rfl (Zj (St_ifP rfl (fun h13 => ?_) (fun h13 => ?_)))))))
        · refine Zs (Za rfl (Za rfl (Za rfl (Zj (St_ret (Jm_then_ret (Jm_block_ret (Jm_then_ret (Jm_then_ret (Jm_block_ret (Jm_then_ret (Jm_ret3 rfl rfl rfl rfl ?_))))))))))))
          first
          | (rw [List.drop_eq_nil_of_le (by omega)] at htk; exact ⟨_, rfl, rfl, (tkV_eq htk.symm).symm⟩)
          | (rw [tk_step l i acc (by omega), hcv, if_pos (by omega)] at htk; exact ⟨_, rfl, rfl, (tkV_eq htk.symm).symm⟩)
          | (rw [tk_step l i acc (by omega), hcv, if_neg (by omega), if_neg (by omega), if_pos (by omega)] at htk; exact ⟨_, rfl, rfl, (tkV_eq htk.symm).symm⟩)
          | (rw [tk_step l i acc (by omega), hcv, if_neg (by omega), if_neg (by omega), if_neg (by omega)] at htk; have e : cn % 128 = cn := by omega
             rw [e]; refine ⟨_, rfl, rfl, ?_⟩; rw [tkV_eq htk.symm]; simp)
        refine St_skip (Zq (Zs (Zm rfl (Zm rfl (Zr (run_add rfl rfl (w64 (by omega))) rfl (Za rfl (Za rfl (Za rfl (Zj (St_ret (Jm_block_ret (Jm_then_ret (Jm_then_ret (Jm_block_ret (Jm_then_ret (Jm_ret3 rfl rfl rfl rfl ?_))))))))))))))))
        first
        | (rw [List.drop_eq_nil_of_le (by omega)] at htk; exact ⟨_, rfl, rfl, (tkV_eq htk.symm).symm⟩)
        | (rw [tk_step l i acc (by omega), hcv, if_pos (by omega)] at htk; exact ⟨_, rfl, rfl, (tkV_eq htk.symm).symm⟩)
        | (rw [tk_step l i acc (by omega), hcv, if_neg (by omega), if_neg (by omega), if_pos (by omega)] at htk; exact ⟨_, rfl, rfl, (tkV_eq htk.symm).symm⟩)
        | (rw [tk_step l i acc (by omega), hcv, if_neg (by omega), if_neg (by omega), if_neg (by omega)] at htk; have e : cn % 128 = cn := by omega
           rw [e]; refine ⟨_, rfl, rfl, ?_⟩; rw [tkV_eq htk.symm]; simp)
      refine Zx rfl (Zx rfl (Zr (run_pick_f rfl rfl) rfl (Zj (St_iff rfl (St_skip (Zq (Zs (Zm rfl (Zm rfl (Zr (run_add rfl rfl (w64 (by omega))) rfl (Za rfl (Za rfl (Za rfl (Zj (St_ret (Jm_block_ret (Jm_then_ret (Jm_then_ret (Jm_block_ret (Jm_then_ret (Jm_ret3 rfl rfl rfl rfl ?_)))))))))))))))))))))
      first
      | (rw [List.drop_eq_nil_of_le (by omega)] at htk; exact ⟨_, rfl, rfl, (tkV_eq htk.symm).symm⟩)
      | (rw [tk_step l i acc (by omega), hcv, if_pos (by omega)] at htk; exact ⟨_, rfl, rfl, (tkV_eq htk.symm).symm⟩)
      | (rw [tk_step l i acc (by omega), hcv, if_neg (by omega), if_neg (by omega), if_pos (by omega)] at htk; exact ⟨_, rfl, rfl, (tkV_eq htk.symm).symm⟩)
      | (rw [tk_step l i acc (by omega), hcv, if_neg (by omega), if_neg (by omega), if_neg (by omega)] at htk; have e : cn % 128 = cn := by omega
         rw [e]; refine ⟨_, rfl, rfl, ?_⟩; rw [tkV_eq htk.symm]; simp)
    refine Zx rfl (Zx rfl (Zr (run_pick_f rfl rfl) rfl (Zj (St_iff rfl (St_skip (Zq (Zs (Zm rfl (Zm rfl (Zr (run_bits (by simp) rfl rfl rfl) rfl (Zr (run_conv_int un134 us5 rfl rfl) rfl (Zm rfl (Zr (run_mul rfl rfl (w64 (by omega))) rfl (Zr (run_shl rfl rfl (by omega) rfl) rfl (Zr (run_bits (by simp) rfl rfl (take_or i hi9 acc cn hacc (by omega) (by omega))) rfl (Za rfl (Zj (St_seq (Zs (Zm rfl (Zr (run_bits (by simp) rfl rfl rfl) rfl (Zr (run_neq rfl rfl) rfl (Zj (St_ifP rfl (fun h16 => ?_) (fun h16 => ?_)))))))))))))))))))))))))
    · have h16 := (andb_128 cn (by omega)).1 h16
      refine St_exit (Jm_then_exit (Jm_block_same (Zq (St_region (Zr (run_add rfl rfl (w64 (by omega))) rfl (Zm rfl (Ls_nil ?_)))))))
      have hi9 : i < 9 := by omega
      rw [tk_step l i acc (by omega), hcv, if_neg (by omega), if_pos (by omega)] at htk
      refine Jm_round (i + 1, acc + (cn % 128) * 128 ^ i) ?_ ?_ ?_
      · rw [hEn1]; exact sE ⟨rfl, rfl, rfl, rfl, trivial⟩
      · rw [hIv2]
        refine ⟨rfl, by omega, by omega, ?_, ?_⟩
        · rw [Nat.pow_succ]; have hm : cn % 128 ≤ 127 := by omega
          have := Nat.mul_le_mul_right (128 ^ i) hm; omega
        · rw [← htk]; simp
      rw [hms3, hms3]
      omega
    have h16 : ¬ 128 ≤ cn := fun q => h16 ((andb_128 cn (by omega)).2 q)
    refine St_skip (Zq (St_seq (Zs (Zm rfl (Zr (run_eql rfl rfl) rfl (Zm rfl (Ls_partP (t := 34) rfl (fun h17 => ?_) (fun h17 => ?_))))))))
    · refine Zo rfl (Zm rfl (Zo rfl (Zr (run_gtr rfl rfl) rfl (Zr (run_pick_t rfl rfl) rfl (Zj (St_ifP rfl (fun h18 => ?_) (fun h18 => ?_)))))))
      · refine Zs (Za rfl (Za rfl (Za rfl (Zj (St_ret (Jm_then_ret (Jm_block_ret (Jm_then_ret (Jm_then_ret (Jm_block_ret (Jm_then_ret (Jm_ret3 rfl rfl rfl rfl ?_))))))))))))
        first
        | (rw [List.drop_eq_nil_of_le (by omega)] at htk; exact ⟨_, rfl, rfl, (tkV_eq htk.symm).symm⟩)
        | (rw [tk_step l i acc (by omega), hcv, if_pos (by omega)] at htk; exact ⟨_, rfl, rfl, (tkV_eq htk.symm).symm⟩)
        | (rw [tk_step l i acc (by omega), hcv, if_neg (by omega), if_neg (by omega), if_pos (by omega)] at htk; exact ⟨_, rfl, rfl, (tkV_eq htk.symm).symm⟩)
        | (rw [tk_step l i acc (by omega), hcv, if_neg (by omega), if_neg (by omega), if_neg (by omega)] at htk; have e : cn % 128 = cn := by omega
           rw [e]; refine ⟨_, rfl, rfl, ?_⟩; rw [tkV_eq htk.symm]; simp)
      refine St_skip (Zq (Zs (Zm rfl (Zm rfl (Zr (run_add rfl rfl (w64 (by omega))) rfl (Za rfl (Za rfl (Za rfl (Zj (St_ret (Jm_block_ret (Jm_then_ret (Jm_then_ret (Jm_block_ret (Jm_then_ret (Jm_ret3 rfl rfl rfl rfl ?_))))))))))))))))
      first
      | (rw [List.drop_eq_nil_of_le (by omega)] at htk; exact ⟨_, rfl, rfl, (tkV_eq htk.symm).symm⟩)
      | (rw [tk_step l i acc (by omega), hcv, if_pos (by omega)] at htk; exact ⟨_, rfl, rfl, (tkV_eq htk.symm).symm⟩)
      | (rw [tk_step l i acc (by omega), hcv, if_neg (by omega), if_neg (by omega), if_pos (by omega)] at htk; exact ⟨_, rfl, rfl, (tkV_eq htk.symm).symm⟩)
      | (rw [tk_step l i acc (by omega), hcv, if_neg (by omega), if_neg (by omega), if_neg (by omega)] at htk; have e : cn % 128 = cn := by omega
         rw [e]; refine ⟨_, rfl, rfl, ?_⟩; rw [tkV_eq htk.symm]; simp)
    refine Zx rfl (Zx rfl (Zr (run_pick_f rfl rfl) rfl (Zj (St_iff rfl (St_skip (Zq (Zs (Zm rfl (Zm rfl (Zr (run_add rfl rfl (w64 (by omega))) rfl (Za rfl (Za rfl (Za rfl (Zj (St_ret (Jm_block_ret (Jm_then_ret (Jm_then_ret (Jm_block_ret (Jm_then_ret (Jm_ret3 rfl rfl rfl rfl ?_)))))))))))))))))))))
    first
    | (rw [List.drop_eq_nil_of_le (by omega)] at htk; exact ⟨_, rfl, rfl, (tkV_eq htk.symm).symm⟩)
    | (rw [tk_step l i acc (by omega), hcv, if_pos (by omega)] at htk; exact ⟨_, rfl, rfl, (tkV_eq htk.symm).symm⟩)
    | (rw [tk_step l i acc (by omega), hcv, if_neg (by omega), if_neg (by omega), if_pos (by omega)] at htk; exact ⟨_, rfl, rfl, (tkV_eq htk.symm).symm⟩)
    | (rw [tk_step l i acc (by omega), hcv, if_neg (by omega), if_neg (by omega), if_neg (by omega)] at htk; have e : cn % 128 = cn := by omega
       rw [e]; refine ⟨_, rfl, rfl, ?_⟩; rw [tkV_eq htk.symm]; simp)
  refine St_exit (Jm_then_exit (Jm_then_exit (Jm_block_same (Zq (Zs (Za rfl (Za rfl (Za rfl (Zj (St_ret (Jm_ret3 rfl rfl rfl rfl ?_)))))))))))
  first
  | (rw [List.drop_eq_nil_of_le (by omega)] at htk; exact ⟨_, rfl, rfl, (tkV_eq htk.symm).symm⟩)
  | (rw [tk_step l i acc (by omega), hcv, if_pos (by omega)] at htk; exact ⟨_, rfl, rfl, (tkV_eq htk.symm).symm⟩)
  | (rw [tk_step l i acc (by omega), hcv, if_neg (by omega), if_neg (by omega), if_pos (by omega)] at htk; exact ⟨_, rfl, rfl, (tkV_eq htk.symm).symm⟩)
  | (rw [tk_step l i acc (by omega), hcv, if_neg (by omega), if_neg (by omega), if_neg (by omega)] at htk; have e : cn % 128 = cn := by omega
     rw [e]; refine ⟨_, rfl, rfl, ?_⟩; rw [tkV_eq htk.symm]; simp)
set_option maxRecDepth 100000 in
set_option maxHeartbeats 1000000 in
theorem Nums_c (w : World) (A : Option Addr) (n c : Nat) (l : List Int) (hr : Rd w A n c 1 ((El.int .i64).flat l)) (hn : n * 10 + 20 ≤ 140737488355328) (hw : ∀ x ∈ l, x ≤ 9223372036854775807) :
    Calls Try.prog 82 [.slice A n c].toArray w (Ret (fun v' w' => (anyNeg l ∧ v' = .tuple #[.slice none 0 0, .int .i64 1] ∧ Sat w w' []) ∨ (¬ anyNeg l ∧ ∃ A' c', v' = .tuple #[.slice A' (nm l).length c', .int .i64 0] ∧ Sat w w' [Own 5 1 (.slice A' (nm l).length c') (nm l).length (bytesV (nm l))]))) := by
  have hl : l.length = n := by have := hr.len; rw [El.flat_length] at this; simpa [El.int] using this
  have h10 := pb_len10 (n := n) (by omega)
  have hs := Sat.start w
  refine Zb Try.func82 rfl rfl rfl (Zs (Za rfl (Za rfl (Zt (Zm rfl (Zr (run_len un25 rfl) rfl (Zr (run_conv_int un134 us3 rfl (wu64 (by omega))) rfl ?_)))))))
  replace hs := hs.own_nil 5 1
  refine Zc fn89 rfl (put_c w _ [] (.slice none 0 0) 0 [] n hs (by omega) (by omega)) rfl ?_
  rintro v1 w2 ⟨A1, c1, rfl, hs⟩
  simp only [Nat.zero_add, List.nil_append] at hs ⊢
  refine Za rfl (Zj (St_seq (Zs (Zm rfl (Zr (run_len un25 rfl) rfl (Zm rfl (Zj (St_block ?_))))))))
  obtain ⟨En3, hEn3⟩ := ex4 fun (i : Nat) (v : Value) (m : Nat) (ys : List Int) => ([(11, .slice A n c), (12, .int .i64 (n : Int)), (13, .int .i64 (i : Int)), (4, v)] : Env)
  obtain ⟨Iv4, hIv4⟩ := ew4 fun (i : Nat) (v : Value) (m : Nat) (ys : List Int) (wr : World) => Sat w wr [Own 5 1 v m (bytesV ys)] ∧ i ≤ n ∧ ys = pb n ++ nmB (l.take i) ∧ m = ys.length ∧ m ≤ 10 + 10 * i ∧ (∀ x ∈ l.take i, 0 ≤ x)
  obtain ⟨ms5, hms5⟩ := ex4 fun (i : Nat) (v : Value) (m : Nat) (ys : List Int) => (n - i : Nat)
  refine St_loop En3 Iv4 ms5 (0, Value.slice A1 (pb n).length c1, (pb n).length, pb n) ?_ ?_ ?_
  · rw [hIv4]
    exact ⟨hs, by omega, by simp [nmB], rfl, by omega, by simp⟩
  · rw [hEn3]; exact sE ⟨rfl, rfl, rfl, rfl, trivial⟩
  rintro ⟨i, v, m, ys⟩ wr hI6
  rw [hIv4] at hI6
  obtain ⟨hs, hin, hys, hm, hm2, hpos⟩ := hI6
  refine St_eqE (hEn3 _ _ _ _) (Zs (Zr (run_lss rfl rfl) rfl (Zj (St_seq (St_ifP rfl (fun h7 => ?_) (fun h7 => ?_))))))
  · refine St_skip (Zq (St_seq (St_block (Zs ?_))))
    have hmem : l.getD i 0 ∈ l := by rw [List.getD_eq_getElem?_getD, List.getElem?_eq_getElem (show i < l.length by omega)]; exact List.getElem_mem _
    have hx2 : l.getD i 0 < 9223372036854775808 := by have := hw (l.getD i 0) hmem; omega
    refine Ls_index (El.int .i64) (hr.inB hs) un25 inf3 rfl rfl (by omega) (by omega) (show _ = l.getD i 0 from rfl) rfl (fun b8 o9 hc10 => (Zl sc3 rfl (hc10 0 _ rfl) (Za rfl (Zj (St_seq (Zs (Zm rfl (Zr (run_lss rfl rfl) rfl (Zj (St_ifP rfl (fun h11 => ?_) (fun h11 => ?_)))))))))))
    · refine Zs (Za rfl (Za rfl (Zj (St_ret (Jm_then_ret (Jm_block_ret (Jm_then_ret (Jm_then_ret (Jm_block_ret (Jm_then_ret (Jm_ret2 rfl rfl rfl ?_)))))))))))
      exact ⟨_, rfl, .inl ⟨⟨_, hmem, by omega⟩, rfl, hs.tail⟩⟩
    refine St_skip (Zq (St_region (Zm rfl (Zm rfl (Zr (run_conv_int un134 us3 rfl (wu64 (by omega))) rfl ?_)))))
    obtain ⟨q, hq⟩ : ∃ q : Nat, l.getD i 0 = (q : Int) := ⟨(l.getD i 0).toNat, by omega⟩
    rw [hq]
    have h2 := pb_len10 (n := q) (by omega)
    refine Zc fn89 rfl (put_c w _ [] _ m ys q hs (by omega) (by omega)) rfl ?_
    rintro v12 w13 ⟨A2, c2, rfl, hs⟩
    refine Za rfl (Ls_nil (Jm_block_normal (Zq (St_region (Zr (run_add rfl rfl (w64 (by omega))) rfl (Zm rfl (Ls_nil ?_)))))))
    have e3 := nmB_take_succ l i (by omega)
    refine Jm_round (i + 1, Value.slice A2 (m + (pb q).length) c2, m + (pb q).length, ys ++ pb q) ?_ ?_ ?_
    · rw [hEn3]; exact sE ⟨rfl, rfl, rfl, rfl, trivial⟩
    · rw [hIv4]
      refine ⟨hs, by omega, ?_, by simp [hm], by omega, ?_⟩
      · rw [e3, hys, hq]; simp
      · rw [List.take_succ_eq_append_getElem (by omega)]; intro x hx; rcases List.mem_append.1 hx with hx | hx
        · exact hpos x hx
        · simp at hx; subst hx; have e4 : l[i] = l.getD i 0 := by rw [List.getD_eq_getElem?_getD, List.getElem?_eq_getElem (show i < l.length by omega)]; rfl
          rw [e4]; omega
    rw [hms5, hms5]
    omega
  refine St_exit (Jm_then_exit (Jm_then_exit (Jm_block_same (Zq (Zs (Zm rfl (Za rfl (Za rfl (Zj (St_ret (Jm_ret2 rfl rfl rfl ?_)))))))))))
  have hi : i = n := by omega
  have e5 : l.take i = l := List.take_of_length_le (by omega)
  rw [e5] at hys hpos
  obtain ⟨A4, c4, rfl, _, _, _⟩ := hs.own_form
  have e6 : ys = nm l := by rw [hys]; unfold nm; rw [hl]
  rw [e6] at hs hm
  rw [hm] at hs ⊢
  exact ⟨_, rfl, .inr ⟨fun ⟨x, hx, hx0⟩ => by have := hpos x hx; omega, _, _, rfl, hs⟩⟩

end Go.Proofs.Ytcifdianinbkeaa.Lg

/-
  More of the wire's functions and of its reference, walked. By program (gen/wire3.py).
-/
set_option linter.unusedVariables false
set_option linter.unusedSimpArgs false
namespace Go.Proofs.Ytcifdianinbkeaa.Lg
open Go Go.RowKit Go.Proofs.Ytcifdianinbkeaa.WirePure

set_option maxRecDepth 100000 in
set_option maxHeartbeats 1000000 in
theorem Grow_c (w : World) (m : Nat) (hm : m ≤ 140737488355328) :
    Calls Try.prog 92 [.slice none 0 0, .int .i64 (m : Int)].toArray w (Ret (fun v' w' => ∃ A c, v' = .slice A 0 c ∧ Sat w w' [Own 5 1 v' 0 []])) := by
  have hs := Sat.start w
  refine Zb Try.func92 rfl rfl rfl (Zs (Za rfl (Zj (St_seq (Zs (Zm rfl (Zr (run_lss rfl rfl) rfl (Zj (St_ifP rfl (fun h1 => ?_) (fun h1 => ?_))))))))))
  · exfalso; omega
  refine St_skip (Zq (St_seq (Zs (Zm rfl (Zm rfl (Zr (run_cap un125 rfl) rfl (Zm rfl (Zr (run_len un125 rfl) rfl (Zr (run_sub rfl rfl (w64 (by omega))) rfl (Zr (run_sub rfl rfl (show _ = (m : Int) by rw [w64 (by omega)]; omega)) rfl (Za rfl (Zt (Zm rfl (Zr (run_gtr rfl rfl) rfl (Zj (St_ifP rfl (fun h2 => ?_) (fun h2 => ?_)))))))))))))))))
  · refine St_region (Zm rfl (Zm rfl (Zr (run_cap un125 rfl) rfl (Zr (run_slice_h un125 inf5 rfl rfl (by omega) (by omega)) rfl (Zm rfl (Ls_appendZeros hs un125 un3 inf5 rfl rfl rfl (by omega) (by omega) (by omega) rfl (fun bz cz wz hcz hs => (Zm rfl (Zr (run_len un125 rfl) rfl (Zr (run_slice_h un125 inf5 rfl rfl (by omega) (by omega)) rfl (Za rfl (Zt (Zm rfl (Za rfl (Zj (St_ret (Jm_ret1 rfl rfl ?_)))))))))))))))))
    exact ⟨_, rfl, _, _, rfl, hs.own_shrink 0 (by omega)⟩
  refine St_skip (Zq (Zs (Zm rfl (Za rfl (Zj (St_ret (Jm_ret1 rfl rfl ?_)))))))
  exact ⟨_, rfl, _, _, rfl, hs.own_nil _ _⟩
set_option maxRecDepth 100000 in
set_option maxHeartbeats 1000000 in
theorem Concat_c (w : World) (A : Option Addr) (n c : Nat) (vs : List Value) (ls : List (List Int)) (hr : Rd w A n c 1 (El.val.flat vs)) (hp : Parts w vs ls) (hn : (ls.map List.length).sum ≤ 140737488355328) (hn2 : n ≤ 140737488355328) :
    Calls Try.prog 90 [.slice A n c].toArray w (Ret (fun v' w' => ∃ A' c', v' = .slice A' ls.flatten.length c' ∧ Sat w w' [Own 5 1 v' ls.flatten.length (bytesV ls.flatten)])) := by
  have hs := Sat.start w
  have hvl : vs.length = n := by have := hr.len; rw [El.flat_length] at this; simpa [El.val] using this
  have hll : ls.length = n := by have := hp.1; omega
  refine Zb Try.func90 rfl rfl rfl (Zs (Za rfl (Zt (Za rfl (Zj (St_seq (Zs (Zm rfl (Zr (run_len un120 rfl) rfl (Zm rfl (Zj (St_block ?_))))))))))))
  obtain ⟨En1, hEn1⟩ := ex2 fun (i : Nat) (sz : Nat) => ([(0, .slice A n c), (9, .slice A n c), (10, .int .i64 (n : Int)), (11, .int .i64 (i : Int)), (3, .int .i64 (sz : Int))] : Env)
  obtain ⟨Iv2, hIv2⟩ := ew2 fun (i : Nat) (sz : Nat) (wr : World) => Sat w wr [] ∧ i ≤ n ∧ sz = upto ls i
  obtain ⟨ms3, hms3⟩ := ex2 fun (i : Nat) (sz : Nat) => (n - i : Nat)
  refine St_loop En1 Iv2 ms3 (0, 0) ?_ ?_ ?_
  · rw [hIv2]
    exact ⟨hs, by omega, by simp [upto]⟩
  · rw [hEn1]; exact sE ⟨rfl, rfl, rfl, rfl, rfl, trivial⟩
  rintro ⟨i, sz⟩ wr hI4
  rw [hIv2] at hI4
  obtain ⟨hs, hi, hsz⟩ := hI4
  refine St_eqE (hEn1 _ _) ?_
  have hle0 := upto_le ls i
  refine Zs (Zr (run_lss rfl rfl) rfl (Zj (St_seq (St_ifP rfl (fun h5 => ?_) (fun h5 => ?_)))))
  · refine St_skip (Zq (St_seq (St_block (Zs ?_))))
    obtain ⟨Ai, ni, ci, hvi, hri⟩ := hp.2 i (by have := hp.1; omega)
    have hli := rdB_len hri
    have hus := upto_succ ls i (by omega)
    have hle := upto_le ls (i + 1)
    refine Ls_index (El.val) (hr.inB hs) un120 inf125 rfl rfl (by omega) (by omega) hvi rfl (fun b6 o7 hc8 => (Zl sc125 rfl (hc8 0 _ rfl) (Za rfl (Zt (Zm rfl (Zm rfl (Zr (run_len un125 rfl) rfl (Zr (run_add rfl rfl (w64 (by omega))) rfl (Za rfl (Zt (Zm rfl (Zr (run_lss rfl rfl) rfl (Zj (St_ifP rfl (fun h9 => ?_) (fun h9 => ?_)))))))))))))))
    · exfalso; omega
    refine St_skip (Jm_block_normal (Zq (St_region (Zr (run_add rfl rfl (w64 (by omega))) rfl (Zm rfl (Ls_nil (Jm_round (i + 1, sz + ni) ?_ ?_ ?_)))))))
    · rw [hEn1]; exact sE ⟨rfl, rfl, rfl, rfl, rfl, trivial⟩
    · rw [hIv2]
      exact ⟨hs, by omega, by omega⟩
    rw [hms3, hms3]
    omega
  refine St_exit (Jm_then_exit (Jm_then_exit (Jm_block_same (Zq (Zs (Zm rfl ?_))))))
  have hi : i = n := by omega
  have hle2 := upto_le ls i
  refine Zc fn92 rfl (Grow_c wr sz (by omega)) rfl ?_
  rintro v10 w11 ⟨AG, cG, rfl, hsG⟩
  replace hs := hs.trans hsG
  refine Za rfl (Zj (St_seq (Zs (Zm rfl (Zr (run_len un120 rfl) rfl (Zm rfl (Zj (St_block ?_))))))))
  obtain ⟨En12, hEn12⟩ := ex3 fun (i : Nat) (v : Value) (m : Nat) => ([(25, .slice A n c), (26, .int .i64 (n : Int)), (27, .int .i64 (i : Int)), (6, v)] : Env)
  obtain ⟨Iv13, hIv13⟩ := ew3 fun (i : Nat) (v : Value) (m : Nat) (wr2 : World) => Sat w wr2 [Own 5 1 v m (bytesV (ls.take i).flatten)] ∧ i ≤ n ∧ m = upto ls i
  obtain ⟨ms14, hms14⟩ := ex3 fun (i : Nat) (v : Value) (m : Nat) => (n - i : Nat)
  refine St_loop En12 Iv13 ms14 (0, Value.slice AG 0 cG, 0) ?_ ?_ ?_
  · rw [hIv13]
    exact ⟨by simpa [bytesV] using hs, by omega, by simp [upto]⟩
  · rw [hEn12]; exact sE ⟨rfl, rfl, rfl, rfl, trivial⟩
  rintro ⟨i, v, m⟩ wr2 hI15
  rw [hIv13] at hI15
  obtain ⟨hs, hi, hm⟩ := hI15
  refine St_eqE (hEn12 _ _ _) (Zs (Zr (run_lss rfl rfl) rfl (Zj (St_seq (St_ifP rfl (fun h16 => ?_) (fun h16 => ?_))))))
  · refine St_skip (Zq (St_seq (St_block (Zs ?_))))
    obtain ⟨Ai, ni, ci, hvi, hri⟩ := hp.2 i (by have := hp.1; omega)
    have hli := rdB_len hri
    have hus := upto_succ ls i (by omega)
    have hle := upto_le ls (i + 1)
    refine Ls_index (El.val) (hr.inB hs) un120 inf125 rfl rfl (by omega) (by omega) hvi rfl (fun b17 o18 hc19 => (Zl sc125 rfl (hc19 0 _ rfl) (Za rfl (Zn (Zm rfl (Zm rfl (Ls_append hs un125 inf5 rfl (by decide) (by decide) rfl rfl (hri.inB hs) (bytesV_one' _) (by omega) rfl (fun A20 c21 w22 hs => (Za rfl (Ls_nil (Jm_block_normal (Zq (St_region (Zr (run_add rfl rfl (w64 (by omega))) rfl (Zm rfl (Ls_nil (Jm_round (i + 1, Value.slice A20 (m + ni) c21, m + ni) ?_ ?_ ?_)))))))))))))))))
    · rw [hEn12]; exact sE ⟨rfl, rfl, rfl, rfl, trivial⟩
    · rw [hIv13]
      refine ⟨?_, by omega, by omega⟩
      rw [flat_take_succ ls i (by omega), bytesV_append]; exact hs
    rw [hms14, hms14]
    omega
  refine St_exit (Jm_then_exit (Jm_then_exit (Jm_block_same (Zq (Zs (Zm rfl (Za rfl (Zj (St_ret (Jm_ret1 rfl rfl ?_))))))))))
  have hi : i = n := by omega
  have e1 : ls.take i = ls := List.take_of_length_le (by omega)
  have e2 : m = ls.flatten.length := by rw [flat_len, ← upto_all, hm, hll, hi]
  rw [e1] at hs
  obtain ⟨A9, c9, rfl, _, _, _⟩ := hs.own_form
  subst e2
  exact ⟨_, rfl, _, _, rfl, hs⟩
set_option maxRecDepth 100000 in
set_option maxHeartbeats 1000000 in
theorem Join_c (w : World) (A : Option Addr) (n c : Nat) (vs : List Value) (ls : List (List Int)) (hr : Rd w A n c 1 (El.val.flat vs)) (hp : Parts w vs ls) (hn : (ls.map List.length).sum ≤ 140737488355328) (hn2 : n ≤ 140737488355328) :
    Calls Try.prog 83 [.slice A n c].toArray w (Ret (fun v' w' => ∃ A' c', v' = .slice A' ls.flatten.length c' ∧ Sat w w' [Own 5 1 v' ls.flatten.length (bytesV ls.flatten)])) := by
  refine Zb Try.func83 rfl rfl rfl (Zs (Za rfl (Zt (Zm rfl (Zc fn90 rfl (Concat_c w _ _ _ vs ls hr hp hn hn2) rfl ?_)))))
  rintro v1 w2 ⟨AG, cG, rfl, hs⟩
  refine Za rfl (Zj (St_ret (Jm_ret1 rfl rfl ?_)))
  exact ⟨_, rfl, _, _, rfl, hs⟩

end Go.Proofs.Ytcifdianinbkeaa.Lg

/-
  The wire's takers of runs and lists, and the reference's. By program (gen/wire4.py).
-/
set_option linter.unusedVariables false
set_option linter.unusedSimpArgs false
namespace Go.Proofs.Ytcifdianinbkeaa.Lg
open Go Go.RowKit Go.Proofs.Ytcifdianinbkeaa.WirePure

theorem IsBytes.drop' {l : List Int} (h : IsBytes l) (k : Nat) : IsBytes (l.drop k) := fun q hq => h q (List.mem_of_mem_drop hq)
theorem IsBytes.take' {l : List Int} (h : IsBytes l) (k : Nat) : IsBytes (l.take k) := fun q hq => h q (List.mem_of_mem_take hq)
theorem tnum_e {l : List Int} {x a e most : Int} (h : tk 0 0 l = (x, a, e)) (he : e ≠ 0) : tnum l most = ([], 0, e) := by simp [tnum, h, he]
theorem tnum_6 {l : List Int} {x a most : Int} (h : tk 0 0 l = (x, a, 0)) (hx : most < 0 ∨ x > most) : tnum l most = ([], 0, 6) := by simp [tnum, h]; omega
theorem tnum_o {l : List Int} {x a : Nat} {most : Int} (h : tk 0 0 l = ((x : Int), (a : Int), 0)) (hx : ¬ (most < 0 ∨ (x : Int) > most)) : tnum l most = tnl l x a [] := by
  simp only [tnum, h]; rw [if_neg (by simp), if_neg hx]; simp
theorem tnl_e {l : List Int} {k at_ : Nat} {acc : List Int} {x a e : Int} (h : tk 0 0 (l.drop at_) = (x, a, e)) (he : e ≠ 0) : tnl l (k + 1) at_ acc = ([], 0, e) := by simp [tnl_succ, h, he]
theorem tnl_4 {l : List Int} {k at_ : Nat} {acc : List Int} {x a : Int} (h : tk 0 0 (l.drop at_) = (x, a, 0)) (hx : x > 4611686018427387904) : tnl l (k + 1) at_ acc = ([], 0, 4) := by simp [tnl_succ, h]; omega
theorem tnl_o {l : List Int} {k at_ : Nat} {acc : List Int} {x a : Nat} (h : tk 0 0 (l.drop at_) = ((x : Int), (a : Int), 0)) (hx : ¬ (x : Int) > 4611686018427387904) : tnl l (k + 1) at_ acc = tnl l k (at_ + a) (acc ++ [(x : Int)]) := by
  rw [tnl_succ, h]; simp only; rw [if_neg (by simp), if_neg hx]; simp
theorem flatI_snoc (acc : List Int) (x : Int) : (El.int .i64).flat acc ++ [.int .i64 x] = (El.int .i64).flat (acc ++ [x]) := by simp [El.flat, El.int]
set_option maxRecDepth 100000 in
set_option maxHeartbeats 1000000 in
theorem TakeNums_c (w : World) (A : Option Addr) (n c : Nat) (l : List Int) (most : Int) (hr : Rd w A n c 1 (bytesV l)) (hb : IsBytes l) (hn : n ≤ 9223372036854775807 ∧ (n ≤ 8796093022208 ∨ most ≤ 4096)) (hmost : most ≤ 9223372036854775807) :
    Calls Try.prog 80 [.slice A n c, .int .i64 most].toArray w (Ret (fun v' w' => ∃ A' c', v' = .tuple #[.slice A' (tnum l most).1.length c', .int .i64 (tnum l most).2.1, .int .i64 (tnum l most).2.2] ∧ Sat w w' [Own 3 1 (.slice A' (tnum l most).1.length c') (tnum l most).1.length ((El.int .i64).flat (tnum l most).1)])) := by
  have hs := Sat.start w
  have hl : l.length = n := rdB_len hr
  have hnc := hr.cap
  refine Zb Try.func80 rfl rfl rfl (Zs (Za rfl (Za rfl (Za rfl (Zt (Zm rfl (Zc fn79 rfl (Take_c w _ _ _ l (hr.inB hs) hb (by omega)) rfl ?_)))))))
  rintro v1 w2 ⟨rfl, rfl⟩
  obtain ⟨⟨xa, aa, ea⟩, htk⟩ : ∃ q, tk 0 0 l = q := ⟨_, rfl⟩
  rw [tkV_eq htk]
  refine Zm rfl (Zr (run_extract rfl rfl) rfl (Zr (run_extract rfl rfl) rfl (Zr (run_extract rfl rfl) rfl (Za rfl (Za rfl (Za rfl (Zj (St_seq (St_block (Zs (Zm rfl (Zr (run_neq rfl rfl) rfl (Za rfl (Zj (St_ifP rfl (fun h3 => ?_) (fun h3 => ?_))))))))))))))))
  · refine Zs (Zm rfl (Za rfl (Za rfl (Za rfl (Zj (St_ret (Jm_block_ret (Jm_then_ret (Jm_ret3 rfl rfl rfl rfl ?_)))))))))
    first
    | (rw [tnum_e htk (by assumption)]; exact ⟨_, rfl, _, _, rfl, hs.own_nil _ _⟩)
    | (rw [tnum_6 htk (by omega)]; exact ⟨_, rfl, _, _, rfl, hs.own_nil _ _⟩)
    | (rw [tnl_e htk2 (by assumption)] at htl; rw [← htl]; exact ⟨_, rfl, _, _, rfl, hs.forget.own_nil _ _⟩)
    | (rw [tnl_4 htk2 (by omega)] at htl; rw [← htl]; exact ⟨_, rfl, _, _, rfl, hs.forget.own_nil _ _⟩)
    | (have hk9 : k = 0 := by omega
       rw [hk9] at htl
       rw [← htl]
       subst hm
       obtain ⟨A9, c9, rfl, _, _, _⟩ := hs.own_form
       exact ⟨_, rfl, _, _, rfl, hs⟩)
  have e0 : ea = 0 := by omega
  subst e0
  have hrgxn := tk_range hb htk
  obtain ⟨xn, rfl⟩ : ∃ k : Nat, xa = (k : Int) := ⟨xa.toNat, by omega⟩
  obtain ⟨an, rfl⟩ : ∃ k : Nat, aa = (k : Int) := ⟨aa.toNat, by omega⟩
  simp only [Int.toNat_natCast] at hrgxn
  refine Zs (Zm rfl (Zr (run_lss rfl rfl) rfl (Zm rfl (Ls_partP (t := 27) rfl (fun h4 => ?_) (fun h4 => ?_)))))
  · refine Zx rfl (Zx rfl (Zx rfl (Zx rfl (Zr (run_pick_t rfl rfl) rfl (Za rfl (Zj (St_ift rfl (Zs (Za rfl (Za rfl (Za rfl (Zj (St_ret (Jm_block_ret (Jm_then_ret (Jm_ret3 rfl rfl rfl rfl ?_))))))))))))))))
    first
    | (rw [tnum_e htk (by assumption)]; exact ⟨_, rfl, _, _, rfl, hs.own_nil _ _⟩)
    | (rw [tnum_6 htk (by omega)]; exact ⟨_, rfl, _, _, rfl, hs.own_nil _ _⟩)
    | (rw [tnl_e htk2 (by assumption)] at htl; rw [← htl]; exact ⟨_, rfl, _, _, rfl, hs.forget.own_nil _ _⟩)
    | (rw [tnl_4 htk2 (by omega)] at htl; rw [← htl]; exact ⟨_, rfl, _, _, rfl, hs.forget.own_nil _ _⟩)
    | (have hk9 : k = 0 := by omega
       rw [hk9] at htl
       rw [← htl]
       subst hm
       obtain ⟨A9, c9, rfl, _, _, _⟩ := hs.own_form
       exact ⟨_, rfl, _, _, rfl, hs⟩)
  refine Zo rfl (Zm rfl (Zo rfl (Zm rfl (Zo rfl (Zr (run_conv_int un134 us3 rfl (wu64 (by omega))) rfl (Zo rfl (Zr (run_gtr rfl rfl) rfl (Zr (run_pick_f rfl rfl) rfl (Za rfl (Zj (St_ifP rfl (fun h6 => ?_) (fun h6 => ?_))))))))))))
  · refine Zs (Za rfl (Za rfl (Za rfl (Zj (St_ret (Jm_block_ret (Jm_then_ret (Jm_ret3 rfl rfl rfl rfl ?_))))))))
    first
    | (rw [tnum_e htk (by assumption)]; exact ⟨_, rfl, _, _, rfl, hs.own_nil _ _⟩)
    | (rw [tnum_6 htk (by omega)]; exact ⟨_, rfl, _, _, rfl, hs.own_nil _ _⟩)
    | (rw [tnl_e htk2 (by assumption)] at htl; rw [← htl]; exact ⟨_, rfl, _, _, rfl, hs.forget.own_nil _ _⟩)
    | (rw [tnl_4 htk2 (by omega)] at htl; rw [← htl]; exact ⟨_, rfl, _, _, rfl, hs.forget.own_nil _ _⟩)
    | (have hk9 : k = 0 := by omega
       rw [hk9] at htl
       rw [← htl]
       subst hm
       obtain ⟨A9, c9, rfl, _, _, _⟩ := hs.own_form
       exact ⟨_, rfl, _, _, rfl, hs⟩)
  refine St_skip (Jm_block_normal (Zq (Zs (Za rfl (Zj (St_seq (St_block ?_)))))))
  replace hs := hs.own_nil 3 1
  have htn := tnum_o (most := most) htk (by omega)
  obtain ⟨En7, hEn7⟩ := ex5 fun (k : Nat) (at_ : Nat) (v : Value) (m : Nat) (acc : List Int) => ([(0, .slice A n c), (8, .int .i64 (at_ : Int)), (10, v), (7, .int .u64 (k : Int))] : Env)
  obtain ⟨Iv8, hIv8⟩ := ew5 fun (k : Nat) (at_ : Nat) (v : Value) (m : Nat) (acc : List Int) (wr : World) => Sat w wr [Own 3 1 v m ((El.int .i64).flat acc)] ∧ at_ ≤ n ∧ m = acc.length ∧ m ≤ at_ ∧ m + (k) ≤ xn ∧ tnl l (k) at_ acc = tnum l most ∧ k < 18446744073709551616
  obtain ⟨ms9, hms9⟩ := ex5 fun (k : Nat) (at_ : Nat) (v : Value) (m : Nat) (acc : List Int) => (k : Nat)
  refine St_loop En7 Iv8 ms9 (xn, an, Value.slice none 0 0, 0, []) ?_ ?_ ?_
  · rw [hIv8]
    exact ⟨hs, by omega, rfl, by omega, by omega, htn.symm, by omega⟩
  · rw [hEn7]; exact sE ⟨rfl, rfl, rfl, rfl, trivial⟩
  rintro ⟨k, at_, v, m, acc⟩ wr hI10
  rw [hIv8] at hI10
  obtain ⟨hs, hat, hm, hmat, hmx, htl, hk⟩ := hI10
  refine St_eqE (hEn7 _ _ _ _ _) (St_seq (Zs (Zm rfl (Zr (run_gtr rfl rfl) rfl (Zj (St_ifP rfl (fun h11 => ?_) (fun h11 => ?_)))))))
  · refine St_skip (Zq (St_seq (St_block (Zs (Zm rfl (Zm rfl ?_))))))
    obtain ⟨k0, hk0⟩ : ∃ k0, k = k0 + 1 := ⟨k - 1, by omega⟩
    subst hk0
    refine Zr (run_slice_l un125 inf5 rfl rfl (by omega) (by omega)) rfl (Zc fn79 rfl (Take_c wr _ _ _ (l.drop at_) (rdB_drop (hr.inB hs) at_ (by omega)) (hb.drop' at_) (by omega)) rfl ?_)
    rintro v12 w13 ⟨rfl, rfl⟩
    obtain ⟨⟨xb, ab, eb⟩, htk2⟩ : ∃ q, tk 0 0 (l.drop at_) = q := ⟨_, rfl⟩
    rw [tkV_eq htk2]
    refine Zm rfl (Zr (run_extract rfl rfl) rfl (Zr (run_extract rfl rfl) rfl (Zr (run_extract rfl rfl) rfl (Za rfl (Za rfl (Za rfl (Zj (St_seq (Zs (Zm rfl (Zr (run_neq rfl rfl) rfl (Zj (St_ifP rfl (fun h14 => ?_) (fun h14 => ?_))))))))))))))
    · refine Zs (Zm rfl (Za rfl (Za rfl (Za rfl (Zj (St_ret (Jm_then_ret (Jm_block_ret (Jm_then_ret (Jm_then_ret (Jm_block_ret (Jm_then_ret (Jm_ret3 rfl rfl rfl rfl ?_)))))))))))))
      first
      | (rw [tnum_e htk (by assumption)]; exact ⟨_, rfl, _, _, rfl, hs.own_nil _ _⟩)
      | (rw [tnum_6 htk (by omega)]; exact ⟨_, rfl, _, _, rfl, hs.own_nil _ _⟩)
      | (rw [tnl_e htk2 (by assumption)] at htl; rw [← htl]; exact ⟨_, rfl, _, _, rfl, hs.forget.own_nil _ _⟩)
      | (rw [tnl_4 htk2 (by omega)] at htl; rw [← htl]; exact ⟨_, rfl, _, _, rfl, hs.forget.own_nil _ _⟩)
      | (have hk9 : k = 0 := by omega
         rw [hk9] at htl
         rw [← htl]
         subst hm
         obtain ⟨A9, c9, rfl, _, _, _⟩ := hs.own_form
         exact ⟨_, rfl, _, _, rfl, hs⟩)
    have e0 : eb = 0 := by omega
    subst e0
    have hrgxn2 := tk_range (hb.drop' at_) htk2
    obtain ⟨xn2, rfl⟩ : ∃ k : Nat, xb = (k : Int) := ⟨xb.toNat, by omega⟩
    obtain ⟨an2, rfl⟩ : ∃ k : Nat, ab = (k : Int) := ⟨ab.toNat, by omega⟩
    simp only [Int.toNat_natCast] at hrgxn2
    rw [List.length_drop] at hrgxn2
    refine St_skip (Zq (St_seq (Zs (Zm rfl (Zr (run_gtr rfl rfl) rfl (Zj (St_ifP rfl (fun h15 => ?_) (fun h15 => ?_))))))))
    · refine Zs (Za rfl (Za rfl (Za rfl (Zj (St_ret (Jm_then_ret (Jm_block_ret (Jm_then_ret (Jm_then_ret (Jm_block_ret (Jm_then_ret (Jm_ret3 rfl rfl rfl rfl ?_))))))))))))
      first
      | (rw [tnum_e htk (by assumption)]; exact ⟨_, rfl, _, _, rfl, hs.own_nil _ _⟩)
      | (rw [tnum_6 htk (by omega)]; exact ⟨_, rfl, _, _, rfl, hs.own_nil _ _⟩)
      | (rw [tnl_e htk2 (by assumption)] at htl; rw [← htl]; exact ⟨_, rfl, _, _, rfl, hs.forget.own_nil _ _⟩)
      | (rw [tnl_4 htk2 (by omega)] at htl; rw [← htl]; exact ⟨_, rfl, _, _, rfl, hs.forget.own_nil _ _⟩)
      | (have hk9 : k = 0 := by omega
         rw [hk9] at htl
         rw [← htl]
         subst hm
         obtain ⟨A9, c9, rfl, _, _, _⟩ := hs.own_form
         exact ⟨_, rfl, _, _, rfl, hs⟩)
    refine St_skip (Zq (Zs (Zm rfl (Zm rfl (Zr (run_conv_int un3 us134 rfl (w64 (by omega))) rfl (Ls_literal [_] hs un25 inf3 rfl rfl rfl rfl rfl rfl (fun b16 w17 hs => ?_)))))))
    simp only [List.flatMap_cons, List.flatMap_nil, Value.cells, List.cons_append, List.nil_append] at hs
    replace hs := hs.F1
    refine Ls_append hs un25 inf3 rfl (by decide) (by decide) rfl rfl (rd_block (hs.is_at 1 rfl).2 1 1 rfl) (by simp [Value.oneCell']) (by omega) rfl (fun A18 c19 w20 hs => ?_)
    replace hs := hs.E1
    refine Za rfl (Zn (Zm rfl (Zm rfl (Zr (run_add rfl rfl (w64 (by omega))) rfl (Za rfl (Ls_nil (Jm_block_normal (Zq (St_region (Zm rfl (Zr (run_sub rfl rfl (show _ = (k0 : Int) by rw [wu64 (by omega)]; omega)) rfl (Za rfl (Ls_nil ?_)))))))))))))
    rw [tnl_o htk2 (by omega)] at htl
    refine Jm_round (k0, at_ + an2, Value.slice A18 (m + 1) c19, m + 1, acc ++ [(xn2 : Int)]) ?_ ?_ ?_
    · rw [hEn7]; exact sE ⟨rfl, rfl, rfl, rfl, trivial⟩
    · rw [hIv8]
      refine ⟨by rw [← flatI_snoc]; exact hs, by omega, by simp [hm], by omega, by omega, ?_, by omega⟩
      exact htl
    rw [hms9, hms9]
    omega
  refine St_exit (Jm_then_exit (Jm_then_exit (Jm_block_same (Zq (Zs (Zm rfl (Zm rfl (Za rfl (Za rfl (Za rfl (Zj (St_ret (Jm_ret3 rfl rfl rfl rfl ?_)))))))))))))
  first
  | (rw [tnum_e htk (by assumption)]; exact ⟨_, rfl, _, _, rfl, hs.own_nil _ _⟩)
  | (rw [tnum_6 htk (by omega)]; exact ⟨_, rfl, _, _, rfl, hs.own_nil _ _⟩)
  | (rw [tnl_e htk2 (by assumption)] at htl; rw [← htl]; exact ⟨_, rfl, _, _, rfl, hs.forget.own_nil _ _⟩)
  | (rw [tnl_4 htk2 (by omega)] at htl; rw [← htl]; exact ⟨_, rfl, _, _, rfl, hs.forget.own_nil _ _⟩)
  | (have hk9 : k = 0 := by omega
     rw [hk9] at htl
     rw [← htl]
     subst hm
     obtain ⟨A9, c9, rfl, _, _, _⟩ := hs.own_form
     exact ⟨_, rfl, _, _, rfl, hs⟩)
end Go.Proofs.Ytcifdianinbkeaa.Lg
set_option linter.unusedVariables false
set_option linter.unusedSimpArgs false
namespace Go.Proofs.Ytcifdianinbkeaa.Lg
open Go Go.RowKit
theorem alike_cut {d : DSt} {r : RSt} (h : Alike d r) (n : Int) : Alike (dcut d n) (rcut r n) := by
  obtain ⟨h1, h2, h3, h4, h5, h6, h7⟩ := h
  refine ⟨h1, h2, h3, h4, ?_, decide_eq_decide.2 ?_, ?_⟩
  · show -1 ≤ (if n < 0 then (-1 : Int) else n)
    split <;> omega
  · show 0 ≤ n ↔ 0 ≤ (if n < 0 then (-1 : Int) else n)
    split <;> omega
  · show 0 ≤ (if n < 0 then (-1 : Int) else n) → n = (if n < 0 then (-1 : Int) else n)
    split <;> omega
theorem alike_off {d : DSt} {r : RSt} (h : Alike d r) : Alike (doff d) (roff r) := by
  obtain ⟨h1, h2, h3, h4, h5, h6, h7⟩ := h
  exact ⟨h1, rfl, h3, h4, by simp [roff], by simp [roff, doff, dset], by simp [roff]⟩
theorem alike_on {d : DSt} {r : RSt} (h : Alike d r) : Alike (don d) (ron r) := by
  obtain ⟨h1, h2, h3, h4, h5, h6, h7⟩ := h
  exact ⟨h1, rfl, h3, h4, by simp [ron], by simp [ron, don, dset], by simp [ron]⟩
theorem alike_read {d : DSt} {r : RSt} (h : Alike d r) (i : Int) : (dread d i).1 = (rread r i).1 ∧ (dread d i).2.1 = (rread r i).2.1 ∧ Alike (dread d i).2.2 (rread r i).2.2 := by
  have hc := alike_check h i
  have h' := h
  obtain ⟨h1, h2, h3, h4, h5, h6, h7⟩ := h
  unfold dread rread
  rw [← hc]
  split
  · refine ⟨by rw [h1], rfl, h1, h2, by simp only [h3], h4, h5, h6, h7⟩
  · exact ⟨rfl, rfl, h'⟩
/-- A disk and the reference's, alike and within their bounds. -/
def DR (d : DSt) (r : RSt) : Prop := Alike d r ∧ (∀ x ∈ d.bl, IsBytes x ∧ x.length ≤ 1024) ∧ d.bl.length ≤ 64 ∧ r.left ≤ 9223372036854775807
theorem DR.cut {d : DSt} {r : RSt} (h : DR d r) {n : Int} (hn : n ≤ 9223372036854775807) : DR (dcut d n) (rcut r n) := ⟨alike_cut h.1 n, h.2.1, h.2.2.1, by simp only [rcut]; split <;> omega⟩
theorem DR.off {d : DSt} {r : RSt} (h : DR d r) : DR (doff d) (roff r) := ⟨alike_off h.1, h.2.1, h.2.2.1, by simp [roff]⟩
theorem DR.on {d : DSt} {r : RSt} (h : DR d r) : DR (don d) (ron r) := ⟨alike_on h.1, h.2.1, h.2.2.1, by simp [ron]⟩
theorem DR.read {d : DSt} {r : RSt} (h : DR d r) (i : Int) : DR (dread d i).2.2 (rread r i).2.2 := by
  refine ⟨(alike_read h.1 i).2.2, ?_, ?_, ?_⟩
  · unfold dread; split
    · exact h.2.1
    · exact h.2.1
  · unfold dread; split
    · exact h.2.2.1
    · exact h.2.2.1
  · unfold rread; split
    · exact h.2.2.2
    · exact h.2.2.2
theorem DR.rows {d : DSt} {r : RSt} (h : DR d r) : ∀ x ∈ r.bl, x.length ≤ 1024 := fun x hx => (h.2.1 x (by rw [h.1.1]; exact hx)).2

section
variable {B w : World} {TD TS TB b : Nat} {p : Option Addr} {s : DSt} {r : RSt} {L : List Assn}
end
def obl : Option DSt → List (List Int) | none => [] | some s => s.bl
def orbl : Option RSt → List (List Int) | none => [] | some s => s.bl
def DRo : Option DSt → Option RSt → Prop
  | none, none => True
  | some d, some r => DR d r
  | _, _ => False
theorem DRo.bl {d : Option DSt} {r : Option RSt} (h : DRo d r) : obl d = orbl r := by
  cases d <;> cases r
  · rfl
  · cases h
  · cases h
  · exact h.1.1
theorem DRo.ok {d : Option DSt} {r : Option RSt} (h : DRo d r) : (∀ x ∈ obl d, IsBytes x ∧ x.length ≤ 1024) ∧ (obl d).length ≤ 64 := by
  cases d <;> cases r
  · exact ⟨fun x hx => absurd hx (by simp [obl]), by simp [obl]⟩
  · cases h
  · cases h
  · exact ⟨h.2.1, h.2.2.1⟩
def sel3 {α : Type} (k : Nat) (a b c : α) : α := if k = 0 then a else if k = 1 then b else c
end Go.Proofs.Ytcifdianinbkeaa.Lg
set_option linter.unusedVariables false
set_option linter.unusedSimpArgs false
namespace Go.Proofs.Ytcifdianinbkeaa.Lg
open Go Go.RowKit Go.Proofs.Ytcifdianinbkeaa.WirePure
abbrev KI : El Int := El.int .i64
def fwd (a b : List Int) : Prop := a.length = b.length ∧ ∀ i, i < a.length → a.getD i 0 ≤ b.getD i 0
instance (a b : List Int) : Decidable (fwd a b) := by unfold fwd; exact inferInstance
structure NSt where
  batch : Int
  prev : List Int
  cur : List Int
  att : Int
def nval (n : NSt) (Ap : Option Addr) (cp : Nat) (Ac : Option Addr) (cc : Nat) : Value := .agg #[.int .i64 n.batch, .slice Ap n.prev.length cp, .slice Ac n.cur.length cc, .int .i64 n.att]
def ncells (n : NSt) (Ap : Option Addr) (cp : Nat) (Ac : Option Addr) (cc : Nat) : List Value := [.int .i64 n.batch, .slice Ap n.prev.length cp, .slice Ac n.cur.length cc, .int .i64 n.att]
def within (x : Int) : Prop := 0 ≤ x ∧ x ≤ 1099511627776
instance (x : Int) : Decidable (within x) := by unfold within; exact inferInstance
def endOk (n : NSt) (i : Nat) : Prop := 0 ≤ n.prev.getD i 0 ∧ n.cur.getD i 0 ≤ 256 ∧ (n.batch = 0 → n.cur.getD i 0 = 0)
instance (n : NSt) (i : Nat) : Decidable (endOk n i) := by unfold endOk; exact inferInstance
def noteOk (n : NSt) (parts : Int) : Prop := within n.batch ∧ within n.att ∧ (n.prev.length : Int) = parts ∧ fwd n.prev n.cur ∧ ∀ i, i < n.cur.length → endOk n i
instance (n : NSt) (parts : Int) : Decidable (noteOk n parts) := by unfold noteOk; exact inferInstance
def follows (o n : NSt) : Prop := o.att ≤ n.att ∧ ((n.batch = o.batch ∧ n.prev = o.prev ∧ n.cur = o.cur) ∨ (n.batch ≠ o.batch ∧ n.batch = o.batch + 1 ∧ n.prev = o.cur))
instance (o n : NSt) : Decidable (follows o n) := by unfold follows; exact inferInstance
def nbytes (gen : Int) (n : NSt) : List Int := [pb gen.toNat, pb n.batch.toNat, pb n.att.toNat, nm n.prev, nm n.cur].flatten
theorem noteOk_pos {n : NSt} {parts : Int} (h : noteOk n parts) : (∀ x ∈ n.prev, 0 ≤ x ∧ x ≤ 256) ∧ ∀ x ∈ n.cur, 0 ≤ x ∧ x ≤ 256 := by
  obtain ⟨_, _, _, ⟨h1, h2⟩, h3⟩ := h
  constructor
  · intro x hx
    obtain ⟨i, hi, rfl⟩ := List.getElem_of_mem hx
    have e1 : n.prev.getD i 0 = n.prev[i] := by rw [List.getD_eq_getElem?_getD, List.getElem?_eq_getElem hi]; rfl
    have := h2 i hi
    have := h3 i (by omega)
    unfold endOk at this
    rw [← e1]; omega
  · intro x hx
    obtain ⟨i, hi, rfl⟩ := List.getElem_of_mem hx
    have e1 : n.cur.getD i 0 = n.cur[i] := by rw [List.getD_eq_getElem?_getD, List.getElem?_eq_getElem hi]; rfl
    have := h2 i (by omega)
    have := h3 i hi
    unfold endOk at this
    rw [← e1]; omega
theorem noteOk_len {n : NSt} {parts : Int} (h : noteOk n parts) : (n.prev.length : Int) = parts ∧ (n.cur.length : Int) = parts := ⟨h.2.2.1, by have := h.2.2.1; have := h.2.2.2.1.1; omega⟩
theorem nm_len {l : List Int} (h : ∀ x ∈ l, x < 18446744073709551616) (hl : l.length < 18446744073709551616) : (nm l).length ≤ 10 + 10 * l.length := by
  have h1 := nmB_len h
  have h2 := pb_len10 hl
  simp only [nm, List.length_append]; omega
theorem nbytes_len {n : NSt} {parts gen : Int} (h : noteOk n parts) (hp : parts ≤ 4) (hg : 0 ≤ gen ∧ gen ≤ 1099511627777) : (nbytes gen n).length ≤ 130 := by
  obtain ⟨h1, h2⟩ := noteOk_pos h
  obtain ⟨h3, h4⟩ := noteOk_len h
  have hb := h.1
  have ha := h.2.1
  unfold within at hb ha
  have a1 := pb_len10 (n := gen.toNat) (by omega)
  have a2 := pb_len10 (n := n.batch.toNat) (by omega)
  have a3 := pb_len10 (n := n.att.toNat) (by omega)
  have a4 := nm_len (l := n.prev) (fun x hx => by have := h1 x hx; omega) (by omega)
  have a5 := nm_len (l := n.cur) (fun x hx => by have := h2 x hx; omega) (by omega)
  simp only [nbytes, List.flatten_cons, List.flatten_nil, List.length_append, List.length_nil]
  omega
theorem nbytes_bytes (n : NSt) (gen : Int) : IsBytes (nbytes gen n) := by
  intro x hx
  simp only [nbytes, List.flatten_cons, List.flatten_nil, List.append_nil, List.mem_append] at hx
  rcases hx with h | h | h | h | h
  · exact pb_bytes _ x h
  · exact pb_bytes _ x h
  · exact pb_bytes _ x h
  · exact nm_bytes _ x h
  · exact nm_bytes _ x h
structure JSt where
  parts : Int
  n : NSt
  gen : Int
  slot : Int
  ended : Bool
def jcells (p : Option Addr) (j : JSt) (Ap : Option Addr) (cp : Nat) (Ac : Option Addr) (cc : Nat) : List Value :=
  [.pointer p, .int .i64 j.parts, .int .i64 j.n.batch, .slice Ap j.n.prev.length cp, .slice Ac j.n.cur.length cc, .int .i64 j.n.att, .int .i64 j.gen, .int .i64 j.slot, .bool j.ended]
/-- A journal at block b, on the disk that p points at. -/
def JA (TJ TI : TypeId) (b : Nat) (p : Option Addr) (j : JSt) : Assn := Thing (fun _ : Option Addr × Nat × Option Addr × Nat => True)
  (fun q => [Blk b (jcells p j q.1 q.2.1 q.2.2.1 q.2.2.2) TJ, Own TI 1 (.slice q.1 j.n.prev.length q.2.1) j.n.prev.length (KI.flat j.n.prev), Own TI 1 (.slice q.2.2.1 j.n.cur.length q.2.2.2) j.n.cur.length (KI.flat j.n.cur)])
section
variable {B w : World} {TJ TI b : Nat} {p : Option Addr} {j : JSt} {L : List Assn}
theorem Sat.jopen (hs : Sat B w (JA TJ TI b p j :: L)) : ∃ (Ap : Option Addr) (cp : Nat) (Ac : Option Addr) (cc : Nat),
    Sat B w (Blk b (jcells p j Ap cp Ac cc) TJ :: Own TI 1 (.slice Ap j.n.prev.length cp) j.n.prev.length (KI.flat j.n.prev) :: Own TI 1 (.slice Ac j.n.cur.length cc) j.n.cur.length (KI.flat j.n.cur) :: L) := by
  obtain ⟨⟨Ap, cp, Ac, cc⟩, _, h2⟩ := Sat.openObj hs
  exact ⟨Ap, cp, Ac, cc, h2⟩
theorem Sat.jshut {Ap : Option Addr} {cp : Nat} {Ac : Option Addr} {cc : Nat}
    (hs : Sat B w (Blk b (jcells p j Ap cp Ac cc) TJ :: Own TI 1 (.slice Ap j.n.prev.length cp) j.n.prev.length (KI.flat j.n.prev) :: Own TI 1 (.slice Ac j.n.cur.length cc) j.n.cur.length (KI.flat j.n.cur) :: L)) : Sat B w (JA TJ TI b p j :: L) :=
  Sat.shutObj (M := fun q : Option Addr × Nat × Option Addr × Nat => [Blk b (jcells p j q.1 q.2.1 q.2.2.1 q.2.2.2) TJ, Own TI 1 (.slice q.1 j.n.prev.length q.2.1) j.n.prev.length (KI.flat j.n.prev), Own TI 1 (.slice q.2.2.1 j.n.cur.length q.2.2.2) j.n.cur.length (KI.flat j.n.cur)]) (Ap, cp, Ac, cc) trivial hs
end
def JOk (j : JSt) : Prop := noteOk j.n j.parts ∧ 1 ≤ j.parts ∧ j.parts ≤ 4 ∧ 1 ≤ j.gen ∧ j.gen ≤ 1099511627776 ∧ (j.slot = 0 ∨ j.slot = 1)
def jend (j : JSt) (d : DSt) : JSt := { j with ended := j.ended || d.down }
/-- Save: the error, the journal and the disk behind it. -/
def jsave (j : JSt) (d : DSt) (n : NSt) : Int × JSt × DSt :=
  if (jend j d).ended then (80, jend j d, d)
  else if ¬ noteOk n j.parts then (1, jend j d, d)
  else if ¬ follows j.n n then (7, jend j d, d)
  else if 1099511627776 ≤ j.gen then (92, jend j d, d)
  else if (dwrite d (1 - j.slot) (nbytes (j.gen + 1) n)).1 ≠ 0 then ((dwrite d (1 - j.slot) (nbytes (j.gen + 1) n)).1, { jend j d with ended := true }, (dwrite d (1 - j.slot) (nbytes (j.gen + 1) n)).2)
  else (0, { jend j d with n := n, gen := j.gen + 1, slot := 1 - j.slot }, (dwrite d (1 - j.slot) (nbytes (j.gen + 1) n)).2)
def jnew (parts : Nat) : JSt := ⟨parts, ⟨0, List.replicate parts 0, List.replicate parts 0, 0⟩, 1, 0, false⟩
theorem rep_getD {k i : Nat} : (List.replicate k (0 : Int)).getD i 0 = 0 := by
  rw [List.getD_eq_getElem?_getD, List.getElem?_replicate]
  split <;> rfl
theorem jnew_ok {parts : Nat} (h1 : 1 ≤ parts) (h2 : parts ≤ 4) : JOk (jnew parts) := by
  refine ⟨⟨?_, ?_, ?_, ⟨?_, fun i hi => ?_⟩, fun i hi => ⟨?_, ?_, fun _ => ?_⟩⟩, by simp [jnew]; omega, by simp [jnew]; omega, by simp [jnew], by simp [jnew], .inl rfl⟩
  · simp [jnew, within]
  · simp [jnew, within]
  · simp [jnew]
  · simp [jnew]
  · simp only [jnew]; rw [rep_getD]; exact Int.le_refl _
  · simp only [jnew]; rw [rep_getD]; exact Int.le_refl _
  · simp only [jnew]; rw [rep_getD]; decide
  · simp only [jnew]; exact rep_getD
/-- A journal that may be none. -/
def JO (TJ TI : TypeId) (p dp : Option Addr) : Option JSt → Assn
  | none => fun h => p = none ∧ ∀ b, h b = none
  | some j => fun h => ∃ b, p = some ⟨b, 0, none⟩ ∧ JA TJ TI b dp j h
section
variable {B w : World} {TJ TI b : Nat} {p dp : Option Addr} {j : JSt} {L : List Assn}
theorem Sat.joNone (hs : Sat B w (JO TJ TI p dp none :: L)) : p = none ∧ Sat B w L := by
  obtain ⟨h, h2⟩ := Sat.pure (p := p = none) (A := fun h => ∀ b, h b = none) hs
  exact ⟨h, h2.tail⟩
theorem Sat.joSome (hs : Sat B w (JO TJ TI p dp (some j) :: L)) : ∃ b, p = some ⟨b, 0, none⟩ ∧ Sat B w (JA TJ TI b dp j :: L) := by
  obtain ⟨b, h⟩ := Sat.ex (A := fun b h => p = some ⟨b, 0, none⟩ ∧ JA TJ TI b dp j h) hs
  exact ⟨b, h.pure⟩
theorem Sat.toJoNone (hs : Sat B w L) : Sat B w (JO TJ TI none dp none :: L) := hs.addNone ⟨rfl, fun _ => rfl⟩
theorem Sat.toJoSome (hs : Sat B w (JA TJ TI b dp j :: L)) : Sat B w (JO TJ TI (some ⟨b, 0, none⟩) dp (some j) :: L) := hs.imp fun h hh => ⟨b, rfl, hh⟩
theorem Sat.rdL0 {pre : List Assn} {F : World → Prop} (hF : ∀ w' X, Sat B w' (X :: L) → F w') (hs : Sat B w (pre ++ L)) : F w := hF w _ (Sat.pack (M := pre) hs)
end
def jformat (d : DSt) (parts : Int) : Int × Option JSt × DSt :=
  if parts < 1 ∨ 4 < parts then (1, none, d) else if d.bl.length < 2 then (92, none, d)
  else if (dwrite d 1 []).1 ≠ 0 then ((dwrite d 1 []).1, none, (dwrite d 1 []).2)
  else if (dwrite (dwrite d 1 []).2 0 (nbytes 1 (jnew parts.toNat).n)).1 ≠ 0 then ((dwrite (dwrite d 1 []).2 0 (nbytes 1 (jnew parts.toNat).n)).1, none, (dwrite (dwrite d 1 []).2 0 (nbytes 1 (jnew parts.toNat).n)).2)
  else (0, some (jnew parts.toNat), (dwrite (dwrite d 1 []).2 0 (nbytes 1 (jnew parts.toNat).n)).2)
theorem flatKI_rep (m : Nat) : KI.flat (List.replicate m 0) = List.replicate m (.int .i64 0) := by rw [El.int_flat]; simp
end Go.Proofs.Ytcifdianinbkeaa.Lg
set_option linter.unusedVariables false
set_option linter.unusedSimpArgs false
namespace Go.Proofs.Ytcifdianinbkeaa.WirePure
open Go.Proofs.Ytcifdianinbkeaa.Lg
instance (l : List Int) : Decidable (anyNeg l) := by unfold anyNeg; infer_instance
/-- A run's bytes. -/
def run (l : List Int) : List Int := pb l.length ++ l
theorem run_len (l : List Int) : (run l).length = (pb l.length).length + l.length := by simp [run]
/-- Lists there and back. -/
def big (l : List Int) : Prop := ∃ x ∈ l, x > 4611686018427387904
theorem tnl_back (full r : List Int) : ∀ (rest : List Int) (at_ : Nat) (acc : List Int), full.drop at_ = nmB rest ++ r → (∀ x ∈ rest, 0 ≤ x ∧ x < 18446744073709551616) →
    (big rest → tnl full rest.length at_ acc = ([], 0, 4)) ∧ (¬ big rest → tnl full rest.length at_ acc = (acc ++ rest, ((at_ + (nmB rest).length : Nat) : Int), 0))
  | [], at_, acc, _, _ => ⟨fun ⟨x, hx, _⟩ => (by cases hx), fun _ => (by simp [tnl, nmB])⟩
  | x :: rest, at_, acc, hd, hx => by
    have hx0 := hx x (by simp)
    have hnm : nmB (x :: rest) = pb x.toNat ++ nmB rest := by simp [nmB]
    rw [hnm, List.append_assoc] at hd
    have htk := tk_pb x.toNat 0 0 (nmB rest ++ r) (by show x.toNat < 18446744073709551616; omega) (by omega)
    have htk2 : tk 0 0 (full.drop at_) = ((x.toNat : Int), ((pb x.toNat).length : Int), 0) := by rw [hd, htk]; simp
    have hd2 : full.drop (at_ + (pb x.toNat).length) = nmB rest ++ r := by rw [← List.drop_drop, hd]; simp
    obtain ⟨ih1, ih2⟩ := tnl_back full r rest (at_ + (pb x.toNat).length) (acc ++ [x]) hd2 (fun q hq => hx q (by simp [hq]))
    have hcast : (x.toNat : Int) = x := by omega
    rw [hcast] at htk2
    rw [List.length_cons, tnl_succ, htk2]
    simp only [ne_eq, not_true_eq_false, if_false, Int.toNat_natCast]
    by_cases hb : x > 4611686018427387904
    · refine ⟨fun _ => by rw [if_pos hb], fun hn => absurd ⟨x, by simp, hb⟩ hn⟩
    · rw [if_neg hb]
      refine ⟨fun ⟨q, hq, hq2⟩ => ih1 ?_, fun hn => ?_⟩
      · rcases List.mem_cons.1 hq with rfl | hq
        · exact absurd hq2 hb
        · exact ⟨q, hq, hq2⟩
      · rw [ih2 (fun ⟨q, hq, hq2⟩ => hn ⟨q, by simp [hq], hq2⟩), hnm]
        simp [Nat.add_assoc]
end Go.Proofs.Ytcifdianinbkeaa.WirePure
set_option linter.unusedVariables false
set_option linter.unusedSimpArgs false
namespace Go.Proofs.Ytcifdianinbkeaa.Lg
open Go Go.RowKit Go.Proofs.Ytcifdianinbkeaa.WirePure
/-- A number up to 2^40 and the bytes behind it; a list of up to four and the bytes behind it. -/
def tk1 (b : List Int) : Option (Int × List Int) := if (tk 0 0 b).2.2 ≠ 0 ∨ 1099511627776 < (tk 0 0 b).1 then none else some ((tk 0 0 b).1, b.drop (tk 0 0 b).2.1.toNat)
def tn1 (b : List Int) : Option (List Int × List Int) := if (tnum b 4).2.2 ≠ 0 then none else some ((tnum b 4).1, b.drop (tnum b 4).2.1.toNat)
def rdF (x0 x1 x2 : Int) (l1 l2 : List Int) (b : List Int) (parts : Int) : Option (NSt × Int) := if 0 < b.length ∨ x0 = 0 ∨ ¬ noteOk ⟨x1, l1, l2, x2⟩ parts then none else some (⟨x1, l1, l2, x2⟩, x0)
def rdN (k : Nat) (x0 x1 x2 : Int) (l1 l2 : List Int) (b : List Int) (parts : Int) : Option (NSt × Int) :=
  match k with
  | 0 => (match tn1 b with | none => none | some (l, b) => match tn1 b with | none => none | some (l2, b) => rdF x0 x1 x2 l l2 b parts)
  | 1 => (match tn1 b with | none => none | some (l2, b) => rdF x0 x1 x2 l1 l2 b parts)
  | _ => rdF x0 x1 x2 l1 l2 b parts
def rdK (k : Nat) (x0 x1 x2 : Int) (b : List Int) (parts : Int) : Option (NSt × Int) :=
  match k with
  | 0 => (match tk1 b with | none => none | some (x0, b) => match tk1 b with | none => none | some (x1, b) => match tk1 b with | none => none | some (x2, b) => rdN 0 x0 x1 x2 [] [] b parts)
  | 1 => (match tk1 b with | none => none | some (x1, b) => match tk1 b with | none => none | some (x2, b) => rdN 0 x0 x1 x2 [] [] b parts)
  | 2 => (match tk1 b with | none => none | some (x2, b) => rdN 0 x0 x1 x2 [] [] b parts)
  | _ => rdN 0 x0 x1 x2 [] [] b parts
/-- The note and the generation of an entry's bytes. -/
def rentry (b : List Int) (parts : Int) : Option (NSt × Int) := rdK 0 0 0 0 b parts
theorem rdK_none {k : Nat} (hk : k < 3) {x0 x1 x2 parts : Int} {b : List Int} (h : tk1 b = none) : rdK k x0 x1 x2 b parts = none := by
  rcases (show k = 0 ∨ k = 1 ∨ k = 2 by omega) with rfl | rfl | rfl <;> simp only [rdK, h]
theorem rdK_some {k : Nat} (hk : k < 3) {x0 x1 x2 parts x : Int} {b b' : List Int} (h : tk1 b = some (x, b')) :
    rdK k x0 x1 x2 b parts = rdK (k + 1) (if k = 0 then x else x0) (if k = 1 then x else x1) (if k = 2 then x else x2) b' parts := by
  rcases (show k = 0 ∨ k = 1 ∨ k = 2 by omega) with rfl | rfl | rfl <;> simp [rdK, h]
theorem rdK_3 {x0 x1 x2 parts : Int} {b : List Int} : rdK 3 x0 x1 x2 b parts = rdN 0 x0 x1 x2 [] [] b parts := rfl
theorem rdN_none {k : Nat} (hk : k < 2) {x0 x1 x2 parts : Int} {l1 l2 b : List Int} (h : tn1 b = none) : rdN k x0 x1 x2 l1 l2 b parts = none := by
  rcases (show k = 0 ∨ k = 1 by omega) with rfl | rfl <;> simp only [rdN, h]
theorem rdN_some {k : Nat} (hk : k < 2) {x0 x1 x2 parts : Int} {l1 l2 l b b' : List Int} (h : tn1 b = some (l, b')) :
    rdN k x0 x1 x2 l1 l2 b parts = rdN (k + 1) x0 x1 x2 (if k = 0 then l else l1) (if k = 0 then l2 else l) b' parts := by
  rcases (show k = 0 ∨ k = 1 by omega) with rfl | rfl <;> simp [rdN, h]
theorem rdN_2 {x0 x1 x2 parts : Int} {l1 l2 b : List Int} : rdN 2 x0 x1 x2 l1 l2 b parts = rdF x0 x1 x2 l1 l2 b parts := rfl
theorem tk1_none {b : List Int} {x a e : Int} (h : tk 0 0 b = (x, a, e)) (hx : e ≠ 0 ∨ 1099511627776 < x) : tk1 b = none := by unfold tk1; rw [h, if_pos hx]
theorem tk1_some {b : List Int} {x a : Int} (h : tk 0 0 b = (x, a, 0)) (hx : x ≤ 1099511627776) : tk1 b = some (x, b.drop a.toNat) := by unfold tk1; rw [h, if_neg (by simp; omega)]
theorem tn1_none {b l : List Int} {a e : Int} (h : tnum b 4 = (l, a, e)) (hx : e ≠ 0) : tn1 b = none := by unfold tn1; rw [h, if_pos hx]
theorem tn1_some {b l : List Int} {a : Int} (h : tnum b 4 = (l, a, 0)) : tn1 b = some (l, b.drop a.toNat) := by unfold tn1; rw [h, if_neg (by simp)]
theorem tnl_at {b : List Int} (hb : ∀ c ∈ b, 0 ≤ c ∧ c ≤ 255) : ∀ (k at_ : Nat) (acc l : List Int) (a : Int), at_ ≤ b.length → tnl b k at_ acc = (l, a, 0) → 0 ≤ a ∧ a ≤ (b.length : Int) ∧ l.length ≤ acc.length + k
  | 0, at_, acc, l, a, h, ht => by
    simp only [tnl, Prod.mk.injEq] at ht
    obtain ⟨rfl, rfl, _⟩ := ht
    omega
  | k + 1, at_, acc, l, a, h, ht => by
    rw [tnl_succ] at ht
    obtain ⟨⟨x, y, e⟩, hq⟩ : ∃ q, tk 0 0 (b.drop at_) = q := ⟨_, rfl⟩
    rw [hq] at ht
    simp only at ht
    by_cases he : e = 0
    · subst he
      have hr := tk_range (fun c hc => hb c (List.mem_of_mem_drop hc)) hq
      rw [List.length_drop] at hr
      simp only [ne_eq, not_true_eq_false, if_false] at ht
      split at ht
      · simp at ht
      · have ih := tnl_at hb k (at_ + y.toNat) (acc ++ [x]) l a (by omega) ht
        simp only [List.length_append, List.length_cons, List.length_nil] at ih
        omega
    · rw [if_pos he] at ht
      simp only [Prod.mk.injEq] at ht
      exact absurd ht.2.2 he
theorem tnum_at {b l : List Int} {a : Int} (hb : ∀ c ∈ b, 0 ≤ c ∧ c ≤ 255) (h : tnum b 4 = (l, a, 0)) : 0 ≤ a ∧ a ≤ (b.length : Int) ∧ l.length ≤ 4 := by
  unfold tnum at h
  obtain ⟨⟨x, y, e⟩, hq⟩ : ∃ q, tk 0 0 b = q := ⟨_, rfl⟩
  rw [hq] at h
  simp only at h
  by_cases he : e = 0
  · subst he
    have hr := tk_range hb hq
    simp only [ne_eq, not_true_eq_false, if_false] at h
    split at h
    · simp at h
    · have := tnl_at hb x.toNat y.toNat [] l a (by omega) h
      simp only [List.length_nil] at this
      omega
  · rw [if_pos he] at h
    simp only [Prod.mk.injEq] at h
    exact absurd h.2.2 he
theorem tk1_pb {x : Int} (h0 : 0 ≤ x) (h1 : x ≤ 1099511627776) (r : List Int) : tk1 (pb x.toNat ++ r) = some (x, r) := by
  have htk := tk_pb x.toNat 0 0 r (by show x.toNat < 18446744073709551616; omega) (by omega)
  have e : tk 0 0 (pb x.toNat ++ r) = (x, ((pb x.toNat).length : Int), 0) := by
    rw [htk]; simp; omega
  rw [tk1_some e h1]
  simp
theorem tn1_nm {l : List Int} (hl : l.length ≤ 4) (h : ∀ x ∈ l, 0 ≤ x ∧ x ≤ 256) (r : List Int) : tn1 (nm l ++ r) = some (l, r) := by
  have htk := tk_pb l.length 0 0 (nmB l ++ r) (by show l.length < 18446744073709551616; omega) (by omega)
  have htk2 : tk 0 0 (nm l ++ r) = ((l.length : Int), ((pb l.length).length : Int), 0) := by rw [nm, List.append_assoc, htk]; simp
  have hd : (nm l ++ r).drop (pb l.length).length = nmB l ++ r := by rw [nm, List.append_assoc]; simp
  obtain ⟨h1, h2⟩ := tnl_back (nm l ++ r) r l (pb l.length).length [] hd (fun x hx => by have := h x hx; omega)
  have e : tnum (nm l ++ r) 4 = (l, ((nm l).length : Int), 0) := by
    unfold tnum
    rw [htk2]
    simp only [ne_eq, not_true_eq_false, if_false, Int.toNat_natCast]
    rw [if_neg (by omega), h2 (fun ⟨x, hx, hb⟩ => by have := h x hx; omega)]
    simp [nm]
  rw [tn1_some e]
  simp
theorem rentry_nbytes {n : NSt} {p' gen parts : Int} (h : noteOk n p') (hp : p' ≤ 4) (hg : 1 ≤ gen) (hg2 : gen ≤ 1099511627776) : rentry (nbytes gen n) parts = if noteOk n parts then some (n, gen) else none := by
  have hpos := noteOk_pos h
  have hlen := noteOk_len h
  have hb := h.1
  have ha := h.2.1
  unfold within at hb ha
  have e : nbytes gen n = pb gen.toNat ++ (pb n.batch.toNat ++ (pb n.att.toNat ++ (nm n.prev ++ (nm n.cur ++ [])))) := by simp [nbytes]
  unfold rentry
  rw [e]
  simp only [rdK, tk1_pb (by omega) hg2, tk1_pb hb.1 hb.2, tk1_pb ha.1 ha.2, rdN, tn1_nm (show n.prev.length ≤ 4 by omega) hpos.1, tn1_nm (show n.cur.length ≤ 4 by omega) hpos.2, rdF]
  by_cases hn : noteOk n parts
  · rw [if_pos hn, if_neg (by
      intro q
      rcases q with q | q | q
      · simp at q
      · omega
      · exact q hn)]
  · rw [if_neg hn, if_pos (.inr (.inr hn))]
theorem rentry_nil (parts : Int) : rentry [] parts = none := rfl
end Go.Proofs.Ytcifdianinbkeaa.Lg
set_option linter.unusedVariables false
set_option linter.unusedSimpArgs false
namespace Go.Proofs.Ytcifdianinbkeaa.Lg
open Go Go.RowKit Go.Proofs.Ytcifdianinbkeaa.WirePure
theorem takeK {l l2 : List Int} {i : Nat} (h : i < l.length) : l.take (i + 1) = l.take i ++ [l.getD i 0] := by
  rw [List.take_succ_eq_append_getElem h, List.getD_eq_getElem?_getD, List.getElem?_eq_getElem h]; rfl
theorem flatKI_one (l : List Int) : ∀ u ∈ KI.flat l, u.oneCell' = true := by
  intro u hu; rw [El.int_flat] at hu; obtain ⟨x, _, rfl⟩ := List.mem_map.1 hu; rfl
theorem lenKI {w : World} {A : Option Addr} {n c : Nat} {l : List Int} (h : Rd w A n c 1 (KI.flat l)) : l.length = n := by have := h.len; rw [El.flat_length] at this; simpa [El.int] using this
theorem Nums_ok (w : World) (A : Option Addr) (n c : Nat) (l : List Int) (hr : Rd w A n c 1 (KI.flat l)) (hn : n * 10 + 20 ≤ 140737488355328) (hw : ∀ x ∈ l, 0 ≤ x ∧ x ≤ 256) :
    Calls Try.prog 82 [.slice A n c].toArray w (Ret (fun v' w' => ∃ A' c', v' = .tuple #[.slice A' (nm l).length c', .int .i64 0] ∧ Sat w w' [Own 5 1 (.slice A' (nm l).length c') (nm l).length (bytesV (nm l))])) :=
  (Nums_c w A n c l hr hn (fun x hx => by have := hw x hx; omega)).mono fun e w' ⟨v, he, h2⟩ => ⟨v, he, by
    rcases h2 with ⟨⟨x, hx, h0⟩, _⟩ | ⟨_, A', c', rfl, hs⟩
    · exfalso; have := hw x hx; omega
    · exact ⟨A', c', rfl, hs⟩⟩
set_option maxRecDepth 100000 in
set_option maxHeartbeats 1000000 in
theorem within_c (w : World) (x : Int) :
    Calls Try.prog 85 [.int .i64 x].toArray w (Ret (fun v' w' => w = w' ∧ v' = .bool (decide (within x)))) := by
  refine Zb Try.func85 rfl rfl rfl (Zs (Za rfl (Zt (Zm rfl (Zr (run_geq rfl rfl) rfl (Zm rfl (Ls_partP (t := 5) rfl (fun h1 => ?_) (fun h1 => ?_))))))))
  · refine Zo rfl (Zm rfl (Zo rfl (Zr (run_leq rfl rfl) rfl (Zr (run_pick_t rfl rfl) rfl (Za rfl (Zj (St_ret (Jm_ret1 rfl rfl (⟨_, rfl, rfl, ?_⟩)))))))))
    unfold within
    first | exact congrArg Value.bool (decide_eq_decide.2 (by omega)) | exact congrArg Value.bool (decide_eq_false (by omega)).symm
  refine Zx rfl (Zx rfl (Zr (run_pick_f rfl rfl) rfl (Za rfl (Zj (St_ret (Jm_ret1 rfl rfl (⟨_, rfl, rfl, ?_⟩)))))))
  unfold within
  first | exact congrArg Value.bool (decide_eq_decide.2 (by omega)) | exact congrArg Value.bool (decide_eq_false (by omega)).symm
set_option maxRecDepth 100000 in
set_option maxHeartbeats 1000000 in
theorem Forward_c (w : World) (A : Option Addr) (n c : Nat) (l : List Int) (A2 : Option Addr) (n2 c2 : Nat) (l2 : List Int) (hr : Rd w A n c 1 (KI.flat l)) (hr2 : Rd w A2 n2 c2 1 (KI.flat l2)) (hn : n ≤ 9223372036854775807) :
    Calls Try.prog 19 [.slice A n c, .slice A2 n2 c2].toArray w (Ret (fun v' w' => v' = .bool (decide (fwd l l2)) ∧ Sat w w' [])) := by
  have hs := Sat.start w
  have hl := lenKI hr
  have hl2 := lenKI hr2
  refine Zb Try.func19 rfl rfl rfl (Zs (Za rfl (Zj (St_seq (Zs (Zm rfl (Zr (run_len un25 rfl) rfl (Zm rfl (Zr (run_len un25 rfl) rfl (Zr (run_neq rfl rfl) rfl (Zj (St_ifP rfl (fun h1 => ?_) (fun h1 => ?_)))))))))))))
  · refine Zs (Za rfl (Zj (St_ret (Jm_then_ret (Jm_ret1 rfl rfl ?_)))))
    exact ⟨_, rfl, by rw [decide_eq_false (fun q => by have := q.1; omega)], hs⟩
  refine St_skip (Zq (St_seq (Zs (Zm rfl (Zr (run_len un25 rfl) rfl (Zm rfl (Zj (St_block ?_))))))))
  obtain ⟨En2, hEn2⟩ := ex1 fun (i : Nat) => ([(1, .slice A2 n2 c2), (12, .slice A n c), (13, .int .i64 (n : Int)), (14, .int .i64 (i : Int))] : Env)
  obtain ⟨Iv3, hIv3⟩ := ew1 fun (i : Nat) (wr : World) => Sat w wr [] ∧ i ≤ n ∧ n = n2 ∧ ∀ q, q < i → l.getD q 0 ≤ l2.getD q 0
  obtain ⟨ms4, hms4⟩ := ex1 fun (i : Nat) => (n - i : Nat)
  refine St_loop En2 Iv3 ms4 (0) ?_ ?_ ?_
  · rw [hIv3]
    exact ⟨hs, by omega, by omega, fun q hq => by omega⟩
  · rw [hEn2]; exact sE ⟨rfl, rfl, rfl, rfl, trivial⟩
  rintro i wr hI5
  rw [hIv3] at hI5
  obtain ⟨hs, hi, hnn, hle⟩ := hI5
  refine St_eqE (hEn2 _) (Zs (Zr (run_lss rfl rfl) rfl (Zj (St_seq (St_ifP rfl (fun h6 => ?_) (fun h6 => ?_))))))
  · refine St_skip (Zq (St_seq (St_block (Zs (Zm rfl (Ls_index (KI) (hr.inB hs) un25 inf3 rfl rfl (by omega) (by omega) (show _ = l.getD i 0 from rfl) rfl (fun b7 o8 hc9 => (Zl sc3 rfl (hc9 0 _ rfl) (Za rfl (Za rfl (Zt (Zm rfl (Zm rfl (Ls_index (KI) (hr2.inB hs) un25 inf3 rfl rfl (by omega) (by omega) (show _ = l2.getD i 0 from rfl) rfl (fun b10 o11 hc12 => (Zl sc3 rfl (hc12 0 _ rfl) (Zm rfl (Zr (run_lss rfl rfl) rfl (Zj (St_ifP rfl (fun h13 => ?_) (fun h13 => ?_)))))))))))))))))))))
    · refine Zs (Za rfl (Zj (St_ret (Jm_block_ret (Jm_then_ret (Jm_then_ret (Jm_block_ret (Jm_then_ret (Jm_ret1 rfl rfl ?_)))))))))
      exact ⟨_, rfl, by rw [decide_eq_false (fun q => by have := q.2 i (by omega); omega)], hs⟩
    refine St_skip (Jm_block_normal (Zq (St_region (Zr (run_add rfl rfl (w64 (by omega))) rfl (Zm rfl (Ls_nil (Jm_round (i + 1) ?_ ?_ ?_)))))))
    · rw [hEn2]; exact sE ⟨rfl, rfl, rfl, rfl, trivial⟩
    · rw [hIv3]
      refine ⟨hs, by omega, hnn, fun q hq => ?_⟩
      by_cases e : q = i
      · subst e; omega
      · exact hle q (by omega)
    rw [hms4, hms4]
    omega
  refine St_exit (Jm_then_exit (Jm_then_exit (Jm_block_same (Zq (Zs (Za rfl (Zj (St_ret (Jm_ret1 rfl rfl ?_)))))))))
  exact ⟨_, rfl, by rw [decide_eq_true ⟨by omega, fun q hq => hle q (by omega)⟩], hs⟩
set_option maxRecDepth 100000 in
set_option maxHeartbeats 1000000 in
theorem EqualI_c (w : World) (A : Option Addr) (n c : Nat) (l : List Int) (A2 : Option Addr) (n2 c2 : Nat) (l2 : List Int) (hr : Rd w A n c 1 (KI.flat l)) (hr2 : Rd w A2 n2 c2 1 (KI.flat l2)) (hn : n ≤ 9223372036854775807) :
    Calls Try.prog 65 [.slice A n c, .slice A2 n2 c2].toArray w (Ret (fun v' w' => v' = .bool (decide (l = l2)) ∧ Sat w w' [])) := by
  have hs := Sat.start w
  have hl := lenKI hr
  have hl2 := lenKI hr2
  refine Zb Try.func65 rfl rfl rfl (Zs (Za rfl (Zj (St_seq (Zs (Zm rfl (Zr (run_len un25 rfl) rfl (Zm rfl (Zr (run_len un25 rfl) rfl (Zr (run_neq rfl rfl) rfl (Zj (St_ifP rfl (fun h1 => ?_) (fun h1 => ?_)))))))))))))
  · refine Zs (Za rfl (Zj (St_ret (Jm_then_ret (Jm_ret1 rfl rfl ?_)))))
    exact ⟨_, rfl, by rw [decide_eq_false (fun q => by subst q; omega)], hs⟩
  refine St_skip (Zq (St_seq (Zs (Zm rfl (Zr (run_len un25 rfl) rfl (Zm rfl (Zj (St_block ?_))))))))
  obtain ⟨En2, hEn2⟩ := ex1 fun (i : Nat) => ([(0, .slice A n c), (1, .slice A2 n2 c2), (12, .int .i64 (n : Int)), (13, .int .i64 (i : Int))] : Env)
  obtain ⟨Iv3, hIv3⟩ := ew1 fun (i : Nat) (wr : World) => Sat w wr [] ∧ i ≤ n ∧ n = n2 ∧ l.take i = l2.take i
  obtain ⟨ms4, hms4⟩ := ex1 fun (i : Nat) => (n - i : Nat)
  refine St_loop En2 Iv3 ms4 (0) ?_ ?_ ?_
  · rw [hIv3]
    exact ⟨hs, by omega, by omega, rfl⟩
  · rw [hEn2]; exact sE ⟨rfl, rfl, rfl, rfl, trivial⟩
  rintro i wr hI5
  rw [hIv3] at hI5
  obtain ⟨hs, hi, hnn, heqt⟩ := hI5
  refine St_eqE (hEn2 _) (Zs (Zr (run_lss rfl rfl) rfl (Zj (St_seq (St_ifP rfl (fun h6 => ?_) (fun h6 => ?_))))))
  · refine St_skip (Zq (St_seq (St_block (Zs (Zm rfl (Za rfl (Zj (St_seq (St_draw (fun x => Below wr.heap.size wr x) mixed (fun w7 q8 => ?_))))))))))
    have hH := q8.below
    replace hs := hs.quiet q8
    refine An_grow hH ?_
    replace hH := Below.refl w7.heap.size w7
    refine Ym hH 0 rfl (by kernel_rfl) rfl (Ym hH 1 rfl (by kernel_rfl) rfl (An_index 2  (KI) rfl (by kernel_rfl) (by kernel_rfl) (by kernel_rfl) (fun _ _ _ _ h => h) hH (fun x hx => ((hr.inB hs).grow hx)) un25 inf3 rfl rfl (by omega) (by omega) (show _ = l.getD i 0 from rfl) rfl (fun b9 o10 hc11 => (Ya hH 3 rfl (by kernel_rfl) (fun x hx => run_load sc3 rfl ((hc11 x hx) 0 _ rfl)) (Ym hH 4 rfl (by kernel_rfl) rfl (Ym hH 5 rfl (by kernel_rfl) rfl (An_index 6  (KI) rfl (by kernel_rfl) (by kernel_rfl) (by kernel_rfl) (fun _ _ _ _ h => h) hH (fun x hx => ((hr2.inB hs).grow hx)) un25 inf3 rfl rfl (by omega) (by omega) (show _ = l2.getD i 0 from rfl) rfl (fun b12 o13 hc14 => (Ya hH 7 rfl (by kernel_rfl) (fun x hx => run_load sc3 rfl ((hc14 x hx) 0 _ rfl)) (Ya hH 8 rfl (by kernel_rfl) (fun x hx => run_neq rfl rfl) (An_done (by kernel_rfl) (Zq (St_ifP rfl (fun h15 => ?_) (fun h15 => ?_))))))))))))))
    · refine Zs (Za rfl (Zj (St_ret (Jm_block_ret (Jm_then_ret (Jm_then_ret (Jm_block_ret (Jm_then_ret (Jm_ret1 rfl rfl ?_)))))))))
      exact ⟨_, rfl, by rw [decide_eq_false (fun q => by subst q; omega)], hs⟩
    refine St_skip (Jm_block_normal (Zq (St_region (Zr (run_add rfl rfl (w64 (by omega))) rfl (Zm rfl (Ls_nil (Jm_round (i + 1) ?_ ?_ ?_)))))))
    · rw [hEn2]; exact sE ⟨rfl, rfl, rfl, rfl, trivial⟩
    · rw [hIv3]
      refine ⟨hs, by omega, hnn, ?_⟩
      rw [takeK (l2 := l) (by omega), takeK (l2 := l) (by omega), heqt]
      congr 2; omega
    rw [hms4, hms4]
    omega
  refine St_exit (Jm_then_exit (Jm_then_exit (Jm_block_same (Zq (Zs (Za rfl (Zj (St_ret (Jm_ret1 rfl rfl ?_)))))))))
  have hi9 : i = n := by omega
  rw [List.take_of_length_le (by omega), List.take_of_length_le (by omega)] at heqt
  exact ⟨_, rfl, by rw [decide_eq_true heqt], hs⟩
set_option maxRecDepth 100000 in
set_option maxHeartbeats 1000000 in
theorem CloneI_c (w : World) (A : Option Addr) (n c : Nat) (l : List Int) (hr : Rd w A n c 1 (KI.flat l)) (hn : n ≤ 1073741824) :
    Calls Try.prog 36 [.slice A n c].toArray w (Ret (fun v' w' => ∃ A' c', v' = .slice A' n c' ∧ Sat w w' [Own 3 1 v' n (KI.flat l)])) := by
  have hs := Sat.start w
  have hl := lenKI hr
  have hnc := hr.cap
  refine Zb Try.func36 rfl rfl rfl (Zs (Za rfl (Zj (St_seq (Zs (Zm rfl (Zr (run_eql_slice_nil un25 rfl rfl) rfl (Zj (St_if rfl (fun h1 => ?_) (fun h1 => ?_))))))))))
  · refine Zs (Za rfl (Zj (St_ret (Jm_then_ret (Jm_ret1 rfl rfl ?_)))))
    have hA : A = none := by simpa using h1
    have hc := hr.nil hA
    have hn0 : n = 0 := by omega
    have hl0 : l = [] := List.eq_nil_of_length_eq_zero (by omega)
    subst hA hn0 hl0
    exact ⟨_, rfl, _, _, rfl, hs.own_nil _ _⟩
  refine St_skip (Zq (Zs (Ls_literal [] hs un25 inf3 rfl rfl rfl rfl rfl rfl (fun b2 w3 hs => ?_))))
  simp only [List.flatMap_cons, List.flatMap_nil, Value.cells, List.cons_append, List.nil_append] at hs
  replace hs := Sat.own_block hs 1 0 rfl (by decide)
  refine Zm rfl (Ls_append hs un25 inf3 rfl (by decide) (by decide) rfl rfl (hr.inB hs) (flatKI_one _) (by omega) rfl (fun A4 c5 w6 hs => (Za rfl (Zj (St_ret (Jm_ret1 rfl rfl ?_))))))
  simp only [Nat.zero_add, List.nil_append] at hs ⊢
  exact ⟨_, rfl, _, _, rfl, hs⟩
set_option maxRecDepth 100000 in
set_option maxHeartbeats 1000000 in
theorem isNote_c (w : World) (n : NSt) (Ap : Option Addr) (cp : Nat) (Ac : Option Addr) (cc : Nat) (hrp : Rd w Ap n.prev.length cp 1 (KI.flat n.prev)) (hrc : Rd w Ac n.cur.length cc 1 (KI.flat n.cur)) (hz : n.prev.length ≤ 9223372036854775807 ∧ n.cur.length ≤ 9223372036854775807) (parts : Int) :
    Calls Try.prog 74 [.agg #[.int .i64 n.batch, .slice Ap n.prev.length cp, .slice Ac n.cur.length cc, .int .i64 n.att], .int .i64 parts].toArray w (Ret (fun v' w' => v' = .bool (decide (noteOk n parts)) ∧ Sat w w' [])) := by
  have hs := Sat.start w
  refine Zb Try.func74 rfl rfl rfl (Zs (Ls_box hs rfl rfl (fun b2 w1 hs => (Za rfl (Zt (Zf un53 inf51 rfl 0 rfl (Zr (run_load_agg agg51 inf51 rfl rfl (hs.blk_cells 0 rfl 0 3)) rfl (Ls_alloc hs inf51 rfl (fun b4 w3 hs => (Ls_storeAgg hs inf51 rfl rfl rfl rfl (by simp [Value.oneCell', Value.cells]) (fun w5 hs => (Zj (St_seq (Zs (Zf un51 inf3 rfl 0 rfl (Zl sc3 rfl (hs.blk_at 0 rfl 0 rfl) (Zc fn85 rfl (within_c w5 n.batch) rfl ?_)))))))))))))))))
  rintro v6 w7 ⟨rfl, rfl⟩
  refine Zr (run_not rfl) rfl (Zm rfl (Ls_partN (t := 14) rfl (fun h8 => ?_) (fun h8 => ?_)))
  · refine Zx rfl (Zx rfl (Zx rfl (Zx rfl (Zr (run_pick_t rfl rfl) rfl (Zm rfl (Zx rfl (Zx rfl (Zx rfl (Zx rfl (Zx rfl (Zr (run_pick_t rfl rfl) rfl (Zm rfl (Zx rfl (Zx rfl (Zx rfl (Zx rfl (Zx rfl (Zx rfl (Zr (run_pick_t rfl rfl) rfl (Zj (St_ift rfl (Zs (Za rfl (Zj (St_ret (Jm_then_ret (Jm_ret1 rfl rfl ?_)))))))))))))))))))))))))))
    first
    | exact ⟨_, rfl, congrArg Value.bool (decide_eq_false (fun q => by first | exact absurd q.1 (by assumption) | exact absurd q.2.1 (by assumption) | exact absurd q.2.2.1 (by assumption) | exact absurd q.2.2.2.1 (by assumption))).symm, hs.forget⟩
    | exact ⟨_, rfl, congrArg Value.bool (decide_eq_false (fun q => by have q1 := q.2.2.2.2 i (by omega); unfold endOk at q1; omega)).symm, hs.forget⟩
    | exact ⟨_, rfl, congrArg Value.bool (decide_eq_true ⟨hpre.1, hpre.2.1, hpre.2.2.1, hpre.2.2.2, fun q hq => hen q (by omega)⟩).symm, hs.forget⟩
  refine Zo rfl (Zf un53 inf3 rfl 3 rfl (Zo rfl (Zl sc3 rfl (hs.blk_at 1 rfl 3 rfl) (Zo rfl (Zc fn85 rfl (within_c w5 n.att) rfl ?_)))))
  rintro v10 w11 ⟨rfl, rfl⟩
  refine Zo rfl (Zr (run_not rfl) rfl (Zr (run_pick_f rfl rfl) rfl (Zm rfl (Ls_partN (t := 20) rfl (fun h12 => ?_) (fun h12 => ?_)))))
  · refine Zx rfl (Zx rfl (Zx rfl (Zx rfl (Zx rfl (Zr (run_pick_t rfl rfl) rfl (Zm rfl (Zx rfl (Zx rfl (Zx rfl (Zx rfl (Zx rfl (Zx rfl (Zr (run_pick_t rfl rfl) rfl (Zj (St_ift rfl (Zs (Za rfl (Zj (St_ret (Jm_then_ret (Jm_ret1 rfl rfl ?_)))))))))))))))))))))
    first
    | exact ⟨_, rfl, congrArg Value.bool (decide_eq_false (fun q => by first | exact absurd q.1 (by assumption) | exact absurd q.2.1 (by assumption) | exact absurd q.2.2.1 (by assumption) | exact absurd q.2.2.2.1 (by assumption))).symm, hs.forget⟩
    | exact ⟨_, rfl, congrArg Value.bool (decide_eq_false (fun q => by have q1 := q.2.2.2.2 i (by omega); unfold endOk at q1; omega)).symm, hs.forget⟩
    | exact ⟨_, rfl, congrArg Value.bool (decide_eq_true ⟨hpre.1, hpre.2.1, hpre.2.2.1, hpre.2.2.2, fun q hq => hen q (by omega)⟩).symm, hs.forget⟩
  refine Zo rfl (Zf un51 inf25 rfl 1 rfl (Zo rfl (Zl sc25 rfl (hs.blk_at 0 rfl 1 rfl) (Zo rfl (Zr (run_len un25 rfl) rfl (Zo rfl (Zm rfl (Zo rfl (Zr (run_neq rfl rfl) rfl (Zr (run_pick_f rfl rfl) rfl (Zm rfl (Ls_partP (t := 27) rfl (fun h14 => ?_) (fun h14 => ?_)))))))))))))
  · refine Zx rfl (Zx rfl (Zx rfl (Zx rfl (Zx rfl (Zx rfl (Zr (run_pick_t rfl rfl) rfl (Zj (St_ift rfl (Zs (Za rfl (Zj (St_ret (Jm_then_ret (Jm_ret1 rfl rfl ?_))))))))))))))
    first
    | exact ⟨_, rfl, congrArg Value.bool (decide_eq_false (fun q => by first | exact absurd q.1 (by assumption) | exact absurd q.2.1 (by assumption) | exact absurd q.2.2.1 (by assumption) | exact absurd q.2.2.2.1 (by assumption))).symm, hs.forget⟩
    | exact ⟨_, rfl, congrArg Value.bool (decide_eq_false (fun q => by have q1 := q.2.2.2.2 i (by omega); unfold endOk at q1; omega)).symm, hs.forget⟩
    | exact ⟨_, rfl, congrArg Value.bool (decide_eq_true ⟨hpre.1, hpre.2.1, hpre.2.2.1, hpre.2.2.2, fun q hq => hen q (by omega)⟩).symm, hs.forget⟩
  refine Zo rfl (Zf un51 inf25 rfl 1 rfl (Zo rfl (Zl sc25 rfl (hs.blk_at 0 rfl 1 rfl) (Zo rfl (Zf un51 inf25 rfl 2 rfl (Zo rfl (Zl sc25 rfl (hs.blk_at 0 rfl 2 rfl) (Zo rfl (Zc fn19 rfl (Forward_c w5 _ _ _ n.prev _ _ _ n.cur (hrp.inB hs) (hrc.inB hs) (by omega)) rfl ?_)))))))))
  rintro v16 w17 ⟨rfl, hsF⟩
  replace hs := hs.T hsF
  refine Zo rfl (Zr (run_not rfl) rfl (Zr (run_pick_f rfl rfl) rfl (Zj (St_ifN rfl (fun h18 => ?_) (fun h18 => ?_)))))
  · refine Zs (Za rfl (Zj (St_ret (Jm_then_ret (Jm_ret1 rfl rfl ?_)))))
    first
    | exact ⟨_, rfl, congrArg Value.bool (decide_eq_false (fun q => by first | exact absurd q.1 (by assumption) | exact absurd q.2.1 (by assumption) | exact absurd q.2.2.1 (by assumption) | exact absurd q.2.2.2.1 (by assumption))).symm, hs.forget⟩
    | exact ⟨_, rfl, congrArg Value.bool (decide_eq_false (fun q => by have q1 := q.2.2.2.2 i (by omega); unfold endOk at q1; omega)).symm, hs.forget⟩
    | exact ⟨_, rfl, congrArg Value.bool (decide_eq_true ⟨hpre.1, hpre.2.1, hpre.2.2.1, hpre.2.2.2, fun q hq => hen q (by omega)⟩).symm, hs.forget⟩
  refine St_skip (Zq (St_seq (Zs (Zf un51 inf25 rfl 2 rfl (Zl sc25 rfl (hs.blk_at 0 rfl 2 rfl) (Zr (run_len un25 rfl) rfl (Zm rfl (Zj (St_block ?_)))))))))
  replace hs := hs.E1
  obtain ⟨En19, hEn19⟩ := ex1 fun (i : Nat) => ([(36, .slice Ac n.cur.length cc), (37, .int .i64 (n.cur.length : Int)), (38, .int .i64 (i : Int)), (5, .pointer (some ⟨b4, 0, none⟩))] : Env)
  obtain ⟨Iv20, hIv20⟩ := ew1 fun (i : Nat) (wr : World) => Sat w wr [Blk b4 [.int .i64 n.batch, .slice Ap n.prev.length cp, .slice Ac n.cur.length cc] 51] ∧ i ≤ n.cur.length ∧ (within n.batch ∧ within n.att ∧ (n.prev.length : Int) = parts ∧ fwd n.prev n.cur) ∧ ∀ q, q < i → endOk n q
  obtain ⟨ms21, hms21⟩ := ex1 fun (i : Nat) => (n.cur.length - i : Nat)
  refine St_loop En19 Iv20 ms21 (0) ?_ ?_ ?_
  · rw [hIv20]
    refine ⟨hs, by omega, ⟨?_, ?_, ?_, ?_⟩, fun q hq => by omega⟩ <;> first | assumption | omega | (apply Decidable.not_not.1; assumption)
  · rw [hEn19]; exact sE ⟨rfl, rfl, rfl, rfl, trivial⟩
  rintro i wr hI22
  rw [hIv20] at hI22
  obtain ⟨hs, hi, hpre, hen⟩ := hI22
  refine St_eqE (hEn19 _) ?_
  have hfl := hpre.2.2.2.1
  refine Zs (Zr (run_lss rfl rfl) rfl (Zj (St_seq (St_ifP rfl (fun h23 => ?_) (fun h23 => ?_)))))
  · refine St_skip (Zq (St_seq (St_block (Zs (Zm rfl (Ls_index (KI) (hrc.inB hs) un25 inf3 rfl rfl (by omega) (by omega) (show _ = n.cur.getD i 0 from rfl) rfl (fun b24 o25 hc26 => (Zl sc3 rfl (hc26 0 _ rfl) (Za rfl (Za rfl (Zt (Zf un51 inf25 rfl 1 rfl (Zl sc25 rfl (hs.blk_at 0 rfl 1 rfl) (Zm rfl (Ls_index (KI) (hrp.inB hs) un25 inf3 rfl rfl (by omega) (by omega) (show _ = n.prev.getD i 0 from rfl) rfl (fun b27 o28 hc29 => (Zl sc3 rfl (hc29 0 _ rfl) (Zr (run_lss rfl rfl) rfl (Zm rfl (Ls_partP (t := 49) rfl (fun h30 => ?_) (fun h30 => ?_)))))))))))))))))))))
    · refine Zx rfl (Zx rfl (Zr (run_pick_t rfl rfl) rfl (Zm rfl (Zx rfl (Zx rfl (Zx rfl (Zx rfl (Zu rfl (Zu rfl (Zx rfl (Zr (run_pick_t rfl rfl) rfl (Zj (St_ift rfl (Zs (Za rfl (Zj (St_ret (Jm_block_ret (Jm_then_ret (Jm_then_ret (Jm_block_ret (Jm_then_ret (Jm_ret1 rfl rfl ?_)))))))))))))))))))))))
      first
      | exact ⟨_, rfl, congrArg Value.bool (decide_eq_false (fun q => by first | exact absurd q.1 (by assumption) | exact absurd q.2.1 (by assumption) | exact absurd q.2.2.1 (by assumption) | exact absurd q.2.2.2.1 (by assumption))).symm, hs.forget⟩
      | exact ⟨_, rfl, congrArg Value.bool (decide_eq_false (fun q => by have q1 := q.2.2.2.2 i (by omega); unfold endOk at q1; omega)).symm, hs.forget⟩
      | exact ⟨_, rfl, congrArg Value.bool (decide_eq_true ⟨hpre.1, hpre.2.1, hpre.2.2.1, hpre.2.2.2, fun q hq => hen q (by omega)⟩).symm, hs.forget⟩
    refine Zo rfl (Zm rfl (Zo rfl (Zr (run_gtr rfl rfl) rfl (Zr (run_pick_f rfl rfl) rfl (Zm rfl (Ls_partP (t := 53) rfl (fun h32 => ?_) (fun h32 => ?_)))))))
    · refine Zx rfl (Zx rfl (Zx rfl (Zx rfl (Zu rfl (Zu rfl (Zx rfl (Zr (run_pick_t rfl rfl) rfl (Zj (St_ift rfl (Zs (Za rfl (Zj (St_ret (Jm_block_ret (Jm_then_ret (Jm_then_ret (Jm_block_ret (Jm_then_ret (Jm_ret1 rfl rfl ?_)))))))))))))))))))
      first
      | exact ⟨_, rfl, congrArg Value.bool (decide_eq_false (fun q => by first | exact absurd q.1 (by assumption) | exact absurd q.2.1 (by assumption) | exact absurd q.2.2.1 (by assumption) | exact absurd q.2.2.2.1 (by assumption))).symm, hs.forget⟩
      | exact ⟨_, rfl, congrArg Value.bool (decide_eq_false (fun q => by have q1 := q.2.2.2.2 i (by omega); unfold endOk at q1; omega)).symm, hs.forget⟩
      | exact ⟨_, rfl, congrArg Value.bool (decide_eq_true ⟨hpre.1, hpre.2.1, hpre.2.2.1, hpre.2.2.2, fun q hq => hen q (by omega)⟩).symm, hs.forget⟩
    refine Zo rfl (Zf un51 inf3 rfl 0 rfl (Zo rfl (Zl sc3 rfl (hs.blk_at 0 rfl 0 rfl) (Zo rfl (Zr (run_eql rfl rfl) rfl (Zo rfl (Zm rfl (Ls_partP (t := 57) rfl (fun h34 => ?_) (fun h34 => ?_)))))))))
    · refine Zo rfl (Zm rfl (Zo rfl (Zr (run_neq rfl rfl) rfl (Zo rfl (Zr (run_pick_t rfl rfl) rfl (Zr (run_pick_f rfl rfl) rfl (Zj (St_ifP rfl (fun h35 => ?_) (fun h35 => ?_)))))))))
      · refine Zs (Za rfl (Zj (St_ret (Jm_block_ret (Jm_then_ret (Jm_then_ret (Jm_block_ret (Jm_then_ret (Jm_ret1 rfl rfl ?_)))))))))
        first
        | exact ⟨_, rfl, congrArg Value.bool (decide_eq_false (fun q => by first | exact absurd q.1 (by assumption) | exact absurd q.2.1 (by assumption) | exact absurd q.2.2.1 (by assumption) | exact absurd q.2.2.2.1 (by assumption))).symm, hs.forget⟩
        | exact ⟨_, rfl, congrArg Value.bool (decide_eq_false (fun q => by have q1 := q.2.2.2.2 i (by omega); unfold endOk at q1; omega)).symm, hs.forget⟩
        | exact ⟨_, rfl, congrArg Value.bool (decide_eq_true ⟨hpre.1, hpre.2.1, hpre.2.2.1, hpre.2.2.2, fun q hq => hen q (by omega)⟩).symm, hs.forget⟩
      refine St_skip (Jm_block_normal (Zq (St_region (Zr (run_add rfl rfl (w64 (by omega))) rfl (Zm rfl (Ls_nil (Jm_round (i + 1) ?_ ?_ ?_)))))))
      · rw [hEn19]; exact sE ⟨rfl, rfl, rfl, rfl, trivial⟩
      · rw [hIv20]
        refine ⟨hs, by omega, hpre, fun q hq => ?_⟩
        by_cases e : q = i
        · subst e; refine ⟨by omega, by omega, fun h0 => ?_⟩; omega
        · exact hen q (by omega)
      rw [hms21, hms21]
      omega
    refine Zx rfl (Zx rfl (Zo rfl (Zr (run_pick_f rfl rfl) rfl (Zr (run_pick_f rfl rfl) rfl (Zj (St_iff rfl (St_skip (Jm_block_normal (Zq (St_region (Zr (run_add rfl rfl (w64 (by omega))) rfl (Zm rfl (Ls_nil (Jm_round (i + 1) ?_ ?_ ?_))))))))))))))
    · rw [hEn19]; exact sE ⟨rfl, rfl, rfl, rfl, trivial⟩
    · rw [hIv20]
      refine ⟨hs, by omega, hpre, fun q hq => ?_⟩
      by_cases e : q = i
      · subst e; refine ⟨by omega, by omega, fun h0 => ?_⟩; omega
      · exact hen q (by omega)
    rw [hms21, hms21]
    omega
  refine St_exit (Jm_then_exit (Jm_then_exit (Jm_block_same (Zq (Zs (Za rfl (Zj (St_ret (Jm_ret1 rfl rfl ?_)))))))))
  first
  | exact ⟨_, rfl, congrArg Value.bool (decide_eq_false (fun q => by first | exact absurd q.1 (by assumption) | exact absurd q.2.1 (by assumption) | exact absurd q.2.2.1 (by assumption) | exact absurd q.2.2.2.1 (by assumption))).symm, hs.forget⟩
  | exact ⟨_, rfl, congrArg Value.bool (decide_eq_false (fun q => by have q1 := q.2.2.2.2 i (by omega); unfold endOk at q1; omega)).symm, hs.forget⟩
  | exact ⟨_, rfl, congrArg Value.bool (decide_eq_true ⟨hpre.1, hpre.2.1, hpre.2.2.1, hpre.2.2.2, fun q hq => hen q (by omega)⟩).symm, hs.forget⟩
set_option maxRecDepth 100000 in
set_option maxHeartbeats 1000000 in
theorem jcopied_c (w : World) (n : NSt) (Ap : Option Addr) (cp : Nat) (Ac : Option Addr) (cc : Nat) (hrp : Rd w Ap n.prev.length cp 1 (KI.flat n.prev)) (hrc : Rd w Ac n.cur.length cc 1 (KI.flat n.cur)) (hz : n.prev.length ≤ 1073741824 ∧ n.cur.length ≤ 1073741824) :
    Calls Try.prog 56 [.agg #[.int .i64 n.batch, .slice Ap n.prev.length cp, .slice Ac n.cur.length cc, .int .i64 n.att]].toArray w (Ret (fun v' w' => ∃ Ap' cp' Ac' cc', v' = .agg #[.int .i64 n.batch, .slice Ap' n.prev.length cp', .slice Ac' n.cur.length cc', .int .i64 n.att] ∧ Sat w w' [Own 3 1 (.slice Ap' n.prev.length cp') n.prev.length (KI.flat n.prev), Own 3 1 (.slice Ac' n.cur.length cc') n.cur.length (KI.flat n.cur)])) := by
  have hs := Sat.start w
  refine Zb Try.func56 rfl rfl rfl (Zs (Ls_box hs rfl rfl (fun b2 w1 hs => (Ls_alloc hs inf53 rfl (fun b4 w3 hs => (Zj (St_seq (St_drawC 10 (fun x => Below w3.heap.size w3 x) mixed (fun w5 q6 => ?_)))))))))
  have hH := q6.below
  replace hs := hs.quiet q6
  refine AnC_grow hH ?_
  replace hH := Below.refl w5.heap.size w5
  refine Yr (fun _ => hH) 0 rfl (by kernel_rfl) (fun x => run_fd un53 inf51 rfl 0 rfl) (Yr (fun _ => hH) 1 rfl (by kernel_rfl) (fun x => run_fd un51 inf25 rfl 1 rfl) (Yd hH 2 [10, 2] rfl (by kernel_rfl) (fun x hx => run_load sc25 rfl ((hs.grow hx).blk_at 1 rfl 1 rfl)) (Yr (fun _ => hH) 4 rfl (by kernel_rfl) (fun x => run_fd un53 inf51 rfl 0 rfl) (Yr (fun _ => hH) 5 rfl (by kernel_rfl) (fun x => run_fd un51 inf25 rfl 2 rfl) (Yd hH 6 [10, 6] rfl (by kernel_rfl) (fun x hx => run_load sc25 rfl ((hs.grow hx).blk_at 1 rfl 2 rfl)) (AnC_only 3 (by kernel_rfl) rfl (Zc fn36 rfl (CloneI_c w5 _ _ _ n.prev (hrp.inB hs) (by omega)) rfl ?_)))))))
  rintro v7 w9 ⟨Aop, cop, rfl, hsop⟩
  replace hs := hs.T hsop
  replace hH := (hsop.below : Below w5.heap.size w5 w9)
  refine Ls_nil (Jm_AnC (fun _ => hH) (AnC_grow hH ?_))
  replace hH := Below.refl w9.heap.size w9
  refine Yr (fun _ => hH) 8 rfl (by kernel_rfl) (fun x => run_fd un53 inf51 rfl 0 rfl) (Yr (fun _ => hH) 9 rfl (by kernel_rfl) (fun x => run_fd un51 inf25 rfl 1 rfl) (AnC_only 7 (by kernel_rfl) rfl (Zc fn36 rfl (CloneI_c w9 _ _ _ n.cur (hrc.inB hs) (by omega)) rfl ?_)))
  rintro v10 w11 ⟨Aoc, coc, rfl, hsoc⟩
  replace hs := hs.T hsoc
  replace hH := (hsoc.below : Below w9.heap.size w9 w11)
  refine Ls_nil (Jm_AnC (fun _ => hH) (AnC_grow hH ?_))
  replace hH := Below.refl w11.heap.size w11
  refine AnC_only 10 (by kernel_rfl) rfl ?_
  replace hs := hs.F3
  refine Ls_store hs inf25 rfl rfl rfl rfl (fun w12 hs => ?_)
  try simp only [List.set_cons_zero, List.set_cons_succ] at hs
  refine Ls_nil (Jm_AnC_closed (by kernel_rfl) (AnC_switch (H' := fun x => Below w12.heap.size w12 x) 13 (by kernel_rfl) ?_))
  replace hH := Below.refl w12.heap.size w12
  refine Yr (fun _ => hH) 11 rfl (by kernel_rfl) (fun x => run_fd un53 inf51 rfl 0 rfl) (Yr (fun _ => hH) 12 rfl (by kernel_rfl) (fun x => run_fd un51 inf25 rfl 2 rfl) (AnC_only 13 (by kernel_rfl) rfl (Ls_store hs inf25 rfl rfl rfl rfl (fun w13 hs => ?_))))
  try simp only [List.set_cons_zero, List.set_cons_succ] at hs
  refine Ls_nil (Jm_AnC_closed (by kernel_rfl) (AnC_switch (H' := fun x => Below w13.heap.size w13 x) 14 (by kernel_rfl) ?_))
  replace hH := Below.refl w13.heap.size w13
  refine AnC_done (by kernel_rfl) (Zq (Zs (Zr (run_load_agg agg53 inf53 rfl rfl (hs.blk_cells 0 rfl 0 4)) rfl ?_)))
  replace hs := hs.F3
  refine Ls_storeAgg hs inf53 rfl rfl rfl rfl (by simp [Value.oneCell', Value.cells]) (fun w14 hs => (Zj (St_ret (Jm_retC rfl agg53 inf53 rfl rfl (hs.blk_cells 0 rfl 0 4) ?_))))
  replace hs := hs.F2.F3
  exact ⟨_, rfl, Aop, cop, Aoc, coc, rfl, Sat.pre (L1 := [_, _]) hs⟩
set_option maxRecDepth 100000 in
set_option maxHeartbeats 1000000 in
theorem bytes_c (w : World) (n : NSt) (Ap : Option Addr) (cp : Nat) (Ac : Option Addr) (cc : Nat) (hrp : Rd w Ap n.prev.length cp 1 (KI.flat n.prev)) (hrc : Rd w Ac n.cur.length cc 1 (KI.flat n.cur)) (hz : n.prev.length ≤ 1073741824 ∧ n.cur.length ≤ 1073741824) (gen parts : Int) (hok : noteOk n parts) (hp4 : parts ≤ 4) (hg : 0 ≤ gen ∧ gen ≤ 1099511627777) :
    Calls Try.prog 73 [.agg #[.int .i64 n.batch, .slice Ap n.prev.length cp, .slice Ac n.cur.length cc, .int .i64 n.att, .int .i64 gen]].toArray w (Ret (fun v' w' => ∃ A c, v' = .slice A (nbytes gen n).length c ∧ Sat w w' [Own 5 1 (.slice A (nbytes gen n).length c) (nbytes gen n).length (bytesV (nbytes gen n))])) := by
  have hs := Sat.start w
  obtain ⟨hpsnp, hpsnc⟩ := noteOk_pos hok
  have hwb := hok.1
  have hwa := hok.2.1
  unfold within at hwb hwa
  obtain ⟨hl1, hl2⟩ := noteOk_len hok
  refine Zb Try.func73 rfl rfl rfl (Zs (Ls_box hs rfl rfl (fun b2 w1 hs => (Za rfl (Zt (Zf un106 inf53 rfl 0 rfl (Zf un53 inf51 rfl 0 rfl (Zf un51 inf25 rfl 1 rfl (Zl sc25 rfl (hs.blk_at 0 rfl 1 rfl) (Zc fn82 rfl (Nums_ok w1 _ _ _ n.prev (hrp.inB hs) (by omega) hpsnp) rfl ?_))))))))))
  rintro v3 w4 ⟨Anp, cnp, rfl, hsnp⟩
  replace hs := hs.T hsnp
  refine Zm rfl (Zr (run_extract rfl rfl) rfl (Zr (run_extract rfl rfl) rfl (Za rfl (Za rfl (Zt (Zf un106 inf53 rfl 0 rfl (Zf un53 inf51 rfl 0 rfl (Zf un51 inf25 rfl 2 rfl (Zl sc25 rfl (hs.blk_at 1 rfl 2 rfl) (Zc fn82 rfl (Nums_ok w4 _ _ _ n.cur (hrc.inB hs) (by omega) hpsnc) rfl ?_))))))))))
  rintro v5 w6 ⟨Anc, cnc, rfl, hsnc⟩
  replace hs := hs.T hsnc
  refine Zm rfl (Zr (run_extract rfl rfl) rfl (Zr (run_extract rfl rfl) rfl (Za rfl (Za rfl (Zj (St_seq (St_draw (fun x => Below w6.heap.size w6 x) mixed (fun w7 q8 => ?_))))))))
  have hH := q8.below
  replace hs := hs.quiet q8
  refine An_grow hH ?_
  replace hH := Below.refl w7.heap.size w7
  refine Ya hH 0 rfl (by kernel_rfl) (fun x hx => run_fd un106 inf3 rfl 4 rfl) (Ya hH 1 rfl (by kernel_rfl) (fun x hx => run_load sc3 rfl ((hs.grow hx).blk_at 2 rfl 4 rfl)) (Ya hH 2 rfl (by kernel_rfl) (fun x hx => run_conv_int un134 us3 rfl (show _ = ((gen).toNat : Int) by rw [wu64 (by omega)]; omega)) (Ya hH 4 rfl (by kernel_rfl) (fun x hx => run_fd un106 inf53 rfl 0 rfl) (Ya hH 5 rfl (by kernel_rfl) (fun x hx => run_fd un53 inf51 rfl 0 rfl) (Ya hH 6 rfl (by kernel_rfl) (fun x hx => run_fd un51 inf3 rfl 0 rfl) (Ya hH 7 rfl (by kernel_rfl) (fun x hx => run_load sc3 rfl ((hs.grow hx).blk_at 2 rfl 0 rfl)) (Ya hH 8 rfl (by kernel_rfl) (fun x hx => run_conv_int un134 us3 rfl (show _ = ((n.batch).toNat : Int) by rw [wu64 (by omega)]; omega)) (Ya hH 10 rfl (by kernel_rfl) (fun x hx => run_fd un106 inf53 rfl 0 rfl) (Ya hH 11 rfl (by kernel_rfl) (fun x hx => run_fd un53 inf3 rfl 3 rfl) (Ya hH 12 rfl (by kernel_rfl) (fun x hx => run_load sc3 rfl ((hs.grow hx).blk_at 2 rfl 3 rfl)) (Ya hH 13 rfl (by kernel_rfl) (fun x hx => run_conv_int un134 us3 rfl (show _ = ((n.att).toNat : Int) by rw [wu64 (by omega)]; omega)) (Ym hH 15 rfl (by kernel_rfl) rfl (Ym hH 16 rfl (by kernel_rfl) rfl (An_only 3 (by kernel_rfl) rfl (Zc fn84 rfl (Put_c w7 (gen).toNat (by omega)) rfl ?_)))))))))))))))
  rintro v9 w10 ⟨Ap1, cp1, rfl, hsp1⟩
  replace hs := hs.T hsp1
  replace hH := (hsp1.below : Below w7.heap.size w7 w10)
  refine Ls_nil (Jm_An hH (An_grow hH ?_))
  replace hH := Below.refl w10.heap.size w10
  refine An_only 9 (by kernel_rfl) rfl (Zc fn84 rfl (Put_c w10 (n.batch).toNat (by omega)) rfl ?_)
  rintro v11 w12 ⟨Ap2, cp2, rfl, hsp2⟩
  replace hs := hs.T hsp2
  replace hH := (hsp2.below : Below w10.heap.size w10 w12)
  refine Ls_nil (Jm_An hH (An_grow hH ?_))
  replace hH := Below.refl w12.heap.size w12
  refine An_only 14 (by kernel_rfl) rfl (Zc fn84 rfl (Put_c w12 (n.att).toNat (by omega)) rfl ?_)
  rintro v13 w14 ⟨Ap3, cp3, rfl, hsp3⟩
  replace hs := hs.T hsp3
  replace hH := (hsp3.below : Below w12.heap.size w12 w14)
  refine Ls_nil (Jm_An hH (An_grow hH ?_))
  replace hH := Below.refl w14.heap.size w14
  refine An_only 17 (by kernel_rfl) rfl (Ls_literal [_, _, _, _, _] (Sat.start w14) un120 inf125 rfl rfl rfl rfl rfl rfl (fun b15 w16 hsN17 => ?_))
  replace hs := hs.T hsN17
  simp only [List.flatMap_cons, List.flatMap_nil, Value.cells, List.cons_append, List.nil_append] at hs
  replace hH := (hsN17.below : Below w14.heap.size w14 w16)
  refine Ls_nil (Jm_An hH (An_grow hH ?_))
  replace hH := Below.refl w16.heap.size w16
  refine An_only 18 (by kernel_rfl) rfl ?_
  have hnl := nbytes_len hok hp4 hg
  have hsm : ([pb gen.toNat, pb n.batch.toNat, pb n.att.toNat, nm n.prev, nm n.cur].map List.length).sum ≤ 140737488355328 := by rw [← flat_len]; show (nbytes gen n).length ≤ _; omega
  have hrJ := (rd_block (hs.is_at 0 rfl).2 1 5 rfl)
  rw [← El.val_flat [_, _, _, _, _]] at hrJ
  refine Zc fn83 rfl (Join_c w16 _ 5 5 _ [pb gen.toNat, pb n.batch.toNat, pb n.att.toNat, nm n.prev, nm n.cur] hrJ (Parts.cons (hs.rd_at 3 rfl) (Parts.cons (hs.rd_at 2 rfl) (Parts.cons (hs.rd_at 1 rfl) (Parts.cons (hs.rd_at 5 rfl) (Parts.cons (hs.rd_at 4 rfl) (Parts.nil _)))))) hsm (by decide)) rfl ?_
  rintro v18 w19 ⟨Aj, cj, rfl, hsJ⟩
  replace hs := hs.T hsJ
  replace hH := (hsJ.below : Below w16.heap.size w16 w19)
  refine Ls_nil (Jm_An hH (An_grow hH ?_))
  replace hH := Below.refl w19.heap.size w19
  refine Ya hH 19 rfl (by kernel_rfl) (fun x hx => run_assign rfl) (An_done (by kernel_rfl) (Zq (St_ret (Jm_ret1 rfl rfl ?_))))
  exact ⟨_, rfl, _, _, rfl, Sat.pre (L1 := [_]) hs⟩
end Go.Proofs.Ytcifdianinbkeaa.Lg

/-
  The journal's check, Ended, Note, follows, Format. By program (gen/jour2.py).
-/
set_option linter.unusedVariables false
set_option linter.unusedSimpArgs false
namespace Go.Proofs.Ytcifdianinbkeaa.Lg
open Go Go.RowKit Go.Proofs.Ytcifdianinbkeaa.WirePure
theorem bytes_e (w : World) (n : NSt) (Ap : Option Addr) (cp : Nat) (Ac : Option Addr) (cc lp lc : Nat) (h1 : n.prev.length = lp) (h2 : n.cur.length = lc) (hrp : Rd w Ap lp cp 1 (KI.flat n.prev)) (hrc : Rd w Ac lc cc 1 (KI.flat n.cur)) (hz : lp ≤ 1073741824 ∧ lc ≤ 1073741824) (b a gen parts : Int) (hb : n.batch = b) (ha : n.att = a) (hok : noteOk n parts) (hp4 : parts ≤ 4) (hg : 0 ≤ gen ∧ gen ≤ 1099511627777) :
    Calls Try.prog 73 [.agg #[.int .i64 b, .slice Ap lp cp, .slice Ac lc cc, .int .i64 a, .int .i64 gen]].toArray w (Ret (fun v' w' => ∃ A c, v' = .slice A (nbytes gen n).length c ∧ Sat w w' [Own 5 1 (.slice A (nbytes gen n).length c) (nbytes gen n).length (bytesV (nbytes gen n))])) := by
  subst h1 h2 hb ha
  exact bytes_c w n Ap cp Ac cc hrp hrc hz gen parts hok hp4 hg
set_option maxRecDepth 100000 in
set_option maxHeartbeats 1000000 in
theorem jcheck_c (w : World) (b : Nat) (parts : Int) :
    Calls Try.prog 68 [.pointer (some ⟨b, 0, none⟩), .int .i64 parts].toArray w (Ret (fun v' w' => w = w' ∧ v' = .int .i64 (if parts < 1 ∨ 4 < parts then 1 else 0))) := by
  refine Zb Try.func68 rfl rfl rfl (Zs (Za rfl (Zj (St_seq (St_block (Zs (Zm rfl (Zr (run_asB (c := false) (run_eql_ptr_nil un27 rfl rfl) rfl) rfl (Za rfl (Zj (St_iff rfl (Zs (Zm rfl (Zr (run_lss rfl rfl) rfl (Zm rfl (Ls_partP (t := 11) rfl (fun h2 => ?_) (fun h2 => ?_)))))))))))))))))
  · refine Zx rfl (Zx rfl (Zr (run_pick_t rfl rfl) rfl (Za rfl (Zj (St_ift rfl (Zs (Za rfl (Zj (St_ret (Jm_block_ret (Jm_then_ret (Jm_ret1 rfl rfl ?_))))))))))))
    first | (rw [if_pos (by omega)]; exact ⟨_, rfl, rfl, rfl⟩) | (rw [if_neg (by omega)]; exact ⟨_, rfl, rfl, rfl⟩)
  refine Zo rfl (Zm rfl (Zo rfl (Zr (run_gtr rfl rfl) rfl (Zr (run_pick_f rfl rfl) rfl (Za rfl (Zj (St_ifP rfl (fun h4 => ?_) (fun h4 => ?_))))))))
  · refine Zs (Za rfl (Zj (St_ret (Jm_block_ret (Jm_then_ret (Jm_ret1 rfl rfl ?_))))))
    first | (rw [if_pos (by omega)]; exact ⟨_, rfl, rfl, rfl⟩) | (rw [if_neg (by omega)]; exact ⟨_, rfl, rfl, rfl⟩)
  refine St_skip (Jm_block_normal (Zq (Zs (Za rfl (Zj (St_ret (Jm_ret1 rfl rfl ?_)))))))
  first | (rw [if_pos (by omega)]; exact ⟨_, rfl, rfl, rfl⟩) | (rw [if_neg (by omega)]; exact ⟨_, rfl, rfl, rfl⟩)
set_option maxRecDepth 100000 in
set_option maxHeartbeats 1000000 in
theorem Ended_c (w : World) (bj : Nat) (p : Option Addr) (j : JSt) (Ap : Option Addr) (cp : Nat) (Ac : Option Addr) (cc : Nat) (hd : w.heap[bj]? = some (.cells (jcells p j Ap cp Ac cc).toArray 108 (0, 0))) :
    Calls Try.prog 53 [.pointer (some ⟨bj, 0, none⟩)].toArray w (Ret (fun v' w' => w = w' ∧ v' = .bool j.ended)) := by
  have hs := Sat.ofBlk hd
  refine Zb Try.func53 rfl rfl rfl (Zs (Za rfl (Zt (Zm rfl (Zr (run_asB (c := true) (run_neq_ptr_nil un77 rfl rfl) rfl) rfl (Zm rfl (Zo rfl (Zm rfl (Zo rfl (Zk rfl (Zo rfl (Zf un108 inf4 rfl 8 rfl (Zo rfl (Zl sc4 rfl (hs.blk_at 0 rfl 8 rfl) (Zr (run_pick_t rfl rfl) rfl (Za rfl (Zj (St_ret (Jm_ret1 rfl rfl ?_)))))))))))))))))))
  exact ⟨_, rfl, rfl, rfl⟩
theorem Sat.swapL3 {B w : World} {X Y : Assn} {L : List Assn} {bj : Nat} {p : Option Addr} {j : JSt} {Ap : Option Addr} {cp : Nat} {Ac : Option Addr} {cc : Nat} (hs : Sat B w (X :: Y :: Blk bj (jcells p j Ap cp Ac cc) 108 :: Own 3 1 (.slice Ap j.n.prev.length cp) j.n.prev.length (KI.flat j.n.prev) :: Own 3 1 (.slice Ac j.n.cur.length cc) j.n.cur.length (KI.flat j.n.cur) :: L)) : Sat B w (X :: Y :: JA 108 3 bj p j :: L) := by
  have h1 := Sat.jshut (hs.perm (show List.Perm _ (_ :: _ :: _ :: X :: Y :: L) from (List.perm_append_comm (l₁ := [X, Y]) (l₂ := [_, _, _])).append_right L))
  exact h1.perm ((List.perm_append_comm (l₁ := [_]) (l₂ := [X, Y])).append_right L)
set_option maxRecDepth 100000 in
set_option maxHeartbeats 1000000 in
theorem Note_c (B w : World) (L : List Assn) (bj : Nat) (p : Option Addr) (j : JSt) (hs : Sat B w (JA 108 3 bj p j :: L)) (hz : j.n.prev.length ≤ 1073741824 ∧ j.n.cur.length ≤ 1073741824) :
    Calls Try.prog 34 [.pointer (some ⟨bj, 0, none⟩)].toArray w (Ret (fun v' w' => ∃ Ap' cp' Ac' cc', v' = .agg #[.int .i64 j.n.batch, .slice Ap' j.n.prev.length cp', .slice Ac' j.n.cur.length cc', .int .i64 j.n.att] ∧ Sat B w' (Own 3 1 (.slice Ap' j.n.prev.length cp') j.n.prev.length (KI.flat j.n.prev) :: Own 3 1 (.slice Ac' j.n.cur.length cc') j.n.cur.length (KI.flat j.n.cur) :: JA 108 3 bj p j :: L))) := by
  obtain ⟨Ap, cp, Ac, cc, hs⟩ := hs.jopen
  refine Zb Try.func34 rfl rfl rfl (Zs (Ls_alloc hs inf53 rfl (fun b2 w1 hs => (Zj (St_seq (Zs (Zm rfl (Zr (run_asB (c := false) (run_eql_ptr_nil un77 rfl rfl) rfl) rfl (Zj (St_iff rfl (St_skip (Zq (Zs (Zm rfl (Zk rfl (Zf un108 inf106 rfl 2 rfl (Zf un106 inf53 rfl 2 rfl (Zr (run_load_agg agg53 inf53 rfl rfl (hs.blk_cells 1 rfl 2 4)) rfl (Zc fn56 rfl (jcopied_c w1 j.n _ _ _ _ (hs.rd_at 2 rfl) (hs.rd_at 3 rfl) hz) rfl ?_)))))))))))))))))))
  rintro v4 w5 ⟨Ap2, cp2, Ac2, cc2, rfl, hsC⟩
  replace hs := hs.T hsC
  replace hs := hs.F2
  refine Ls_storeAgg hs inf53 rfl rfl rfl rfl (by simp [Value.oneCell', Value.cells, jcells]) (fun w6 hs => (Zj (St_ret (Jm_retC rfl agg53 inf53 rfl rfl (hs.blk_cells 0 rfl 0 4) ?_))))
  replace hs := hs.E0.F4.F4.F4.F4.F4
  have hs9 := Sat.swapL3 hs
  exact ⟨_, rfl, Ap2, cp2, Ac2, cc2, rfl, hs9⟩
set_option maxRecDepth 100000 in
set_option maxHeartbeats 1000000 in
theorem follows_c (B w : World) (L : List Assn) (bj : Nat) (p : Option Addr) (j : JSt) (Ap : Option Addr) (cp : Nat) (Ac : Option Addr) (cc : Nat) (hs : Sat B w (Blk bj (jcells p j Ap cp Ac cc) 108 :: Own 3 1 (.slice Ap j.n.prev.length cp) j.n.prev.length (KI.flat j.n.prev) :: Own 3 1 (.slice Ac j.n.cur.length cc) j.n.cur.length (KI.flat j.n.cur) :: L)) (hz : j.n.prev.length ≤ 1073741824 ∧ j.n.cur.length ≤ 1073741824) (hbt : within j.n.batch) (n : NSt) (Np : Option Addr) (np : Nat) (Nc : Option Addr) (nc : Nat) (hrp : ∀ w' X, Sat B w' (X :: L) → Rd w' Np n.prev.length np 1 (KI.flat n.prev)) (hrc : ∀ w' X, Sat B w' (X :: L) → Rd w' Nc n.cur.length nc 1 (KI.flat n.cur)) (hzn : n.prev.length ≤ 9223372036854775807 ∧ n.cur.length ≤ 9223372036854775807) :
    Calls Try.prog 75 [.pointer (some ⟨bj, 0, none⟩), .agg #[.int .i64 n.batch, .slice Np n.prev.length np, .slice Nc n.cur.length nc, .int .i64 n.att]].toArray w (Ret (fun v' w' => v' = .bool (decide (follows j.n n)) ∧ Sat B w' (Blk bj (jcells p j Ap cp Ac cc) 108 :: Own 3 1 (.slice Ap j.n.prev.length cp) j.n.prev.length (KI.flat j.n.prev) :: Own 3 1 (.slice Ac j.n.cur.length cc) j.n.cur.length (KI.flat j.n.cur) :: L))) := by
  unfold within at hbt
  refine Zb Try.func75 rfl rfl rfl (Zs (Ls_box hs rfl rfl (fun b2 w1 hs => (Za rfl (Zj (St_seq ?_))))))
  obtain ⟨En3, hEn3⟩ := ex2 fun (g5 : Nat) (g6 : Nat) => ([(0, .pointer (some ⟨bj, 0, none⟩)), (3, .pointer (some ⟨b2, 0, none⟩)), (5, .pointer (some ⟨g5, 0, none⟩)), (6, .pointer (some ⟨g6, 0, none⟩))] : Env)
  obtain ⟨Iv4, hIv4⟩ := ew2 fun (g5 : Nat) (g6 : Nat) (w5 : World) => Sat B w5 (Blk g5 [.int .i64 j.n.batch, .slice Ap j.n.prev.length cp, .slice Ac j.n.cur.length cc] 51 :: Blk g6 [.int .i64 n.batch, .slice Np n.prev.length np, .slice Nc n.cur.length nc] 51 :: Blk b2 [.int .i64 n.batch, .slice Np n.prev.length np, .slice Nc n.cur.length nc, .int .i64 n.att] 53 :: Blk bj (jcells p j Ap cp Ac cc) 108 :: Own 3 1 (.slice Ap j.n.prev.length cp) j.n.prev.length (KI.flat j.n.prev) :: Own 3 1 (.slice Ac j.n.cur.length cc) j.n.cur.length (KI.flat j.n.cur) :: L)
  refine St_join En3 Iv4 ?_ ?_
  · replace hs := hs.F1
    refine St_hold (Hold.of (Ls := [_, _]) hs) mixed (fun w6 q7 => ?_)
    replace hs := hs.quiet q7
    have hH := Hold.of (Ls := [_, _]) hs
    refine Ym hH 0 rfl (by kernel_rfl) rfl (Ya hH 1 rfl (by kernel_rfl) (fun x hx => run_nilCheck rfl) (Ya hH 2 rfl (by kernel_rfl) (fun x hx => run_fd un108 inf106 rfl 2 rfl) (Ya hH 3 rfl (by kernel_rfl) (fun x hx => run_fd un106 inf53 rfl 2 rfl) (Ya hH 4 rfl (by kernel_rfl) (fun x hx => run_fd un53 inf51 rfl 2 rfl) (Ya hH 5 rfl (by kernel_rfl) (fun x hx => run_load_agg agg51 inf51 rfl rfl (hx.choose_spec.blk_cells 0 rfl 2 3)) (Ya hH 6 rfl (by kernel_rfl) (fun x hx => run_fd un53 inf51 rfl 0 rfl) (Ya hH 7 rfl (by kernel_rfl) (fun x hx => run_load_agg agg51 inf51 rfl rfl (hx.choose_spec.blk_cells 1 rfl 0 3)) (An_two 8 9 (by kernel_rfl) rfl rfl ?_ ?_))))))))
    · refine Ls_alloc hs inf51 rfl (fun b10 w9 hs => ?_)
      replace hs := hs.F2.F2
      replace hH := Hold.of (Ls := [_, _]) hs
      refine Ls_nil (Jm_An hH (An_only 9 (by kernel_rfl) rfl (Ls_alloc hs inf51 rfl (fun b12 w11 hs => ?_))))
      replace hs := hs.F2.F2
      replace hH := Hold.of (Ls := [_, _]) hs
      refine Ls_nil (Jm_An hH (An_only 10 (by kernel_rfl) rfl ?_))
      replace hs := hs.F3
      refine Ls_storeAgg hs inf51 rfl rfl rfl rfl (by simp [Value.oneCell', Value.cells, jcells]) (fun w13 hs => ?_)
      replace hs := hs.F2.F2
      replace hH := Hold.of (Ls := [_, _]) hs
      refine Ls_nil (Jm_An hH (An_only 11 (by kernel_rfl) rfl ?_))
      replace hs := hs.F3
      refine Ls_storeAgg hs inf51 rfl rfl rfl rfl (by simp [Value.oneCell', Value.cells, jcells]) (fun w14 hs => ?_)
      replace hs := hs.F2.F2
      replace hH := Hold.of (Ls := [_, _]) hs
      refine Ls_nil (Jm_An hH (An_done (by kernel_rfl) ?_))
      replace hs := hs.F5.F5.F2.F3.F4.F5
      refine Jm_join (b10, b12) ?_ ?_
      · rw [hEn3]; exact sE ⟨rfl, rfl, rfl, rfl, trivial⟩
      rw [hIv4]
      exact hs
    refine Ls_alloc hs inf51 rfl (fun b16 w15 hs => ?_)
    replace hs := hs.F2.F2
    replace hH := Hold.of (Ls := [_, _]) hs
    refine Ls_nil (Jm_An hH (An_only 8 (by kernel_rfl) rfl (Ls_alloc hs inf51 rfl (fun b18 w17 hs => ?_))))
    replace hs := hs.F2.F2
    replace hH := Hold.of (Ls := [_, _]) hs
    refine Ls_nil (Jm_An hH (An_only 10 (by kernel_rfl) rfl ?_))
    replace hs := hs.F2
    refine Ls_storeAgg hs inf51 rfl rfl rfl rfl (by simp [Value.oneCell', Value.cells, jcells]) (fun w19 hs => ?_)
    replace hs := hs.F2.F2
    replace hH := Hold.of (Ls := [_, _]) hs
    refine Ls_nil (Jm_An hH (An_only 11 (by kernel_rfl) rfl ?_))
    replace hs := hs.F3
    refine Ls_storeAgg hs inf51 rfl rfl rfl rfl (by simp [Value.oneCell', Value.cells, jcells]) (fun w20 hs => ?_)
    replace hs := hs.F2.F2
    replace hH := Hold.of (Ls := [_, _]) hs
    refine Ls_nil (Jm_An hH (An_done (by kernel_rfl) ?_))
    replace hs := hs.F5.F5.F2.F3.F4.F5
    refine Jm_join (b18, b16) ?_ ?_
    · rw [hEn3]; exact sE ⟨rfl, rfl, rfl, rfl, trivial⟩
    rw [hIv4]
    exact hs
  rintro ⟨g5, g6⟩ w5 hI21
  rw [hIv4] at hI21
  replace hs := hI21
  refine Jm_eqE (hEn3 _ _) (Zq (St_seq (St_block (St_seq (St_draw (fun x => Below w5.heap.size w5 x) mixed (fun w22 q23 => ?_))))))
  have hH := q23.below
  replace hs := hs.quiet q23
  refine An_grow hH ?_
  replace hH := Below.refl w22.heap.size w22
  refine Ya hH 0 rfl (by kernel_rfl) (fun x hx => run_fd un53 inf3 rfl 3 rfl) (Ya hH 1 rfl (by kernel_rfl) (fun x hx => run_load sc3 rfl ((hs.grow hx).blk_at 2 rfl 3 rfl)) (Ym hH 2 rfl (by kernel_rfl) rfl (Ya hH 3 rfl (by kernel_rfl) (fun x hx => run_nilCheck rfl) (Ya hH 4 rfl (by kernel_rfl) (fun x hx => run_fd un108 inf106 rfl 2 rfl) (Ya hH 5 rfl (by kernel_rfl) (fun x hx => run_fd un106 inf53 rfl 2 rfl) (Ya hH 6 rfl (by kernel_rfl) (fun x hx => run_fd un53 inf3 rfl 5 rfl) (Ya hH 7 rfl (by kernel_rfl) (fun x hx => run_load sc3 rfl ((hs.grow hx).blk_at 3 rfl 5 rfl)) (Ya hH 8 rfl (by kernel_rfl) (fun x hx => run_lss rfl rfl) (Ya hH 9 rfl (by kernel_rfl) (fun x hx => run_assign rfl) (An_done (by kernel_rfl) (Zq (St_ifP rfl (fun h24 => ?_) (fun h24 => ?_)))))))))))))
  · refine Zs (Za rfl (Zj (St_ret (Jm_block_ret (Jm_then_ret (Jm_ret1 rfl rfl ?_))))))
    replace hs := hs.E0.E0.E0.F2.F2.F2
    refine ⟨_, rfl, ?_, hs⟩
    first
    | exact congrArg Value.bool (decide_eq_false (fun q => by unfold follows at q; omega)).symm
    | exact congrArg Value.bool (decide_eq_decide.2 (by unfold follows; constructor <;> intro q <;> first | (refine ⟨by omega, .inl ⟨by omega, by assumption, q⟩⟩) | (refine ⟨by omega, .inr ⟨by omega, by omega, q⟩⟩) | (rcases q.2 with q | q <;> first | exact q.2.2 | exact absurd q.1 (by omega))))
    | exact congrArg Value.bool (decide_eq_false (fun q => by rcases q.2 with q | q <;> first | exact absurd q.2.1 (by assumption) | exact absurd q.1 (by omega) | exact absurd q.2.1 (by omega))).symm
  refine Zs (Zf un51 inf3 rfl 0 rfl (Zl sc3 rfl (hs.blk_at 1 rfl 0 rfl) (Zf un51 inf3 rfl 0 rfl (Zl sc3 rfl (hs.blk_at 0 rfl 0 rfl) (Zr (run_eql rfl rfl) rfl (Za rfl (Zj (St_ifP rfl (fun h25 => ?_) (fun h25 => ?_)))))))))
  · refine Zs (Zf un51 inf25 rfl 1 rfl (Zl sc25 rfl (hs.blk_at 1 rfl 1 rfl) (Zf un51 inf25 rfl 1 rfl (Zl sc25 rfl (hs.blk_at 0 rfl 1 rfl) (Zc fn65 rfl (EqualI_c w22 _ _ _ n.prev _ _ _ j.n.prev (Sat.rdL0 (pre := [_, _, _, _, _, _]) hrp hs) (hs.rd_at 4 rfl) (by omega)) rfl ?_)))))
    rintro v26 w27 ⟨rfl, hsE⟩
    replace hs := hs.T hsE
    refine Zm rfl (Ls_partP (t := 36) rfl (fun h28 => ?_) (fun h28 => ?_))
    · refine Zo rfl (Zf un51 inf25 rfl 2 rfl (Zo rfl (Zl sc25 rfl (hs.blk_at 1 rfl 2 rfl) (Zo rfl (Zf un51 inf25 rfl 2 rfl (Zo rfl (Zl sc25 rfl (hs.blk_at 0 rfl 2 rfl) (Zo rfl (Zc fn65 rfl (EqualI_c w27 _ _ _ n.cur _ _ _ j.n.cur (Sat.rdL0 (pre := [_, _, _, _, _, _]) hrc hs) (hs.rd_at 5 rfl) (by omega)) rfl ?_)))))))))
      rintro v29 w30 ⟨rfl, hsE⟩
      replace hs := hs.T hsE
      refine Zr (run_pick_t rfl rfl) rfl (Za rfl (Zj (St_ret (Jm_block_ret (Jm_then_ret (Jm_ret1 rfl rfl ?_))))))
      replace hs := hs.E0.E0.E0.F2.F2.F2
      refine ⟨_, rfl, ?_, hs⟩
      first
      | exact congrArg Value.bool (decide_eq_false (fun q => by unfold follows at q; omega)).symm
      | exact congrArg Value.bool (decide_eq_decide.2 (by unfold follows; constructor <;> intro q <;> first | (refine ⟨by omega, .inl ⟨by omega, by assumption, q⟩⟩) | (refine ⟨by omega, .inr ⟨by omega, by omega, q⟩⟩) | (rcases q.2 with q | q <;> first | exact q.2.2 | exact absurd q.1 (by omega))))
      | exact congrArg Value.bool (decide_eq_false (fun q => by rcases q.2 with q | q <;> first | exact absurd q.2.1 (by assumption) | exact absurd q.1 (by omega) | exact absurd q.2.1 (by omega))).symm
    refine Zx rfl (Zx rfl (Zx rfl (Zx rfl (Zx rfl (Zr (run_pick_f rfl rfl) rfl (Za rfl (Zj (St_ret (Jm_block_ret (Jm_then_ret (Jm_ret1 rfl rfl ?_)))))))))))
    replace hs := hs.E0.E0.E0.F2.F2.F2
    refine ⟨_, rfl, ?_, hs⟩
    first
    | exact congrArg Value.bool (decide_eq_false (fun q => by unfold follows at q; omega)).symm
    | exact congrArg Value.bool (decide_eq_decide.2 (by unfold follows; constructor <;> intro q <;> first | (refine ⟨by omega, .inl ⟨by omega, by assumption, q⟩⟩) | (refine ⟨by omega, .inr ⟨by omega, by omega, q⟩⟩) | (rcases q.2 with q | q <;> first | exact q.2.2 | exact absurd q.1 (by omega))))
    | exact congrArg Value.bool (decide_eq_false (fun q => by rcases q.2 with q | q <;> first | exact absurd q.2.1 (by assumption) | exact absurd q.1 (by omega) | exact absurd q.2.1 (by omega))).symm
  refine St_skip (Jm_block_normal (Zq (Zs (Zf un51 inf3 rfl 0 rfl (Zl sc3 rfl (hs.blk_at 1 rfl 0 rfl) (Zf un51 inf3 rfl 0 rfl (Zl sc3 rfl (hs.blk_at 0 rfl 0 rfl) (Zr (run_add rfl rfl (w64 (by omega))) rfl (Zr (run_eql rfl rfl) rfl (Zm rfl (Ls_partP (t := 49) rfl (fun h31 => ?_) (fun h31 => ?_))))))))))))
  · refine Zo rfl (Zf un51 inf25 rfl 1 rfl (Zo rfl (Zl sc25 rfl (hs.blk_at 1 rfl 1 rfl) (Zo rfl (Zf un51 inf25 rfl 2 rfl (Zo rfl (Zl sc25 rfl (hs.blk_at 0 rfl 2 rfl) (Zo rfl (Zc fn65 rfl (EqualI_c w22 _ _ _ n.prev _ _ _ j.n.cur (Sat.rdL0 (pre := [_, _, _, _, _, _]) hrp hs) (hs.rd_at 5 rfl) (by omega)) rfl ?_)))))))))
    rintro v32 w33 ⟨rfl, hsE⟩
    replace hs := hs.T hsE
    refine Zr (run_pick_t rfl rfl) rfl (Za rfl (Zj (St_ret (Jm_ret1 rfl rfl ?_))))
    replace hs := hs.E0.E0.E0.F2.F2.F2
    refine ⟨_, rfl, ?_, hs⟩
    first
    | exact congrArg Value.bool (decide_eq_false (fun q => by unfold follows at q; omega)).symm
    | exact congrArg Value.bool (decide_eq_decide.2 (by unfold follows; constructor <;> intro q <;> first | (refine ⟨by omega, .inl ⟨by omega, by assumption, q⟩⟩) | (refine ⟨by omega, .inr ⟨by omega, by omega, q⟩⟩) | (rcases q.2 with q | q <;> first | exact q.2.2 | exact absurd q.1 (by omega))))
    | exact congrArg Value.bool (decide_eq_false (fun q => by rcases q.2 with q | q <;> first | exact absurd q.2.1 (by assumption) | exact absurd q.1 (by omega) | exact absurd q.2.1 (by omega))).symm
  refine Zx rfl (Zx rfl (Zx rfl (Zx rfl (Zx rfl (Zr (run_pick_f rfl rfl) rfl (Za rfl (Zj (St_ret (Jm_ret1 rfl rfl ?_)))))))))
  replace hs := hs.E0.E0.E0.F2.F2.F2
  refine ⟨_, rfl, ?_, hs⟩
  first
  | exact congrArg Value.bool (decide_eq_false (fun q => by unfold follows at q; omega)).symm
  | exact congrArg Value.bool (decide_eq_decide.2 (by unfold follows; constructor <;> intro q <;> first | (refine ⟨by omega, .inl ⟨by omega, by assumption, q⟩⟩) | (refine ⟨by omega, .inr ⟨by omega, by omega, q⟩⟩) | (rcases q.2 with q | q <;> first | exact q.2.2 | exact absurd q.1 (by omega))))
  | exact congrArg Value.bool (decide_eq_false (fun q => by rcases q.2 with q | q <;> first | exact absurd q.2.1 (by assumption) | exact absurd q.1 (by omega) | exact absurd q.2.1 (by omega))).symm
set_option maxRecDepth 100000 in
set_option maxHeartbeats 1000000 in
theorem Format_bad (w : World) (b : Nat) (parts : Int) (h : parts < 1 ∨ 4 < parts) :
    Calls Try.prog 50 [.pointer (some ⟨b, 0, none⟩), .int .i64 parts].toArray w (Ret (fun v' w' => w = w' ∧ v' = .tuple #[.pointer none, .int .i64 1])) := by
  refine Zb Try.func50 rfl rfl rfl (Zs (Za rfl (Za rfl (Zj (St_seq (Zs (Zm rfl (Zm rfl (Zc fn68 rfl (jcheck_c w b parts) rfl ?_)))))))))
  rintro v1 w2 ⟨rfl, rfl⟩
  rw [if_pos h]
  refine Za rfl (Zt (Zm rfl (Zr (run_asB (c := true) (run_neq rfl rfl) (by decide)) rfl (Zj (St_ift rfl (Zs (Zm rfl (Za rfl (Za rfl (Zj (St_ret (Jm_then_ret (Jm_ret2 rfl rfl rfl ?_)))))))))))))
  exact ⟨_, rfl, rfl, rfl⟩
set_option maxRecDepth 100000 in
set_option maxHeartbeats 1000000 in
theorem Format_g (B w : World) (L : List Assn) (b : Nat) (d : DSt) (hs : Sat B w (DiskA 122 125 5 b d :: L)) (hdok : ∀ x ∈ d.bl, IsBytes x ∧ x.length ≤ 1024) (m : Nat) (hm1 : 1 ≤ m) (hm4 : m ≤ 4) :
    Calls Try.prog 50 [.pointer (some ⟨b, 0, none⟩), .int .i64 (m : Int)].toArray w (Ret (fun v' w' => ∃ q, v' = .tuple #[.pointer q, .int .i64 (jformat d m).1] ∧ Sat B w' (JO 108 3 q (some ⟨b, 0, none⟩) (jformat d m).2.1 :: DiskA 122 125 5 b (jformat d m).2.2 :: L))) := by
  refine Zb Try.func50 rfl rfl rfl (Zs (Za rfl (Za rfl (Zj (St_seq (Zs (Zm rfl (Zm rfl (Zc fn68 rfl (jcheck_c w b m) rfl ?_)))))))))
  rintro v1 w2 ⟨rfl, rfl⟩
  rw [if_neg (by omega)]
  refine Za rfl (Zt (Zm rfl (Zr (run_asB (c := false) (run_neq rfl rfl) (by decide)) rfl (Zj (St_iff rfl (St_skip (Zq (St_seq (Zs (Zm rfl ?_))))))))))
  obtain ⟨A0, c0, hd0⟩ := hs.dhd
  refine Zc fn69 rfl (Blocks_c w b d A0 c0 hd0) rfl ?_
  rintro v4 w5 ⟨rfl, rfl⟩
  refine Zr (run_lss rfl rfl) rfl (Zj (St_ifP rfl (fun h6 => ?_) (fun h6 => ?_)))
  · refine Zs (Za rfl (Za rfl (Zj (St_ret (Jm_then_ret (Jm_ret2 rfl rfl rfl ?_))))))
    have e : jformat d m = (92, none, d) := by unfold jformat; rw [if_neg (by omega), if_pos (by omega)]
    rw [e]
    exact ⟨_, rfl, none, rfl, hs.toJoNone⟩
  refine St_skip (Zq (St_seq ?_))
  obtain ⟨En7, hEn7⟩ := ex3 fun (gp : Nat) (gc : Nat) (g7 : Nat) => ([(0, .pointer (some ⟨b, 0, none⟩)), (1, .int .i64 (m : Int)), (7, .pointer (some ⟨g7, 0, none⟩))] : Env)
  obtain ⟨Iv8, hIv8⟩ := ew3 fun (gp : Nat) (gc : Nat) (g7 : Nat) (w9 : World) => Sat B w9 (Blk g7 [.int .i64 0, .slice (some ⟨gp, 0, none⟩) m m, .slice (some ⟨gc, 0, none⟩) m m, .int .i64 0] 53 :: Own 3 1 (.slice (some ⟨gp, 0, none⟩) m m) m (List.replicate m (.int .i64 0)) :: Own 3 1 (.slice (some ⟨gc, 0, none⟩) m m) m (List.replicate m (.int .i64 0)) :: DiskA 122 125 5 b d :: L)
  refine St_join En7 Iv8 ?_ ?_
  · refine St_hold (Hold.of (Ls := [_]) hs) mixed (fun w10 q11 => ?_)
    replace hs := hs.quiet q11
    have hH := Hold.of (Ls := [_]) hs
    refine Ym hH 0 rfl (by kernel_rfl) rfl (Ym hH 2 rfl (by kernel_rfl) rfl (An_three 1 3 6 (by kernel_rfl) rfl rfl rfl ?_ ?_ ?_))
    · refine Ls_make (m := m) hs un25 infq3 rfl rfl rfl (by omega) (by omega) rfl (fun b12 w13 hs => ?_)
      replace hs := hs.F1
      replace hH := Hold.of (Ls := [_]) hs
      refine Ls_nil (Jm_An hH (An_two 3 6 (by kernel_rfl) rfl rfl ?_ ?_))
      · refine Ls_make (m := m) hs un25 infq3 rfl rfl rfl (by omega) (by omega) rfl (fun b14 w15 hs => ?_)
        replace hs := hs.F1
        replace hH := Hold.of (Ls := [_]) hs
        refine Ls_nil (Jm_An hH (Ya hH 4 rfl (by kernel_rfl) (fun x hx => run_buildO (pv := [(1, _), (2, _)]) rfl (bld51_1_2 _ _ _ _ _ _)) (Ya hH 5 rfl (by kernel_rfl) (fun x hx => run_buildO (pv := [(0, _)]) rfl (bld53_0 _ _ _ _ _ _ _)) (An_only 6 (by kernel_rfl) rfl (Ls_alloc hs inf53 rfl (fun b17 w16 hs => ?_))))))
        replace hs := hs.F1
        replace hH := Hold.of (Ls := [_]) hs
        refine Ls_nil (Jm_An hH (An_only 7 (by kernel_rfl) rfl ?_))
        replace hs := hs.F1
        refine Ls_storeAgg hs inf53 rfl rfl rfl rfl (by simp [Value.oneCell', Value.cells, jcells]) (fun w18 hs => ?_)
        replace hs := hs.F1
        replace hH := Hold.of (Ls := [_]) hs
        refine Ls_nil (Jm_An hH (An_done (by kernel_rfl) ?_))
        replace hs := hs.F2.F3.F3
        refine Jm_join (b12, b14, b17) ?_ ?_
        · rw [hEn7]; exact sE ⟨rfl, rfl, rfl, trivial⟩
        rw [hIv8]
        exact hs
      refine Ls_alloc hs inf53 rfl (fun b20 w19 hs => ?_)
      replace hs := hs.F1
      replace hH := Hold.of (Ls := [_]) hs
      refine Ls_nil (Jm_An hH (An_only 3 (by kernel_rfl) rfl (Ls_make (m := m) hs un25 infq3 rfl rfl rfl (by omega) (by omega) rfl (fun b21 w22 hs => ?_))))
      replace hs := hs.F1
      replace hH := Hold.of (Ls := [_]) hs
      refine Ls_nil (Jm_An hH (Ya hH 4 rfl (by kernel_rfl) (fun x hx => run_buildO (pv := [(1, _), (2, _)]) rfl (bld51_1_2 _ _ _ _ _ _)) (Ya hH 5 rfl (by kernel_rfl) (fun x hx => run_buildO (pv := [(0, _)]) rfl (bld53_0 _ _ _ _ _ _ _)) (An_only 7 (by kernel_rfl) rfl ?_))))
      replace hs := hs.F2
      refine Ls_storeAgg hs inf53 rfl rfl rfl rfl (by simp [Value.oneCell', Value.cells, jcells]) (fun w23 hs => ?_)
      replace hs := hs.F1
      replace hH := Hold.of (Ls := [_]) hs
      refine Ls_nil (Jm_An hH (An_done (by kernel_rfl) ?_))
      replace hs := hs.F2.F3.F3
      refine Jm_join (b12, b21, b20) ?_ ?_
      · rw [hEn7]; exact sE ⟨rfl, rfl, rfl, trivial⟩
      rw [hIv8]
      exact hs
    · refine Ls_make (m := m) hs un25 infq3 rfl rfl rfl (by omega) (by omega) rfl (fun b24 w25 hs => ?_)
      replace hs := hs.F1
      replace hH := Hold.of (Ls := [_]) hs
      refine Ls_nil (Jm_An hH (An_two 1 6 (by kernel_rfl) rfl rfl ?_ ?_))
      · refine Ls_make (m := m) hs un25 infq3 rfl rfl rfl (by omega) (by omega) rfl (fun b26 w27 hs => ?_)
        replace hs := hs.F1
        replace hH := Hold.of (Ls := [_]) hs
        refine Ls_nil (Jm_An hH (Ya hH 4 rfl (by kernel_rfl) (fun x hx => run_buildO (pv := [(1, _), (2, _)]) rfl (bld51_1_2 _ _ _ _ _ _)) (Ya hH 5 rfl (by kernel_rfl) (fun x hx => run_buildO (pv := [(0, _)]) rfl (bld53_0 _ _ _ _ _ _ _)) (An_only 6 (by kernel_rfl) rfl (Ls_alloc hs inf53 rfl (fun b29 w28 hs => ?_))))))
        replace hs := hs.F1
        replace hH := Hold.of (Ls := [_]) hs
        refine Ls_nil (Jm_An hH (An_only 7 (by kernel_rfl) rfl ?_))
        replace hs := hs.F1
        refine Ls_storeAgg hs inf53 rfl rfl rfl rfl (by simp [Value.oneCell', Value.cells, jcells]) (fun w30 hs => ?_)
        replace hs := hs.F1
        replace hH := Hold.of (Ls := [_]) hs
        refine Ls_nil (Jm_An hH (An_done (by kernel_rfl) ?_))
        replace hs := hs.F3.F3.F3
        refine Jm_join (b26, b24, b29) ?_ ?_
        · rw [hEn7]; exact sE ⟨rfl, rfl, rfl, trivial⟩
        rw [hIv8]
        exact hs
      refine Ls_alloc hs inf53 rfl (fun b32 w31 hs => ?_)
      replace hs := hs.F1
      replace hH := Hold.of (Ls := [_]) hs
      refine Ls_nil (Jm_An hH (An_only 1 (by kernel_rfl) rfl (Ls_make (m := m) hs un25 infq3 rfl rfl rfl (by omega) (by omega) rfl (fun b33 w34 hs => ?_))))
      replace hs := hs.F1
      replace hH := Hold.of (Ls := [_]) hs
      refine Ls_nil (Jm_An hH (Ya hH 4 rfl (by kernel_rfl) (fun x hx => run_buildO (pv := [(1, _), (2, _)]) rfl (bld51_1_2 _ _ _ _ _ _)) (Ya hH 5 rfl (by kernel_rfl) (fun x hx => run_buildO (pv := [(0, _)]) rfl (bld53_0 _ _ _ _ _ _ _)) (An_only 7 (by kernel_rfl) rfl ?_))))
      replace hs := hs.F2
      refine Ls_storeAgg hs inf53 rfl rfl rfl rfl (by simp [Value.oneCell', Value.cells, jcells]) (fun w35 hs => ?_)
      replace hs := hs.F1
      replace hH := Hold.of (Ls := [_]) hs
      refine Ls_nil (Jm_An hH (An_done (by kernel_rfl) ?_))
      replace hs := hs.F3.F3.F3
      refine Jm_join (b33, b24, b32) ?_ ?_
      · rw [hEn7]; exact sE ⟨rfl, rfl, rfl, trivial⟩
      rw [hIv8]
      exact hs
    refine Ls_alloc hs inf53 rfl (fun b37 w36 hs => ?_)
    replace hs := hs.F1
    replace hH := Hold.of (Ls := [_]) hs
    refine Ls_nil (Jm_An hH (An_two 1 3 (by kernel_rfl) rfl rfl ?_ ?_))
    · refine Ls_make (m := m) hs un25 infq3 rfl rfl rfl (by omega) (by omega) rfl (fun b38 w39 hs => ?_)
      replace hs := hs.F1
      replace hH := Hold.of (Ls := [_]) hs
      refine Ls_nil (Jm_An hH (An_only 3 (by kernel_rfl) rfl (Ls_make (m := m) hs un25 infq3 rfl rfl rfl (by omega) (by omega) rfl (fun b40 w41 hs => ?_))))
      replace hs := hs.F1
      replace hH := Hold.of (Ls := [_]) hs
      refine Ls_nil (Jm_An hH (Ya hH 4 rfl (by kernel_rfl) (fun x hx => run_buildO (pv := [(1, _), (2, _)]) rfl (bld51_1_2 _ _ _ _ _ _)) (Ya hH 5 rfl (by kernel_rfl) (fun x hx => run_buildO (pv := [(0, _)]) rfl (bld53_0 _ _ _ _ _ _ _)) (An_only 7 (by kernel_rfl) rfl ?_))))
      replace hs := hs.F3
      refine Ls_storeAgg hs inf53 rfl rfl rfl rfl (by simp [Value.oneCell', Value.cells, jcells]) (fun w42 hs => ?_)
      replace hs := hs.F1
      replace hH := Hold.of (Ls := [_]) hs
      refine Ls_nil (Jm_An hH (An_done (by kernel_rfl) ?_))
      replace hs := hs.F2.F3.F3
      refine Jm_join (b38, b40, b37) ?_ ?_
      · rw [hEn7]; exact sE ⟨rfl, rfl, rfl, trivial⟩
      rw [hIv8]
      exact hs
    refine Ls_make (m := m) hs un25 infq3 rfl rfl rfl (by omega) (by omega) rfl (fun b43 w44 hs => ?_)
    replace hs := hs.F1
    replace hH := Hold.of (Ls := [_]) hs
    refine Ls_nil (Jm_An hH (An_only 1 (by kernel_rfl) rfl (Ls_make (m := m) hs un25 infq3 rfl rfl rfl (by omega) (by omega) rfl (fun b45 w46 hs => ?_))))
    replace hs := hs.F1
    replace hH := Hold.of (Ls := [_]) hs
    refine Ls_nil (Jm_An hH (Ya hH 4 rfl (by kernel_rfl) (fun x hx => run_buildO (pv := [(1, _), (2, _)]) rfl (bld51_1_2 _ _ _ _ _ _)) (Ya hH 5 rfl (by kernel_rfl) (fun x hx => run_buildO (pv := [(0, _)]) rfl (bld53_0 _ _ _ _ _ _ _)) (An_only 7 (by kernel_rfl) rfl ?_))))
    replace hs := hs.F3
    refine Ls_storeAgg hs inf53 rfl rfl rfl rfl (by simp [Value.oneCell', Value.cells, jcells]) (fun w47 hs => ?_)
    replace hs := hs.F1
    replace hH := Hold.of (Ls := [_]) hs
    refine Ls_nil (Jm_An hH (An_done (by kernel_rfl) ?_))
    replace hs := hs.F3.F3.F3
    refine Jm_join (b45, b43, b37) ?_ ?_
    · rw [hEn7]; exact sE ⟨rfl, rfl, rfl, trivial⟩
    rw [hIv8]
    exact hs
  rintro ⟨gp, gc, g7⟩ w9 hI48
  rw [hIv8] at hI48
  replace hs := hI48
  refine Jm_eqE (hEn7 _ _ _) (Zq (Zs (Zm rfl (Zm rfl (Zr (run_load_agg agg53 inf53 rfl rfl (hs.blk_cells 0 rfl 0 4)) rfl (Zr (run_buildO (pv := [(0, _), (1, _)]) rfl (bld106_0_1 _ _ _ _ _ _ _ _ _)) rfl (Zr (run_buildO (pv := [(0, _), (1, _), (2, _)]) rfl (bld108_0_1_2 _ _ _ _ _ _ _ _ _ _ _)) rfl (Ls_box hs rfl rfl (fun b50 w49 hs => (Za rfl (Zj (St_seq (Zs ?_)))))))))))))
  have hbyd1 : IsBytes [] := by simp [IsBytes]
  refine Zm rfl ?_
  replace hs := hs.F4
  refine Zc fn72 rfl (Write_c B w49 _ b d hs (fun r hr => (hdok r hr).2) 1 none 0 0 [] (fun w' X q => (show Rd w' none 0 0 1 (bytesV []) from Rd.none w' 1)) (by omega)) rfl ?_
  rintro v51 w52 ⟨rfl, hs⟩
  obtain ⟨⟨ed1, d1⟩, hwd1⟩ : ∃ q, dwrite d 1 [] = q := ⟨_, rfl⟩
  have hkpd1 := dwrite_keeps d 1 [] (P := fun r => IsBytes r ∧ r.length ≤ 1024) hdok (fun hle => ⟨hbyd1, hle⟩)
  simp only [hwd1] at hs ⊢ hkpd1
  have hd1ok := hkpd1.1
  refine Za rfl (Zt (Zm rfl (Zr (run_neq rfl rfl) rfl (Zj (St_ifP rfl (fun h53 => ?_) (fun h53 => ?_))))))
  · refine Zs (Zm rfl (Za rfl (Za rfl (Zj (St_ret (Jm_then_ret (Jm_ret2 rfl rfl rfl ?_)))))))
    replace hs := hs.E2.E1.E1.E1
    have e : jformat d m = (ed1, none, d1) := by unfold jformat; rw [if_neg (by omega), if_neg (by omega), hwd1, if_pos (by assumption)]
    rw [e]
    exact ⟨_, rfl, none, rfl, hs.toJoNone⟩
  refine St_skip (Zq (St_seq (Zs (Zm rfl (Zm rfl (Zk rfl (Zf un108 inf106 rfl 2 rfl ?_)))))))
  rw [← flatKI_rep m] at hs
  refine Zr (run_load_agg agg106 inf106 rfl rfl (hs.blk_cells 1 rfl 2 5)) rfl ?_
  have hnk := (jnew_ok (parts := m) hm1 hm4).1
  refine Zc fn73 rfl (bytes_e w52 (jnew m).n _ _ _ _ m m (by simp [jnew]) (by simp [jnew]) (hs.rd_at 3 rfl) (hs.rd_at 4 rfl) (by omega) 0 0 1 _ rfl rfl hnk (by simp [jnew]; omega) (by decide)) rfl ?_
  rintro v54 w55 ⟨Ab, cb, rfl, hsB⟩
  replace hs := hs.T hsB
  have hnl := nbytes_len hnk (by simp [jnew]; omega) (gen := 1) (by decide)
  obtain ⟨nb, hnb⟩ : ∃ q, q = nbytes 1 (jnew m).n := ⟨_, rfl⟩
  have hbyd2 : IsBytes nb := by rw [hnb]; exact nbytes_bytes _ _
  rw [← hnb] at hs hnl ⊢
  replace hs := hs.F1
  refine Zc fn72 rfl (Write_c B w55 _ b d1 hs (fun r hr => (hd1ok r hr).2) 0 Ab nb.length cb nb (fun w' X q => q.rd_at 1 rfl) (by omega)) rfl ?_
  rintro v56 w57 ⟨rfl, hs⟩
  obtain ⟨⟨ed2, d2⟩, hwd2⟩ : ∃ q, dwrite d1 0 nb = q := ⟨_, rfl⟩
  have hkpd2 := dwrite_keeps d1 0 nb (P := fun r => IsBytes r ∧ r.length ≤ 1024) hd1ok (fun hle => ⟨hbyd2, hle⟩)
  simp only [hwd2] at hs ⊢ hkpd2
  have hd2ok := hkpd2.1
  refine Za rfl (Zt (Zm rfl (Zr (run_neq rfl rfl) rfl (Zj (St_ifP rfl (fun h58 => ?_) (fun h58 => ?_))))))
  · refine Zs (Zm rfl (Za rfl (Za rfl (Zj (St_ret (Jm_then_ret (Jm_ret2 rfl rfl rfl ?_)))))))
    replace hs := hs.E1.E2.E1.E1.E1
    have e : jformat d m = (ed2, none, d2) := by unfold jformat; rw [if_neg (by omega), if_neg (by omega), hwd1, if_neg (by assumption)]; simp only [Int.toNat_natCast, ← hnb, hwd2]; rw [if_pos (by assumption)]
    rw [e]
    exact ⟨_, rfl, none, rfl, hs.toJoNone⟩
  refine St_skip (Zq (Zs (Zm rfl (Za rfl (Za rfl (Zj (St_ret (Jm_ret2 rfl rfl rfl ?_))))))))
  replace hs := hs.E1.E2.F3.F3.F3
  have e : jformat d m = (0, some (jnew m), d2) := by unfold jformat; rw [if_neg (by omega), if_neg (by omega), hwd1, if_neg (by assumption)]; simp only [Int.toNat_natCast, ← hnb, hwd2]; rw [if_neg (by assumption)]
  rw [e]
  have e1 : (jnew m).n.prev.length = m := by simp [jnew]
  have e2 : (jnew m).n.cur.length = m := by simp [jnew]
  refine ⟨_, rfl, _, rfl, Sat.toJoSome (Sat.jshut (j := jnew m) (Ap := some ⟨gp, 0, none⟩) (cp := m) (Ac := some ⟨gc, 0, none⟩) (cc := m) ?_)⟩
  simp only [jcells, e1, e2]
  exact hs
end Go.Proofs.Ytcifdianinbkeaa.Lg

/-
  The journal's Save, walked. By program (gen/jour3.py).
-/
set_option linter.unusedVariables false
set_option linter.unusedSimpArgs false
namespace Go.Proofs.Ytcifdianinbkeaa.Lg
open Go Go.RowKit Go.Proofs.Ytcifdianinbkeaa.WirePure
set_option maxRecDepth 100000 in
set_option maxHeartbeats 1000000 in
theorem Save_c (B w : World) (L : List Assn) (bj b : Nat) (j : JSt) (d : DSt) (hs : Sat B w (JA 108 3 bj (some ⟨b, 0, none⟩) j :: DiskA 122 125 5 b d :: L)) (hjo : JOk j) (hdok : ∀ x ∈ d.bl, IsBytes x ∧ x.length ≤ 1024) (n : NSt) (Np : Option Addr) (np : Nat) (Nc : Option Addr) (nc : Nat) (hrp : ∀ w' X, Sat B w' (X :: L) → Rd w' Np n.prev.length np 1 (KI.flat n.prev)) (hrc : ∀ w' X, Sat B w' (X :: L) → Rd w' Nc n.cur.length nc 1 (KI.flat n.cur)) (hzn : n.prev.length ≤ 9223372036854775807 ∧ n.cur.length ≤ 9223372036854775807) :
    Calls Try.prog 57 [.pointer (some ⟨bj, 0, none⟩), .agg #[.int .i64 n.batch, .slice Np n.prev.length np, .slice Nc n.cur.length nc, .int .i64 n.att]].toArray w (Ret (fun v' w' => v' = .int .i64 (jsave j d n).1 ∧ Sat B w' (JA 108 3 bj (some ⟨b, 0, none⟩) (jsave j d n).2.1 :: DiskA 122 125 5 b (jsave j d n).2.2 :: L))) := by
  obtain ⟨Ap, cp, Ac, cc, hs⟩ := hs.jopen
  have hlen := noteOk_len hjo.1
  have hp4 := hjo.2.2.1
  have hz : j.n.prev.length ≤ 1073741824 ∧ j.n.cur.length ≤ 1073741824 := by omega
  have eg : (jend j d).gen = j.gen := rfl
  have es : (jend j d).slot = j.slot := rfl
  have hgl := hjo.2.2.2.1
  have hgh := hjo.2.2.2.2.1
  have hsl := hjo.2.2.2.2.2
  refine Zb Try.func57 rfl rfl rfl (Zs (Ls_box hs rfl rfl (fun b2 w1 hs => (Za rfl (Zj (St_seq (Zs (Zm rfl (Zr (run_asB (c := false) (run_eql_ptr_nil un77 rfl rfl) rfl) rfl (Zj (St_iff rfl (St_skip (Zq (St_seq ?_))))))))))))))
  obtain ⟨En4, hEn4⟩ := ex1 fun (z : Nat) => ([(0, .pointer (some ⟨bj, 0, none⟩)), (3, .pointer (some ⟨b2, 0, none⟩))] : Env)
  obtain ⟨Iv5, hIv5⟩ := ew1 fun (z : Nat) (w6 : World) => Sat B w6 (Blk b2 [.int .i64 n.batch, .slice Np n.prev.length np, .slice Nc n.cur.length nc, .int .i64 n.att] 53 :: Blk bj (jcells (some ⟨b, 0, none⟩) (jend j d) Ap cp Ac cc) 108 :: Own 3 1 (.slice Ap j.n.prev.length cp) j.n.prev.length (KI.flat j.n.prev) :: Own 3 1 (.slice Ac j.n.cur.length cc) j.n.cur.length (KI.flat j.n.cur) :: DiskA 122 125 5 b d :: L)
  refine St_join En4 Iv5 ?_ ?_
  · refine St_region (Zm rfl (Zm rfl (Zk rfl (Zf un108 inf4 rfl 8 rfl (Zl sc4 rfl (hs.blk_at 1 rfl 8 rfl) (Zm rfl (Ls_part (t := 14) rfl (fun h7 => ?_) (fun h7 => ?_))))))))
    · refine Zx rfl (Zx rfl (Zx rfl (Zx rfl (Zx rfl (Zr (run_pick_t rfl rfl) rfl (Zk rfl (Zf un108 inf4 rfl 8 rfl ?_)))))))
      replace hs := hs.F1
      refine Ls_store hs inf4 rfl rfl rfl rfl (fun w9 hs => ?_)
      try simp only [List.set_cons_zero, List.set_cons_succ] at hs
      refine Ls_nil ?_
      replace hs := hs.F4.F4.F4.F3.F4
      refine Jm_join 0 ?_ ?_
      · rw [hEn4]; exact sE ⟨rfl, rfl, trivial⟩
      rw [hIv5]
      first | (have e6 : jcells (some ⟨b, 0, none⟩) (jend j d) Ap cp Ac cc = (jcells (some ⟨b, 0, none⟩) j Ap cp Ac cc).set 8 (.bool true) := (by simp [jcells, jend, *]); rw [e6]; exact hs) | (have e6 : jcells (some ⟨b, 0, none⟩) (jend j d) Ap cp Ac cc = (jcells (some ⟨b, 0, none⟩) j Ap cp Ac cc).set 8 (.bool d.down) := (by simp [jcells, jend, *]); rw [e6]; exact hs)
    refine Zo rfl (Zm rfl (Zo rfl (Zk rfl (Zo rfl (Zf un108 inf27 rfl 0 rfl (Zo rfl (Zl sc27 rfl (hs.blk_at 1 rfl 0 rfl) (Zo rfl ?_))))))))
    replace hs := hs.F4
    obtain ⟨A0, c0, hd0⟩ := hs.dhd
    refine Zc fn43 rfl (Down_c w1 b d A0 c0 hd0) rfl ?_
    rintro v10 w11 ⟨rfl, rfl⟩
    refine Zr (run_pick_f rfl rfl) rfl (Zk rfl (Zf un108 inf4 rfl 8 rfl ?_))
    replace hs := hs.F2
    refine Ls_store hs inf4 rfl rfl rfl rfl (fun w12 hs => ?_)
    try simp only [List.set_cons_zero, List.set_cons_succ] at hs
    refine Ls_nil ?_
    replace hs := hs.F1.F4.F4.F3.F4
    refine Jm_join 0 ?_ ?_
    · rw [hEn4]; exact sE ⟨rfl, rfl, trivial⟩
    rw [hIv5]
    first | (have e6 : jcells (some ⟨b, 0, none⟩) (jend j d) Ap cp Ac cc = (jcells (some ⟨b, 0, none⟩) j Ap cp Ac cc).set 8 (.bool true) := (by simp [jcells, jend, *]); rw [e6]; exact hs) | (have e6 : jcells (some ⟨b, 0, none⟩) (jend j d) Ap cp Ac cc = (jcells (some ⟨b, 0, none⟩) j Ap cp Ac cc).set 8 (.bool d.down) := (by simp [jcells, jend, *]); rw [e6]; exact hs)
  rintro z w6 hI13
  rw [hIv5] at hI13
  replace hs := hI13
  refine Jm_eqE (hEn4 _) (Zq (St_seq (St_block (Zs (Zm rfl (Zk rfl (Zf un108 inf4 rfl 8 rfl (Zl sc4 rfl (hs.blk_at 1 rfl 8 rfl) (Za rfl (Zj (St_if rfl (fun h14 => ?_) (fun h14 => ?_))))))))))))
  · refine Zs (Za rfl (Zj (St_ret (Jm_block_ret (Jm_then_ret (Jm_ret1 rfl rfl ?_))))))
    replace hs := hs.E0.F3.F3.F3.F3
    have e : jsave j d n = (80, jend j d, d) := by unfold jsave; rw [if_pos (by assumption)]
    rw [e]
    exact ⟨_, rfl, rfl, Sat.jshut (j := jend j d) hs⟩
  have hne : (jend j d).ended = false := h14
  refine St_seq (St_draw (fun x => Below w6.heap.size w6 x) mixed (fun w15 q16 => ?_))
  have hH := q16.below
  replace hs := hs.quiet q16
  refine An_grow hH ?_
  replace hH := Below.refl w15.heap.size w15
  refine Ya hH 0 rfl (by kernel_rfl) (fun x hx => run_load_agg agg53 inf53 rfl rfl ((hs.grow hx).blk_cells 0 rfl 0 4)) (Ym hH 1 rfl (by kernel_rfl) rfl (Ya hH 2 rfl (by kernel_rfl) (fun x hx => run_nilCheck rfl) (Ya hH 3 rfl (by kernel_rfl) (fun x hx => run_fd un108 inf3 rfl 1 rfl) (Ya hH 4 rfl (by kernel_rfl) (fun x hx => run_load sc3 rfl ((hs.grow hx).blk_at 1 rfl 1 rfl)) (An_only 5 (by kernel_rfl) rfl (Zc fn74 rfl (isNote_c w15 n _ _ _ _ (Sat.rdL0 (pre := [_, _, _, _, _]) hrp hs) (Sat.rdL0 (pre := [_, _, _, _, _]) hrc hs) hzn j.parts) rfl ?_))))))
  rintro v17 w18 ⟨rfl, hsI⟩
  replace hs := hs.T hsI
  replace hH := (hsI.below : Below w15.heap.size w15 w18)
  refine Ls_nil (Jm_An hH (An_grow hH ?_))
  replace hH := Below.refl w18.heap.size w18
  refine Ya hH 6 rfl (by kernel_rfl) (fun x hx => run_not rfl) (Ya hH 7 rfl (by kernel_rfl) (fun x hx => run_assign rfl) (An_done (by kernel_rfl) (Zq (St_ifN rfl (fun h19 => ?_) (fun h19 => ?_)))))
  · refine Zs (Za rfl (Zj (St_ret (Jm_block_ret (Jm_then_ret (Jm_ret1 rfl rfl ?_))))))
    replace hs := hs.E0.F3.F3.F3.F3
    have e : jsave j d n = (1, jend j d, d) := by unfold jsave; rw [if_neg (by simp [hne]), if_pos (by assumption)]
    rw [e]
    exact ⟨_, rfl, rfl, Sat.jshut (j := jend j d) hs⟩
  have hnok : noteOk n j.parts := h19
  refine Zs (Zm rfl (Zr (run_load_agg agg53 inf53 rfl rfl (hs.blk_cells 0 rfl 0 4)) rfl ?_))
  replace hs := hs.F3.F3.F3
  refine Zc fn75 rfl (follows_c B w18 _ bj _ (jend j d) Ap cp Ac cc hs hz hjo.1.1 n Np np Nc nc (fun w' X q => Sat.rdL0 (pre := [_, _, _]) hrp q) (fun w' X q => Sat.rdL0 (pre := [_, _, _]) hrc q) hzn) rfl ?_
  rintro v20 w21 ⟨rfl, hs⟩
  refine Zr (run_not rfl) rfl (Za rfl (Zj (St_ifN rfl (fun h22 => ?_) (fun h22 => ?_))))
  · have hnf : ¬ follows j.n n := h22
    refine Zs (Za rfl (Zj (St_ret (Jm_block_ret (Jm_then_ret (Jm_ret1 rfl rfl ?_))))))
    replace hs := hs.E3.F3.F3.F3.F3
    have e : jsave j d n = (7, jend j d, d) := by unfold jsave; rw [if_neg (by simp [hne]), if_neg (by simpa using hnok), if_pos hnf]
    rw [e]
    exact ⟨_, rfl, rfl, Sat.jshut (j := jend j d) hs⟩
  have hfo : follows j.n n := h22
  refine Zs (Zm rfl (Zk rfl (Zf un108 inf106 rfl 2 rfl (Zf un106 inf3 rfl 6 rfl (Zl sc3 rfl (hs.blk_at 0 rfl 6 rfl) (Zr (run_geq rfl rfl) rfl (Za rfl (Zj (St_ifP rfl (fun h23 => ?_) (fun h23 => ?_))))))))))
  · refine Zs (Za rfl (Zj (St_ret (Jm_block_ret (Jm_then_ret (Jm_ret1 rfl rfl ?_))))))
    replace hs := hs.E3.F3.F3.F3.F3
    have e : jsave j d n = (92, jend j d, d) := by unfold jsave; rw [if_neg (by simp [hne]), if_neg (by simpa using hnok), if_neg (by simpa using hfo), if_pos (by omega)]
    rw [e]
    exact ⟨_, rfl, rfl, Sat.jshut (j := jend j d) hs⟩
  refine St_skip (Jm_block_normal (Zq (St_seq ?_)))
  obtain ⟨En24, hEn24⟩ := ex5 fun (Aq : Option Addr) (cq : Nat) (Ar : Option Addr) (cr : Nat) (g5 : Nat) => ([(0, .pointer (some ⟨bj, 0, none⟩)), (3, .pointer (some ⟨b2, 0, none⟩)), (5, .pointer (some ⟨g5, 0, none⟩))] : Env)
  obtain ⟨Iv25, hIv25⟩ := ew5 fun (Aq : Option Addr) (cq : Nat) (Ar : Option Addr) (cr : Nat) (g5 : Nat) (w26 : World) => Sat B w26 (Blk g5 [.int .i64 n.batch, .slice Aq n.prev.length cq, .slice Ar n.cur.length cr, .int .i64 n.att, .int .i64 (j.gen + 1)] 106 :: Own 3 1 (.slice Aq n.prev.length cq) n.prev.length (KI.flat n.prev) :: Own 3 1 (.slice Ar n.cur.length cr) n.cur.length (KI.flat n.cur) :: Blk bj (jcells (some ⟨b, 0, none⟩) (jend j d) Ap cp Ac cc) 108 :: Own 3 1 (.slice Ap j.n.prev.length cp) j.n.prev.length (KI.flat j.n.prev) :: Own 3 1 (.slice Ac j.n.cur.length cc) j.n.cur.length (KI.flat j.n.cur) :: DiskA 122 125 5 b d :: L)
  refine St_join En24 Iv25 ?_ ?_
  · replace hs := hs.F3.F1
    refine St_hold (Hold.of (Ls := [_, _]) hs) mixed (fun w27 q28 => ?_)
    replace hs := hs.quiet q28
    have hH := Hold.of (Ls := [_, _]) hs
    refine Ya hH 0 rfl (by kernel_rfl) (fun x hx => run_load_agg agg53 inf53 rfl rfl (hx.choose_spec.blk_cells 1 rfl 0 4)) (Ym hH 2 rfl (by kernel_rfl) rfl (Ya hH 3 rfl (by kernel_rfl) (fun x hx => run_nilCheck rfl) (Ya hH 4 rfl (by kernel_rfl) (fun x hx => run_fd un108 inf106 rfl 2 rfl) (Ya hH 5 rfl (by kernel_rfl) (fun x hx => run_fd un106 inf3 rfl 6 rfl) (Ya hH 6 rfl (by kernel_rfl) (fun x hx => run_load sc3 rfl (hx.choose_spec.blk_at 0 rfl 6 rfl)) (Ya hH 7 rfl (by kernel_rfl) (fun x hx => run_add rfl rfl (show _ = j.gen + 1 by rw [eg, w64 (by omega)])) (An_two 1 9 (by kernel_rfl) rfl rfl ?_ ?_)))))))
    · refine Zc fn56 rfl (jcopied_c w27 n _ _ _ _ (Sat.rdL0 (pre := [_, _, _, _, _]) hrp hs) (Sat.rdL0 (pre := [_, _, _, _, _]) hrc hs) (by have := noteOk_len hnok; omega)) rfl ?_
      rintro v29 w30 ⟨Aq31, cq32, Ar33, cr34, rfl, hsC⟩
      replace hs := hs.T hsC
      replace hs := hs.F3.F3
      replace hH := Hold.of (Ls := [_, _]) hs
      refine Ls_nil (Jm_An hH (Ya hH 8 rfl (by kernel_rfl) (fun x hx => run_buildO (pv := [(0, _), (1, _)]) rfl (bld106_0_1 _ _ _ _ _ _ _ _ _)) (An_only 9 (by kernel_rfl) rfl (Ls_alloc hs inf106 rfl (fun b36 w35 hs => ?_)))))
      replace hs := hs.F2.F2
      replace hH := Hold.of (Ls := [_, _]) hs
      refine Ls_nil (Jm_An hH (An_only 10 (by kernel_rfl) rfl ?_))
      replace hs := hs.F2
      refine Ls_storeAgg hs inf106 rfl rfl rfl rfl (by simp [Value.oneCell', Value.cells, jcells]) (fun w37 hs => ?_)
      replace hs := hs.F2.F2
      replace hH := Hold.of (Ls := [_, _]) hs
      refine Ls_nil (Jm_An hH (An_done (by kernel_rfl) ?_))
      replace hs := hs.E1.F6.F6.F6.F3.F6.F6.F6
      refine Jm_join (Aq31, cq32, Ar33, cr34, b36) ?_ ?_
      · rw [hEn24]; exact sE ⟨rfl, rfl, rfl, trivial⟩
      rw [hIv25]
      exact hs
    refine Ls_alloc hs inf106 rfl (fun b39 w38 hs => ?_)
    replace hs := hs.F2.F2
    replace hH := Hold.of (Ls := [_, _]) hs
    refine Ls_nil (Jm_An hH (An_only 1 (by kernel_rfl) rfl (Zc fn56 rfl (jcopied_c w38 n _ _ _ _ (Sat.rdL0 (pre := [_, _, _, _, _, _]) hrp hs) (Sat.rdL0 (pre := [_, _, _, _, _, _]) hrc hs) (by have := noteOk_len hnok; omega)) rfl ?_)))
    rintro v40 w41 ⟨Aq42, cq43, Ar44, cr45, rfl, hsC⟩
    replace hs := hs.T hsC
    replace hs := hs.F3.F3
    replace hH := Hold.of (Ls := [_, _]) hs
    refine Ls_nil (Jm_An hH (Ya hH 8 rfl (by kernel_rfl) (fun x hx => run_buildO (pv := [(0, _), (1, _)]) rfl (bld106_0_1 _ _ _ _ _ _ _ _ _)) (An_only 10 (by kernel_rfl) rfl ?_)))
    replace hs := hs.F4
    refine Ls_storeAgg hs inf106 rfl rfl rfl rfl (by simp [Value.oneCell', Value.cells, jcells]) (fun w46 hs => ?_)
    replace hs := hs.F2.F2
    replace hH := Hold.of (Ls := [_, _]) hs
    refine Ls_nil (Jm_An hH (An_done (by kernel_rfl) ?_))
    replace hs := hs.E1.F6.F6.F6.F3.F6.F6.F6
    refine Jm_join (Aq42, cq43, Ar44, cr45, b39) ?_ ?_
    · rw [hEn24]; exact sE ⟨rfl, rfl, rfl, trivial⟩
    rw [hIv25]
    exact hs
  rintro ⟨Aq, cq, Ar, cr, g5⟩ w26 hI47
  rw [hIv25] at hI47
  replace hs := hI47
  refine Jm_eqE (hEn24 _ _ _ _ _) (Zq (St_seq (St_seq ?_)))
  replace hs := hs.F3
  refine St_hold (Hold.of (Ls := [_, _]) hs) mixed (fun w48 q49 => ?_)
  replace hs := hs.quiet q49
  have hH := Hold.of (Ls := [_, _]) hs
  refine Ym hH 0 rfl (by kernel_rfl) rfl (Ya hH 1 rfl (by kernel_rfl) (fun x hx => run_nilCheck rfl) (Ya hH 2 rfl (by kernel_rfl) (fun x hx => run_fd un108 inf27 rfl 0 rfl) (Ya hH 3 rfl (by kernel_rfl) (fun x hx => run_load sc27 rfl (hx.choose_spec.blk_at 0 rfl 0 rfl)) (Ym hH 4 rfl (by kernel_rfl) rfl (Ya hH 5 rfl (by kernel_rfl) (fun x hx => run_nilCheck rfl) (Ya hH 6 rfl (by kernel_rfl) (fun x hx => run_fd un108 inf3 rfl 7 rfl) (Ya hH 7 rfl (by kernel_rfl) (fun x hx => run_load sc3 rfl (hx.choose_spec.blk_at 0 rfl 7 rfl)) (Ya hH 8 rfl (by kernel_rfl) (fun x hx => run_sub rfl rfl (show _ = 1 - j.slot by rw [es, w64 (by omega)])) (Ya hH 9 rfl (by kernel_rfl) (fun x hx => run_load_agg agg106 inf106 rfl rfl (hx.choose_spec.blk_cells 1 rfl 0 5)) (An_only 10 (by kernel_rfl) rfl (Zc fn73 rfl (bytes_c w48 n _ _ _ _ (hs.rd_at 2 rfl) (hs.rd_at 3 rfl) (by have := noteOk_len hnok; omega) (j.gen + 1) j.parts hnok hjo.2.2.1 (by omega)) rfl ?_)))))))))))
  rintro v50 w51 ⟨Ab, cb, rfl, hsB⟩
  replace hs := hs.T hsB
  have hnl := nbytes_len hnok hjo.2.2.1 (gen := j.gen + 1) (by omega)
  obtain ⟨nb, hnb⟩ : ∃ q, q = nbytes (j.gen + 1) n := ⟨_, rfl⟩
  rw [← hnb] at hs hnl ⊢
  replace hs := hs.F2.F2
  replace hH := Hold.of (Ls := [_, _]) hs
  refine Ls_nil (Jm_An hH (An_only 11 (by kernel_rfl) rfl ?_))
  replace hs := hs.F7
  refine Zc fn72 rfl (Write_c B w51 _ b d hs (fun r hr => (hdok r hr).2) (1 - j.slot) Ab nb.length cb nb (fun w' X q => q.rd_at 3 rfl) (by omega)) rfl ?_
  rintro v52 w53 ⟨rfl, hs⟩
  obtain ⟨⟨e2, d2⟩, hw2⟩ : ∃ q, dwrite d (1 - j.slot) nb = q := ⟨_, rfl⟩
  simp only [hw2] at hs ⊢
  replace hs := hs.F2.F2
  replace hH := Hold.of (Ls := [_, _]) hs
  refine Ls_nil (Jm_An hH (Ya hH 12 rfl (by kernel_rfl) (fun x hx => run_assign rfl) (An_done (by kernel_rfl) (Zq (Zs (Zm rfl (Zr (run_neq rfl rfl) rfl (Zj (St_ifP rfl (fun h54 => ?_) (fun h54 => ?_))))))))))
  · refine Zs (Zm rfl (Zk rfl (Zf un108 inf4 rfl 8 rfl (Ls_store hs inf4 rfl rfl rfl rfl (fun w55 hs => ?_)))))
    try simp only [List.set_cons_zero, List.set_cons_succ] at hs
    refine Zt (Zm rfl (Za rfl (Zj (St_ret (Jm_then_ret (Jm_ret1 rfl rfl ?_))))))
    replace hs := hs.E1.E2.E2.E2.F1.F3.F3.F3
    have e : jsave j d n = (e2, { jend j d with ended := true }, d2) := by unfold jsave; rw [if_neg (by simp [hne]), if_neg (by simpa using hnok), if_neg (by simpa using hfo), if_neg (by omega), ← hnb, hw2, if_pos (by assumption)]
    rw [e]
    exact ⟨_, rfl, rfl, Sat.jshut (j := { jend j d with ended := true }) hs⟩
  refine St_skip (Zq (St_seq ?_))
  replace hs := hs.F1.F1
  refine St_holdAt 13 (HoldAt.of (Ls := [_]) (i := 7) (v := .int .i64 j.slot) rfl hs) mixed (fun w56 q57 => ?_)
  replace hs := hs.quiet q57
  have hH := HoldAt.of (Ls := [_]) (i := 7) (v := .int .i64 j.slot) rfl hs
  refine Yr (fun _ => hH) 0 rfl (by kernel_rfl) (fun x => run_move rfl) (Yr (fun _ => hH) 1 rfl (by kernel_rfl) (fun x => run_move rfl) (Yd hH 2 [13, 2] rfl (by kernel_rfl) (fun x hx => run_load_agg agg106 inf106 rfl rfl (hx.hold.choose_spec.blk_cells 0 rfl 0 5)) (Yr (fun _ => hH) 3 rfl (by kernel_rfl) (fun x => run_move rfl) (Yr (fun _ => hH) 4 rfl (by kernel_rfl) (fun x => run_nilCheck rfl) (Yr (fun _ => hH) 5 rfl (by kernel_rfl) (fun x => run_fd un108 inf3 rfl 7 rfl) (Yd hH 6 [13, 6] rfl (by kernel_rfl) (fun x hx => run_load sc3 rfl hx.cell) (Yr (fun _ => hH) 7 rfl (by kernel_rfl) (fun x => run_sub rfl rfl (show _ = 1 - j.slot by rw [w64 (by omega)])) (Yr (fun _ => hH) 8 rfl (by kernel_rfl) (fun x => run_nilCheck rfl) (Yr (fun _ => hH) 9 rfl (by kernel_rfl) (fun x => run_fd un108 inf106 rfl 2 rfl) (AnC_only 10 (by kernel_rfl) rfl (Ls_storeAggAt hs inf106 rfl rfl rfl (by first | decide | exact Nat.le_of_ble_eq_true rfl) (by simp [Value.oneCell', Value.cells, jcells]) (fun w58 hs => ?_))))))))))))
  simp only [jcells, ncells, Nat.reduceAdd, Nat.zero_add, List.take_succ_cons, List.take_zero, List.drop_succ_cons, List.drop_zero, List.cons_append, List.nil_append] at hs
  replace hs := hs.F1.F1
  replace hH := HoldAt.of (Ls := [_]) (i := 7) (v := .int .i64 j.slot) rfl hs
  refine Ls_nil (Jm_AnC (fun _ => hH) (Yr (fun _ => hH) 11 rfl (by kernel_rfl) (fun x => run_nilCheck rfl) (Yr (fun _ => hH) 12 rfl (by kernel_rfl) (fun x => run_fd un108 inf3 rfl 7 rfl) (AnC_only 13 (by kernel_rfl) rfl (Ls_store hs inf3 rfl rfl rfl rfl (fun w59 hs => ?_))))))
  try simp only [List.set_cons_zero, List.set_cons_succ] at hs
  refine Ls_nil (Jm_AnC_closed (by kernel_rfl) (AnC_done (by kernel_rfl) (Zq (Zs (Za rfl (Zj (St_ret (Jm_ret1 rfl rfl ?_))))))))
  replace hs := hs.E1.E2.E4.E4.F1.F3.F3.F3
  have e : jsave j d n = (0, { jend j d with n := n, gen := j.gen + 1, slot := 1 - j.slot }, d2) := by unfold jsave; rw [if_neg (by simp [hne]), if_neg (by simpa using hnok), if_neg (by simpa using hfo), if_neg (by omega), ← hnb, hw2, if_neg (by assumption)]
  rw [e]
  exact ⟨_, rfl, rfl, Sat.jshut (j := { jend j d with n := n, gen := j.gen + 1, slot := 1 - j.slot }) hs⟩
end Go.Proofs.Ytcifdianinbkeaa.Lg

/-
  What Save does where nothing stands in its way; the laws' laid, notes and awake. By program (gen/jour4.py).
-/
set_option linter.unusedVariables false
set_option linter.unusedSimpArgs false
namespace Go.Proofs.Ytcifdianinbkeaa.Lg
open Go Go.RowKit Go.Proofs.Ytcifdianinbkeaa.WirePure
/-- A disk that is on and goes through with every write. -/
def DG (d : DSt) : Prop := d.down = false ∧ d.armed = false ∧ 2 ≤ d.bl.length ∧ d.bl.length ≤ 64 ∧ ∀ x ∈ d.bl, IsBytes x ∧ x.length ≤ 1024
theorem dg_write {d : DSt} {k : Nat} {b : List Int} (h : DG d) (hk : k < 2) (hb : IsBytes b) (hl : b.length ≤ 1024) :
    ∃ d', dwrite d (k : Int) b = (0, d') ∧ DG d' ∧ d'.bl = d.bl.set k b ∧ d'.writes = IntKind.i64.wrap (d.writes + 1) := by
  obtain ⟨h1, h2, h3, h4, h5⟩ := h
  refine ⟨_, dwrite_goes h1 (by omega) hl (by rw [h2]; simp), ⟨h1, h2, by simpa using h3, by simpa using h4, set_mem h5 ⟨hb, hl⟩⟩, rfl, rfl⟩
theorem jend_same {j : JSt} {d : DSt} (he : j.ended = false) (hd : d.down = false) : jend j d = j := by
  cases j; simp only [jend] at *; simp [he, hd]
theorem jsave_ok {j : JSt} {d : DSt} {n : NSt} (hj : JOk j) (he : j.ended = false) (hd : DG d) (hn : noteOk n j.parts) (hf : follows j.n n) (hg : j.gen < 1099511627776) :
    ∃ d', jsave j d n = (0, ⟨j.parts, n, j.gen + 1, 1 - j.slot, false⟩, d') ∧ DG d' ∧ d'.bl = d.bl.set (1 - j.slot).toNat (nbytes (j.gen + 1) n) ∧ d'.writes = IntKind.i64.wrap (d.writes + 1) ∧ JOk ⟨j.parts, n, j.gen + 1, 1 - j.slot, false⟩ := by
  have hl := nbytes_len hn hj.2.2.1 (gen := j.gen + 1) (by have := hj.2.2.2.1; omega)
  obtain ⟨d', h1, h2, h3, h4⟩ := dg_write (k := (1 - j.slot).toNat) hd (by rcases hj.2.2.2.2.2 with e | e <;> rw [e] <;> decide) (nbytes_bytes n (j.gen + 1)) (by omega)
  have e : (((1 - j.slot).toNat : Nat) : Int) = 1 - j.slot := by rcases hj.2.2.2.2.2 with e | e <;> rw [e] <;> rfl
  rw [e] at h1
  refine ⟨d', ?_, h2, h3, h4, hn, hj.2.1, hj.2.2.1, by have := hj.2.2.2.1; show 1 ≤ j.gen + 1; omega, by show j.gen + 1 ≤ _; omega, by show 1 - j.slot = 0 ∨ 1 - j.slot = 1; have := hj.2.2.2.2.2; omega⟩
  unfold jsave
  rw [jend_same he hd.1, if_neg (by simp [he]), if_neg (by simpa using hn), if_neg (by simpa using hf), if_neg (by omega), h1]
  simp only [ne_eq, not_true_eq_false, if_false, he]
theorem dg_new : DG (dnew 2) := ⟨rfl, rfl, by simp [dnew], by simp [dnew], fun x hx => by simp [dnew] at hx; subst hx; exact ⟨by simp [IsBytes], by simp⟩⟩
theorem jformat_new {m : Nat} (h1 : 1 ≤ m) (h2 : m ≤ 4) : ∃ d', jformat (dnew 2) m = (0, some (jnew m), d') ∧ DG d' ∧ d'.bl = [nbytes 1 (jnew m).n, []] ∧ d'.writes = 2 := by
  have hok := jnew_ok h1 h2
  have hl := nbytes_len hok.1 hok.2.2.1 (gen := 1) (by decide)
  obtain ⟨d1, a1, a2, a3, a4⟩ := dg_write (k := 1) (b := []) dg_new (by decide) (by simp [IsBytes]) (by simp)
  obtain ⟨d2, b1, b2, b3, b4⟩ := dg_write (k := 0) (b := nbytes 1 (jnew m).n) a2 (by decide) (nbytes_bytes _ _) (by omega)
  refine ⟨d2, ?_, b2, ?_, ?_⟩
  · unfold jformat
    rw [if_neg (by omega), if_neg (by simp [dnew]), show dwrite (dnew 2) 1 [] = (0, d1) from a1]
    simp only [ne_eq, not_true_eq_false, if_false, Int.toNat_natCast]
    rw [show dwrite d1 0 (nbytes 1 (jnew m).n) = (0, d2) from b1]
    simp
  · rw [b3, a3]; rfl
  · rw [b4, a4]; rfl
end Go.Proofs.Ytcifdianinbkeaa.Lg

/-
  The law's next note, walked. By program (gen/jour5.py).
-/
set_option linter.unusedVariables false
set_option linter.unusedSimpArgs false
namespace Go.Proofs.Ytcifdianinbkeaa.Lg
open Go Go.RowKit Go.Proofs.Ytcifdianinbkeaa.WirePure
theorem flatKI_set (l : List Int) (i : Nat) (x : Int) : (KI.flat l).set (0 + (i : Int).toNat * 1) (.int .i64 x) = KI.flat (l.set i x) := by
  have e : 0 + (i : Int).toNat * 1 = i := by omega
  rw [e, El.int_flat, El.int_flat, List.map_set]
/-- Ends that have gone on. -/
def Gone (c x : List Int) : Prop := x.length = c.length ∧ ∀ q, q < c.length → c.getD q 0 ≤ x.getD q 0 ∧ x.getD q 0 ≤ 256
theorem set_getD_ne {l : List Int} {i q : Nat} {x : Int} (h : q ≠ i) : (l.set i x).getD q 0 = l.getD q 0 := by
  rw [List.getD_eq_getElem?_getD, List.getD_eq_getElem?_getD, List.getElem?_set_ne (by omega)]
theorem set_getD_eq {l : List Int} {i : Nat} {x : Int} (h : i < l.length) : (l.set i x).getD i 0 = x := by
  rw [List.getD_eq_getElem?_getD, List.getElem?_set_self h]; rfl
theorem Gone.put {c x : List Int} (h : Gone c x) {i : Nat} {v : Int} (h1 : c.getD i 0 ≤ v) (h2 : v ≤ 256) : Gone c (x.set i v) := by
  refine ⟨by rw [List.length_set]; exact h.1, fun q hq => ?_⟩
  by_cases e : q = i
  · subst e; rw [set_getD_eq (by have := h.1; omega)]; exact ⟨h1, h2⟩
  · rw [set_getD_ne e]; exact h.2 q hq
end Go.Proofs.Ytcifdianinbkeaa.Lg

/-
  The law JournalMemory, walked. By program (gen/jour6.py).
-/
set_option linter.unusedVariables false
set_option linter.unusedSimpArgs false
namespace Go.Proofs.Ytcifdianinbkeaa.Lg
open Go Go.RowKit Go.Proofs.Ytcifdianinbkeaa.WirePure
end Go.Proofs.Ytcifdianinbkeaa.Lg

/-
  The journal's readEntry, walked. By program (gen/jour7.py).
-/
set_option linter.unusedVariables false
set_option linter.unusedSimpArgs false
namespace Go.Proofs.Ytcifdianinbkeaa.Lg
open Go Go.RowKit Go.Proofs.Ytcifdianinbkeaa.WirePure
theorem three {k : Nat} (hk : k < 3) : k = 0 ∨ k = 1 ∨ k = 2 := by omega
theorem sel3p {k : Nat} (hk : k < 3) (g : Nat) : ([Value.pointer (some ⟨g, 4, none⟩), .pointer (some ⟨g, 0, none⟩), .pointer (some ⟨g, 3, none⟩)]).getD k nilV = .pointer (some ⟨g, sel3 k 4 0 3, none⟩) := by
  rcases three hk with rfl | rfl | rfl <;> rfl
theorem sel3b {k : Nat} (hk : k < 3) {a b c d e : Value} : Nat.blt (sel3 k 4 0 3) ([a, b, c, d, e]).length = true := by
  rcases three hk with rfl | rfl | rfl <;> rfl
theorem sel3s {k : Nat} (hk : k < 3) {x0 x1 x2 x : Int} {b c : Value} : ([Value.int .i64 x1, b, c, .int .i64 x2, .int .i64 x0]).set (sel3 k 4 0 3) (.int .i64 x) = [.int .i64 (if k = 1 then x else x1), b, c, .int .i64 (if k = 2 then x else x2), .int .i64 (if k = 0 then x else x0)] := by
  rcases three hk with rfl | rfl | rfl <;> rfl
theorem two {k : Nat} (hk : k < 2) : k = 0 ∨ k = 1 := by omega
theorem sel2p {k : Nat} (hk : k < 2) (g : Nat) : ([Value.pointer (some ⟨g, 1, none⟩), .pointer (some ⟨g, 2, none⟩)]).getD k nilV = .pointer (some ⟨g, sel3 k 1 2 2, none⟩) := by
  rcases two hk with rfl | rfl <;> rfl
theorem sel2b {k : Nat} (hk : k < 2) {a b c d e : Value} : Nat.blt (sel3 k 1 2 2) ([a, b, c, d, e]).length = true := by
  rcases two hk with rfl | rfl <;> rfl
theorem sel2s {k : Nat} (hk : k < 2) {a b c d e v : Value} : ([a, b, c, d, e]).set (sel3 k 1 2 2) v = [a, if k = 0 then v else b, if k = 0 then c else v, d, e] := by
  rcases two hk with rfl | rfl <;> rfl
theorem Sat.pick2 {B w : World} {T : Nat} {vN v1 v2 : Value} {lN l1 l2 : List Int} {L : List Assn} {k : Nat} (hk : k < 2) (hs : Sat B w (Own T 1 vN lN.length (KI.flat lN) :: Own T 1 v1 l1.length (KI.flat l1) :: Own T 1 v2 l2.length (KI.flat l2) :: L)) :
    Sat B w (Own T 1 (if k = 0 then vN else v1) (if k = 0 then lN else l1).length (KI.flat (if k = 0 then lN else l1)) :: Own T 1 (if k = 0 then v2 else vN) (if k = 0 then l2 else lN).length (KI.flat (if k = 0 then l2 else lN)) :: L) := by
  rcases two hk with rfl | rfl
  · exact hs.erase 1
  · exact (hs.front 1 rfl).erase 2
theorem IsBytes.dropn {l : List Int} (h : IsBytes l) (i : Nat) : IsBytes (l.drop i) := fun q hq => h q (List.mem_of_mem_drop hq)
set_option maxRecDepth 100000 in
set_option maxHeartbeats 1000000 in
theorem readEntry_c (w : World) (A : Option Addr) (n c : Nat) (b : List Int) (hr : Rd w A n c 1 (bytesV b)) (hb : IsBytes b) (hn : n ≤ 1000000) (parts : Int) :
    Calls Try.prog 71 [.slice A n c, .int .i64 parts].toArray w (Ret (fun v' w' => ∃ (q : NSt) (g : Int) (Ap : Option Addr) (cp : Nat) (Ac : Option Addr) (cc : Nat) (ok : Bool), v' = .tuple #[.agg #[.int .i64 q.batch, .slice Ap q.prev.length cp, .slice Ac q.cur.length cc, .int .i64 q.att, .int .i64 g], .bool ok] ∧ Sat w w' [Own 3 1 (.slice Ap q.prev.length cp) q.prev.length (KI.flat q.prev), Own 3 1 (.slice Ac q.cur.length cc) q.cur.length (KI.flat q.cur)] ∧ ((ok = true ∧ rentry b parts = some (q, g)) ∨ (ok = false ∧ rentry b parts = none)))) := by
  have hs := Sat.start w
  refine Zb Try.func71 rfl rfl rfl (Zs (Ls_alloc hs inf106 rfl (fun b2 w1 hs => (Za rfl (Zt (Ls_alloc hs inf106 rfl (fun b4 w3 hs => (Zj (St_seq (Zs (Zf un106 inf3 rfl 4 rfl (Zf un106 inf53 rfl 0 rfl (Zf un53 inf51 rfl 0 rfl (Zf un51 inf3 rfl 0 rfl (Zf un106 inf53 rfl 0 rfl (Zf un53 inf3 rfl 3 rfl (Ls_literal [_, _, _] hs un143 inf142 rfl rfl rfl rfl rfl rfl (fun b5 w6 hs => ?_))))))))))))))))))
  simp only [List.flatMap_cons, List.flatMap_nil, Value.cells, List.cons_append, List.nil_append] at hs
  refine Zr (run_len un143 rfl) rfl (Zm rfl (Zj (St_block ?_)))
  replace hs := hs.F2.F1.F2
  obtain ⟨En7, hEn7⟩ := ex8 fun (k : Nat) (x0 : Int) (x1 : Int) (x2 : Int) (A1 : Option Addr) (n1 : Nat) (c1 : Nat) (b1 : List Int) => ([(0, .slice A1 n1 c1), (1, .int .i64 parts), (4, .pointer (some ⟨b2, 0, none⟩)), (6, .pointer (some ⟨b4, 0, none⟩)), (23, .slice (some ⟨b5, 0, none⟩) 3 3), (24, .int .i64 ((3 : Nat) : Int)), (25, .int .i64 (k : Int))] : Env)
  obtain ⟨Iv8, hIv8⟩ := ew8 fun (k : Nat) (x0 : Int) (x1 : Int) (x2 : Int) (A1 : Option Addr) (n1 : Nat) (c1 : Nat) (b1 : List Int) (wr : World) => Sat w wr [Blk b4 [.int .i64 x1, .slice none 0 0, .slice none 0 0, .int .i64 x2, .int .i64 x0] 106, Blk b5 [.pointer (some ⟨b4, 4, none⟩), .pointer (some ⟨b4, 0, none⟩), .pointer (some ⟨b4, 3, none⟩)] 142, Blk b2 [.int .i64 0, .slice none 0 0, .slice none 0 0, .int .i64 0, .int .i64 0] 106] ∧ k ≤ 3 ∧ rentry b parts = rdK k x0 x1 x2 b1 parts ∧ Rd w A1 n1 c1 1 (bytesV b1) ∧ IsBytes b1 ∧ n1 ≤ 1000000
  obtain ⟨ms9, hms9⟩ := ex8 fun (k : Nat) (x0 : Int) (x1 : Int) (x2 : Int) (A1 : Option Addr) (n1 : Nat) (c1 : Nat) (b1 : List Int) => (3 - k : Nat)
  refine St_loop En7 Iv8 ms9 (0, 0, 0, 0, A, n, c, b) ?_ ?_ ?_
  · rw [hIv8]
    exact ⟨hs, by omega, rfl, hr, hb, hn⟩
  · rw [hEn7]; exact sE ⟨rfl, rfl, rfl, rfl, rfl, rfl, rfl, trivial⟩
  rintro ⟨k, x0, x1, x2, A1, n1, c1, b1⟩ wr hI10
  rw [hIv8] at hI10
  obtain ⟨hs, hk, hre, hr1, hb1, hn1⟩ := hI10
  refine St_eqE (hEn7 _ _ _ _ _ _ _ _) (Zs (Zr (run_lss rfl rfl) rfl (Zj (St_seq (St_ifP rfl (fun h11 => ?_) (fun h11 => ?_))))))
  · refine St_skip (Zq (St_seq (St_block (Zs ?_))))
    have hk3 : k < 3 := by omega
    refine Ls_index (El.val) ((show Rd _ _ 3 3 1 (El.val.flat [.pointer (some ⟨b4, 4, none⟩), .pointer (some ⟨b4, 0, none⟩), .pointer (some ⟨b4, 3, none⟩)]) from rd_block (hs.is_at 1 rfl).2 1 3 rfl)) un143 inf142 rfl rfl (by omega) (by omega) (sel3p hk3 _) rfl (fun b12 o13 hc14 => (Zl sc142 rfl (hc14 0 _ rfl) (Za rfl (Zt (Zm rfl (Zc fn79 rfl (Take_c wr A1 n1 c1 b1 (hr1.inB hs) hb1 (by omega)) rfl ?_))))))
    rintro v15 w16 ⟨rfl, rfl⟩
    obtain ⟨⟨xv, a, e⟩, htk⟩ : ∃ q, tk 0 0 b1 = q := ⟨_, rfl⟩
    rw [tkV_eq htk]
    refine Zm rfl (Zr (run_extract rfl rfl) rfl (Zr (run_extract rfl rfl) rfl (Zr (run_extract rfl rfl) rfl (Za rfl (Za rfl (Za rfl (Zj (St_seq (Zs (Zm rfl (Zr (run_neq rfl rfl) rfl (Zm rfl (Ls_partP (t := 37) rfl (fun h17 => ?_) (fun h17 => ?_))))))))))))))
    · refine Zx rfl (Zx rfl (Zr (run_pick_t rfl rfl) rfl (Zj (St_ift rfl (Zs (Zr (run_buildO (pv := []) rfl (bld106 )) rfl ?_))))))
      replace hs := hs.F2
      refine Ls_storeAgg hs inf106 rfl rfl rfl rfl (by simp [Value.oneCell', Value.cells, jcells]) (fun w19 hs => (Za rfl (Zj (St_ret (Jm_then_ret (Jm_block_ret (Jm_then_ret (Jm_then_ret (Jm_block_ret (Jm_then_ret (Jm_retCT rfl agg106 inf106 rfl rfl rfl (hs.blk_cells 0 rfl 0 5) ?_)))))))))))
      first
      | exact ⟨_, rfl, ⟨0, [], [], 0⟩, 0, none, 0, none, 0, false, rfl, (hs.forget.own_nil 3 1).own_nil 3 1, .inr ⟨rfl, by rw [hre, rdK_none (by omega) (tk1_none htk (by omega))]⟩⟩
      | exact ⟨_, rfl, ⟨0, [], [], 0⟩, 0, none, 0, none, 0, false, rfl, (hs.forget.own_nil 3 1).own_nil 3 1, .inr ⟨rfl, by rw [hre2, rdN_none (by omega) (tn1_none htn (by assumption))]⟩⟩
      | exact ⟨_, rfl, ⟨0, [], [], 0⟩, 0, none, 0, none, 0, false, rfl, (hs.forget.own_nil 3 1).own_nil 3 1, .inr ⟨rfl, by rw [hre2]; unfold rdF; rw [if_pos (.inl (by omega))]⟩⟩
      | exact ⟨_, rfl, ⟨0, [], [], 0⟩, 0, none, 0, none, 0, false, rfl, (hs.forget.own_nil 3 1).own_nil 3 1, .inr ⟨rfl, by rw [hre2]; unfold rdF; rw [if_pos (.inr (.inl (by assumption)))]⟩⟩
      | exact ⟨_, rfl, ⟨0, [], [], 0⟩, 0, none, 0, none, 0, false, rfl, (hs.forget.own_nil 3 1).own_nil 3 1, .inr ⟨rfl, by rw [hre2]; unfold rdF; rw [if_pos (.inr (.inr (by assumption)))]⟩⟩
    refine Zo rfl (Zm rfl (Zo rfl (Zr (run_gtr rfl rfl) rfl (Zr (run_pick_f rfl rfl) rfl (Zj (St_ifP rfl (fun h20 => ?_) (fun h20 => ?_)))))))
    · refine Zs (Zr (run_buildO (pv := []) rfl (bld106 )) rfl ?_)
      replace hs := hs.F2
      refine Ls_storeAgg hs inf106 rfl rfl rfl rfl (by simp [Value.oneCell', Value.cells, jcells]) (fun w21 hs => (Za rfl (Zj (St_ret (Jm_then_ret (Jm_block_ret (Jm_then_ret (Jm_then_ret (Jm_block_ret (Jm_then_ret (Jm_retCT rfl agg106 inf106 rfl rfl rfl (hs.blk_cells 0 rfl 0 5) ?_)))))))))))
      first
      | exact ⟨_, rfl, ⟨0, [], [], 0⟩, 0, none, 0, none, 0, false, rfl, (hs.forget.own_nil 3 1).own_nil 3 1, .inr ⟨rfl, by rw [hre, rdK_none (by omega) (tk1_none htk (by omega))]⟩⟩
      | exact ⟨_, rfl, ⟨0, [], [], 0⟩, 0, none, 0, none, 0, false, rfl, (hs.forget.own_nil 3 1).own_nil 3 1, .inr ⟨rfl, by rw [hre2, rdN_none (by omega) (tn1_none htn (by assumption))]⟩⟩
      | exact ⟨_, rfl, ⟨0, [], [], 0⟩, 0, none, 0, none, 0, false, rfl, (hs.forget.own_nil 3 1).own_nil 3 1, .inr ⟨rfl, by rw [hre2]; unfold rdF; rw [if_pos (.inl (by omega))]⟩⟩
      | exact ⟨_, rfl, ⟨0, [], [], 0⟩, 0, none, 0, none, 0, false, rfl, (hs.forget.own_nil 3 1).own_nil 3 1, .inr ⟨rfl, by rw [hre2]; unfold rdF; rw [if_pos (.inr (.inl (by assumption)))]⟩⟩
      | exact ⟨_, rfl, ⟨0, [], [], 0⟩, 0, none, 0, none, 0, false, rfl, (hs.forget.own_nil 3 1).own_nil 3 1, .inr ⟨rfl, by rw [hre2]; unfold rdF; rw [if_pos (.inr (.inr (by assumption)))]⟩⟩
    refine St_skip (Zq (St_drawC 7 (fun x => Below wr.heap.size wr x) mixed (fun w22 q23 => ?_)))
    have hH := q23.below
    replace hs := hs.quiet q23
    refine AnC_grow hH ?_
    replace hH := Below.refl w22.heap.size w22
    have he0 : e = 0 := by omega
    subst he0
    have hrg := tk_range hb1 htk
    obtain ⟨an, rfl⟩ : ∃ an : Nat, a = (an : Int) := ⟨a.toNat, by omega⟩
    have hl1 := rdB_len hr1
    have hc1 := hr1.cap
    refine Yr (fun _ => hH) 0 rfl (by kernel_rfl) (fun x => run_move rfl) (Yr (fun _ => hH) 1 rfl (by kernel_rfl) (fun x => run_move rfl) (Yr (fun _ => hH) 2 rfl (by kernel_rfl) (fun x => run_conv_int un3 us134 rfl (show _ = xv by rw [w64 (by omega)])) (Yr (fun _ => hH) 3 rfl (by kernel_rfl) (fun x => run_move rfl) (Yr (fun _ => hH) 4 rfl (by kernel_rfl) (fun x => run_move rfl) (Yr (fun _ => hH) 5 rfl (by kernel_rfl) (fun x => run_as (run_slice_l un125 inf5 rfl rfl (by omega) (by omega)) (show _ = Value.slice (if c1 = an then A1 else A1.map (·.add (an * 1))) (n1 - an) (c1 - an) from rfl)) (Yr (fun _ => hH) 6 rfl (by kernel_rfl) (fun x => run_nilCheck rfl) (AnC_only 7 (by kernel_rfl) rfl (Ls_store hs inf3 rfl rfl rfl (sel3b hk3) (fun w24 hs => ?_)))))))))
    rw [sel3s hk3] at hs
    refine Ls_nil (Jm_AnC_closed (by kernel_rfl) (AnC_switch (H' := fun x => Below w24.heap.size w24 x) 9 (by kernel_rfl) ?_))
    replace hH := Below.refl w24.heap.size w24
    refine Yr (fun _ => hH) 8 rfl (by kernel_rfl) (fun x => run_assign rfl) (AnC_done (by kernel_rfl) (Jm_block_normal (Zq (St_region (Zr (run_add rfl rfl (w64 (by omega))) rfl (Zm rfl (Ls_nil (Jm_round (k + 1, if k = 0 then xv else x0, if k = 1 then xv else x1, if k = 2 then xv else x2, (if c1 = an then A1 else A1.map (·.add (an * 1))), n1 - an, c1 - an, b1.drop an) ?_ ?_ ?_))))))))
    · rw [hEn7]; exact sE ⟨rfl, rfl, rfl, rfl, rfl, rfl, rfl, trivial⟩
    · rw [hIv8]
      exact ⟨hs, by omega, by rw [hre, rdK_some hk3 (tk1_some htk (by omega))]; rfl, rdB_drop hr1 an (by omega), hb1.dropn an, by omega⟩
    rw [hms9, hms9]
    omega
  refine St_exit (Jm_then_exit (Jm_then_exit (Jm_block_same (Zq (St_seq (Zs ?_))))))
  have hk9 : k = 3 := by omega
  rw [hk9, rdK_3] at hre
  replace hs := (hs.own_nil 3 1).own_nil 3 1
  refine Zf un106 inf53 rfl 0 rfl (Zf un53 inf51 rfl 0 rfl (Zf un51 inf25 rfl 1 rfl (Zf un106 inf53 rfl 0 rfl (Zf un53 inf51 rfl 0 rfl (Zf un51 inf25 rfl 2 rfl (Ls_literal [_, _] hs un147 inf146 rfl rfl rfl rfl rfl rfl (fun b25 w26 hs => ?_)))))))
  simp only [List.flatMap_cons, List.flatMap_nil, Value.cells, List.cons_append, List.nil_append] at hs
  refine Zr (run_len un147 rfl) rfl (Zm rfl (Zj (St_block ?_)))
  replace hs := hs.E4.F2.F2.F4.F3.F4
  obtain ⟨En27, hEn27⟩ := ex9 fun (k2 : Nat) (v1 : Value) (v2 : Value) (l1 : List Int) (l2 : List Int) (Ab : Option Addr) (nb : Nat) (cb : Nat) (bb : List Int) => ([(0, .slice Ab nb cb), (1, .int .i64 parts), (4, .pointer (some ⟨b2, 0, none⟩)), (6, .pointer (some ⟨b4, 0, none⟩)), (56, .slice (some ⟨b25, 0, none⟩) 2 2), (57, .int .i64 ((2 : Nat) : Int)), (58, .int .i64 (k2 : Int))] : Env)
  obtain ⟨Iv28, hIv28⟩ := ew9 fun (k2 : Nat) (v1 : Value) (v2 : Value) (l1 : List Int) (l2 : List Int) (Ab : Option Addr) (nb : Nat) (cb : Nat) (bb : List Int) (wr2 : World) => Sat w wr2 [Blk b4 [.int .i64 x1, v1, v2, .int .i64 x2, .int .i64 x0] 106, Blk b25 [.pointer (some ⟨b4, 1, none⟩), .pointer (some ⟨b4, 2, none⟩)] 146, Blk b2 [.int .i64 0, .slice none 0 0, .slice none 0 0, .int .i64 0, .int .i64 0] 106, Own 3 1 v1 l1.length (KI.flat l1), Own 3 1 v2 l2.length (KI.flat l2)] ∧ k2 ≤ 2 ∧ rentry b parts = rdN k2 x0 x1 x2 l1 l2 bb parts ∧ Rd w Ab nb cb 1 (bytesV bb) ∧ IsBytes bb ∧ nb ≤ 1000000 ∧ l1.length ≤ 4 ∧ l2.length ≤ 4
  obtain ⟨ms29, hms29⟩ := ex9 fun (k2 : Nat) (v1 : Value) (v2 : Value) (l1 : List Int) (l2 : List Int) (Ab : Option Addr) (nb : Nat) (cb : Nat) (bb : List Int) => (2 - k2 : Nat)
  refine St_loop En27 Iv28 ms29 (0, .slice none 0 0, .slice none 0 0, [], [], A1, n1, c1, b1) ?_ ?_ ?_
  · rw [hIv28]
    exact ⟨hs, by omega, hre, hr1, hb1, hn1, by simp, by simp⟩
  · rw [hEn27]; exact sE ⟨rfl, rfl, rfl, rfl, rfl, rfl, rfl, trivial⟩
  rintro ⟨k2, v1, v2, l1, l2, Ab, nb, cb, bb⟩ wr2 hI30
  rw [hIv28] at hI30
  obtain ⟨hs, hkk, hre2, hrb, hbb, hnb, hl1, hl2⟩ := hI30
  refine St_eqE (hEn27 _ _ _ _ _ _ _ _ _) (Zs (Zr (run_lss rfl rfl) rfl (Zj (St_seq (St_ifP rfl (fun h31 => ?_) (fun h31 => ?_))))))
  · refine St_skip (Zq (St_seq (St_block (Zs ?_))))
    have hk2 : k2 < 2 := by omega
    refine Ls_index (El.val) ((show Rd _ _ 2 2 1 (El.val.flat [.pointer (some ⟨b4, 1, none⟩), .pointer (some ⟨b4, 2, none⟩)]) from rd_block (hs.is_at 1 rfl).2 1 2 rfl)) un147 inf146 rfl rfl (by omega) (by omega) (sel2p hk2 _) rfl (fun b32 o33 hc34 => (Zl sc146 rfl (hc34 0 _ rfl) (Za rfl (Zt (Zm rfl (Zc fn80 rfl (TakeNums_c wr2 Ab nb cb bb 4 (hrb.inB hs) hbb (by omega) (by decide)) rfl ?_))))))
    rintro v35 w36 ⟨AT, cT, rfl, hsT⟩
    obtain ⟨⟨l, a2, e2⟩, htn⟩ : ∃ q, tnum bb 4 = q := ⟨_, rfl⟩
    simp only [htn] at hsT ⊢
    replace hs := hs.T hsT
    refine Zm rfl (Zr (run_extract rfl rfl) rfl (Zr (run_extract rfl rfl) rfl (Zr (run_extract rfl rfl) rfl (Za rfl (Za rfl (Za rfl (Zj (St_seq (Zs (Zm rfl (Zr (run_neq rfl rfl) rfl (Zj (St_ifP rfl (fun h37 => ?_) (fun h37 => ?_))))))))))))))
    · refine Zs (Zr (run_buildO (pv := []) rfl (bld106 )) rfl ?_)
      replace hs := hs.F3
      refine Ls_storeAgg hs inf106 rfl rfl rfl rfl (by simp [Value.oneCell', Value.cells, jcells]) (fun w38 hs => (Za rfl (Zj (St_ret (Jm_then_ret (Jm_block_ret (Jm_then_ret (Jm_then_ret (Jm_block_ret (Jm_then_ret (Jm_retCT rfl agg106 inf106 rfl rfl rfl (hs.blk_cells 0 rfl 0 5) ?_)))))))))))
      first
      | exact ⟨_, rfl, ⟨0, [], [], 0⟩, 0, none, 0, none, 0, false, rfl, (hs.forget.own_nil 3 1).own_nil 3 1, .inr ⟨rfl, by rw [hre, rdK_none (by omega) (tk1_none htk (by omega))]⟩⟩
      | exact ⟨_, rfl, ⟨0, [], [], 0⟩, 0, none, 0, none, 0, false, rfl, (hs.forget.own_nil 3 1).own_nil 3 1, .inr ⟨rfl, by rw [hre2, rdN_none (by omega) (tn1_none htn (by assumption))]⟩⟩
      | exact ⟨_, rfl, ⟨0, [], [], 0⟩, 0, none, 0, none, 0, false, rfl, (hs.forget.own_nil 3 1).own_nil 3 1, .inr ⟨rfl, by rw [hre2]; unfold rdF; rw [if_pos (.inl (by omega))]⟩⟩
      | exact ⟨_, rfl, ⟨0, [], [], 0⟩, 0, none, 0, none, 0, false, rfl, (hs.forget.own_nil 3 1).own_nil 3 1, .inr ⟨rfl, by rw [hre2]; unfold rdF; rw [if_pos (.inr (.inl (by assumption)))]⟩⟩
      | exact ⟨_, rfl, ⟨0, [], [], 0⟩, 0, none, 0, none, 0, false, rfl, (hs.forget.own_nil 3 1).own_nil 3 1, .inr ⟨rfl, by rw [hre2]; unfold rdF; rw [if_pos (.inr (.inr (by assumption)))]⟩⟩
    refine St_skip (Zq (St_drawC 6 (fun x => Below w36.heap.size w36 x) mixed (fun w39 q40 => ?_)))
    have hH := q40.below
    replace hs := hs.quiet q40
    refine AnC_grow hH ?_
    replace hH := Below.refl w39.heap.size w39
    have he0 : e2 = 0 := by omega
    subst he0
    have hrg := tnum_at hbb htn
    obtain ⟨an, rfl⟩ : ∃ an : Nat, a2 = (an : Int) := ⟨a2.toNat, by omega⟩
    have hlb := rdB_len hrb
    have hcb := hrb.cap
    refine Yr (fun _ => hH) 0 rfl (by kernel_rfl) (fun x => run_move rfl) (Yr (fun _ => hH) 1 rfl (by kernel_rfl) (fun x => run_move rfl) (Yr (fun _ => hH) 2 rfl (by kernel_rfl) (fun x => run_move rfl) (Yr (fun _ => hH) 3 rfl (by kernel_rfl) (fun x => run_move rfl) (Yr (fun _ => hH) 4 rfl (by kernel_rfl) (fun x => run_as (run_slice_l un125 inf5 rfl rfl (by omega) (by omega)) (show _ = Value.slice (if cb = an then Ab else Ab.map (·.add (an * 1))) (nb - an) (cb - an) from rfl)) (Yr (fun _ => hH) 5 rfl (by kernel_rfl) (fun x => run_nilCheck rfl) (AnC_only 6 (by kernel_rfl) rfl ?_))))))
    replace hs := hs.F1
    refine Ls_store hs inf25 rfl rfl rfl (sel2b hk2) (fun w41 hs => ?_)
    rw [sel2s hk2] at hs
    replace hs := hs.F5.F5.F3
    replace hs := hs.pick2 hk2
    refine Ls_nil (Jm_AnC_closed (by kernel_rfl) (AnC_switch (H' := fun x => Below w41.heap.size w41 x) 8 (by kernel_rfl) ?_))
    replace hH := Below.refl w41.heap.size w41
    refine Yr (fun _ => hH) 7 rfl (by kernel_rfl) (fun x => run_assign rfl) (AnC_done (by kernel_rfl) (Jm_block_normal (Zq (St_region (Zr (run_add rfl rfl (w64 (by omega))) rfl (Zm rfl (Ls_nil ?_)))))))
    replace hs := hs.F1.F1.F4.F4.F4
    refine Jm_round (k2 + 1, if k2 = 0 then Value.slice AT l.length cT else v1, if k2 = 0 then v2 else Value.slice AT l.length cT, if k2 = 0 then l else l1, if k2 = 0 then l2 else l, (if cb = an then Ab else Ab.map (·.add (an * 1))), nb - an, cb - an, bb.drop an) ?_ ?_ ?_
    · rw [hEn27]; exact sE ⟨rfl, rfl, rfl, rfl, rfl, rfl, rfl, trivial⟩
    · rw [hIv28]
      exact ⟨hs, by omega, by rw [hre2, rdN_some hk2 (tn1_some htn)]; rfl, rdB_drop hrb an (by omega), hbb.dropn an, by omega, by split <;> omega, by split <;> omega⟩
    rw [hms29, hms29]
    omega
  refine St_exit (Jm_then_exit (Jm_then_exit (Jm_block_same (Zq (St_seq (Zs ?_))))))
  have hk9 : k2 = 2 := by omega
  rw [hk9, rdN_2] at hre2
  have hlb := rdB_len hrb
  obtain ⟨P1, q1, hv1, _, _, _⟩ := (hs.front 3 rfl).own_form
  obtain ⟨P2, q2, hv2, _, _, _⟩ := (hs.front 4 rfl).own_form
  subst hv1
  subst hv2
  refine Zm rfl (Zr (run_len un125 rfl) rfl (Zr (run_gtr rfl rfl) rfl (Zm rfl (Ls_partP (t := 81) rfl (fun h42 => ?_) (fun h42 => ?_)))))
  · refine Zx rfl (Zx rfl (Zx rfl (Zr (run_pick_t rfl rfl) rfl (Zm rfl (Zx rfl (Zx rfl (Zx rfl (Zx rfl (Zx rfl (Zr (run_pick_t rfl rfl) rfl (Zj (St_ift rfl (Zs (Zr (run_buildO (pv := []) rfl (bld106 )) rfl ?_))))))))))))))
    replace hs := hs.F2
    refine Ls_storeAgg hs inf106 rfl rfl rfl rfl (by simp [Value.oneCell', Value.cells, jcells]) (fun w44 hs => (Za rfl (Zj (St_ret (Jm_then_ret (Jm_retCT rfl agg106 inf106 rfl rfl rfl (hs.blk_cells 0 rfl 0 5) ?_))))))
    first
    | exact ⟨_, rfl, ⟨0, [], [], 0⟩, 0, none, 0, none, 0, false, rfl, (hs.forget.own_nil 3 1).own_nil 3 1, .inr ⟨rfl, by rw [hre, rdK_none (by omega) (tk1_none htk (by omega))]⟩⟩
    | exact ⟨_, rfl, ⟨0, [], [], 0⟩, 0, none, 0, none, 0, false, rfl, (hs.forget.own_nil 3 1).own_nil 3 1, .inr ⟨rfl, by rw [hre2, rdN_none (by omega) (tn1_none htn (by assumption))]⟩⟩
    | exact ⟨_, rfl, ⟨0, [], [], 0⟩, 0, none, 0, none, 0, false, rfl, (hs.forget.own_nil 3 1).own_nil 3 1, .inr ⟨rfl, by rw [hre2]; unfold rdF; rw [if_pos (.inl (by omega))]⟩⟩
    | exact ⟨_, rfl, ⟨0, [], [], 0⟩, 0, none, 0, none, 0, false, rfl, (hs.forget.own_nil 3 1).own_nil 3 1, .inr ⟨rfl, by rw [hre2]; unfold rdF; rw [if_pos (.inr (.inl (by assumption)))]⟩⟩
    | exact ⟨_, rfl, ⟨0, [], [], 0⟩, 0, none, 0, none, 0, false, rfl, (hs.forget.own_nil 3 1).own_nil 3 1, .inr ⟨rfl, by rw [hre2]; unfold rdF; rw [if_pos (.inr (.inr (by assumption)))]⟩⟩
  refine Zo rfl (Zf un106 inf3 rfl 4 rfl (Zo rfl (Zl sc3 rfl (hs.blk_at 0 rfl 4 rfl) (Zo rfl (Zr (run_eql rfl rfl) rfl (Zr (run_pick_f rfl rfl) rfl (Zm rfl (Ls_partP (t := 86) rfl (fun h45 => ?_) (fun h45 => ?_)))))))))
  · refine Zx rfl (Zx rfl (Zx rfl (Zx rfl (Zx rfl (Zr (run_pick_t rfl rfl) rfl (Zj (St_ift rfl (Zs (Zr (run_buildO (pv := []) rfl (bld106 )) rfl ?_)))))))))
    replace hs := hs.F2
    refine Ls_storeAgg hs inf106 rfl rfl rfl rfl (by simp [Value.oneCell', Value.cells, jcells]) (fun w47 hs => (Za rfl (Zj (St_ret (Jm_then_ret (Jm_retCT rfl agg106 inf106 rfl rfl rfl (hs.blk_cells 0 rfl 0 5) ?_))))))
    first
    | exact ⟨_, rfl, ⟨0, [], [], 0⟩, 0, none, 0, none, 0, false, rfl, (hs.forget.own_nil 3 1).own_nil 3 1, .inr ⟨rfl, by rw [hre, rdK_none (by omega) (tk1_none htk (by omega))]⟩⟩
    | exact ⟨_, rfl, ⟨0, [], [], 0⟩, 0, none, 0, none, 0, false, rfl, (hs.forget.own_nil 3 1).own_nil 3 1, .inr ⟨rfl, by rw [hre2, rdN_none (by omega) (tn1_none htn (by assumption))]⟩⟩
    | exact ⟨_, rfl, ⟨0, [], [], 0⟩, 0, none, 0, none, 0, false, rfl, (hs.forget.own_nil 3 1).own_nil 3 1, .inr ⟨rfl, by rw [hre2]; unfold rdF; rw [if_pos (.inl (by omega))]⟩⟩
    | exact ⟨_, rfl, ⟨0, [], [], 0⟩, 0, none, 0, none, 0, false, rfl, (hs.forget.own_nil 3 1).own_nil 3 1, .inr ⟨rfl, by rw [hre2]; unfold rdF; rw [if_pos (.inr (.inl (by assumption)))]⟩⟩
    | exact ⟨_, rfl, ⟨0, [], [], 0⟩, 0, none, 0, none, 0, false, rfl, (hs.forget.own_nil 3 1).own_nil 3 1, .inr ⟨rfl, by rw [hre2]; unfold rdF; rw [if_pos (.inr (.inr (by assumption)))]⟩⟩
  refine Zo rfl (Zf un106 inf53 rfl 0 rfl (Zo rfl (Zr (run_load_agg agg53 inf53 rfl rfl (hs.blk_cells 0 rfl 0 4)) rfl (Zo rfl (Zm rfl (Zo rfl (Zc fn74 rfl (isNote_c wr2 ⟨x1, l1, l2, x2⟩ _ _ _ _ (hs.rd_at 3 rfl) (hs.rd_at 4 rfl) (show l1.length ≤ _ ∧ l2.length ≤ _ by omega) parts) rfl ?_)))))))
  rintro v48 w49 ⟨rfl, hsI⟩
  replace hs := hs.T hsI
  refine Zo rfl (Zr (run_not rfl) rfl (Zr (run_pick_f rfl rfl) rfl (Zj (St_ifN rfl (fun h50 => ?_) (fun h50 => ?_)))))
  · refine Zs (Zr (run_buildO (pv := []) rfl (bld106 )) rfl ?_)
    replace hs := hs.F2
    refine Ls_storeAgg hs inf106 rfl rfl rfl rfl (by simp [Value.oneCell', Value.cells, jcells]) (fun w51 hs => (Za rfl (Zj (St_ret (Jm_then_ret (Jm_retCT rfl agg106 inf106 rfl rfl rfl (hs.blk_cells 0 rfl 0 5) ?_))))))
    first
    | exact ⟨_, rfl, ⟨0, [], [], 0⟩, 0, none, 0, none, 0, false, rfl, (hs.forget.own_nil 3 1).own_nil 3 1, .inr ⟨rfl, by rw [hre, rdK_none (by omega) (tk1_none htk (by omega))]⟩⟩
    | exact ⟨_, rfl, ⟨0, [], [], 0⟩, 0, none, 0, none, 0, false, rfl, (hs.forget.own_nil 3 1).own_nil 3 1, .inr ⟨rfl, by rw [hre2, rdN_none (by omega) (tn1_none htn (by assumption))]⟩⟩
    | exact ⟨_, rfl, ⟨0, [], [], 0⟩, 0, none, 0, none, 0, false, rfl, (hs.forget.own_nil 3 1).own_nil 3 1, .inr ⟨rfl, by rw [hre2]; unfold rdF; rw [if_pos (.inl (by omega))]⟩⟩
    | exact ⟨_, rfl, ⟨0, [], [], 0⟩, 0, none, 0, none, 0, false, rfl, (hs.forget.own_nil 3 1).own_nil 3 1, .inr ⟨rfl, by rw [hre2]; unfold rdF; rw [if_pos (.inr (.inl (by assumption)))]⟩⟩
    | exact ⟨_, rfl, ⟨0, [], [], 0⟩, 0, none, 0, none, 0, false, rfl, (hs.forget.own_nil 3 1).own_nil 3 1, .inr ⟨rfl, by rw [hre2]; unfold rdF; rw [if_pos (.inr (.inr (by assumption)))]⟩⟩
  refine St_skip (Zq (Zs (Zr (run_load_agg agg106 inf106 rfl rfl (hs.blk_cells 0 rfl 0 5)) rfl ?_)))
  replace hs := hs.F2
  refine Ls_storeAgg hs inf106 rfl rfl rfl rfl (by simp [Value.oneCell', Value.cells, jcells]) (fun w52 hs => (Za rfl (Zj (St_ret (Jm_retCT rfl agg106 inf106 rfl rfl rfl (hs.blk_cells 0 rfl 0 5) ?_)))))
  replace hs := hs.E0.E0.E0.F1.F1
  exact ⟨_, rfl, ⟨x1, l1, l2, x2⟩, x0, P1, q1, P2, q2, true, rfl, hs, .inl ⟨rfl, by rw [hre2]; unfold rdF; rw [if_neg (fun q => by rcases q with q | q | q; (· omega); (· exact absurd q (by assumption)); (· exact absurd (by assumption) q))]⟩⟩
end Go.Proofs.Ytcifdianinbkeaa.Lg

/-
  The journal's Open, walked. By program (gen/jour8.py).
-/
set_option linter.unusedVariables false
set_option linter.unusedSimpArgs false
namespace Go.Proofs.Ytcifdianinbkeaa.Lg
open Go Go.RowKit Go.Proofs.Ytcifdianinbkeaa.WirePure
/-- The journal that the first k blocks tell. -/
def jpick (bl : List (List Int)) (parts : Int) : Nat → Option JSt
  | 0 => none
  | k + 1 => match rentry (bl.getD k []) parts with
    | none => jpick bl parts k
    | some (n, g) => match jpick bl parts k with
      | none => some ⟨parts, n, g, (k : Int), false⟩
      | some j => if j.gen < g then some ⟨parts, n, g, (k : Int), false⟩ else some j
theorem jpick_no {bl : List (List Int)} {parts : Int} {k : Nat} (h : rentry (bl.getD k []) parts = none) : jpick bl parts (k + 1) = jpick bl parts k := by simp only [jpick, h]
theorem jpick_first {bl : List (List Int)} {parts g : Int} {n : NSt} {k : Nat} (h : rentry (bl.getD k []) parts = some (n, g)) (h0 : jpick bl parts k = none) : jpick bl parts (k + 1) = some ⟨parts, n, g, (k : Int), false⟩ := by simp only [jpick, h, h0]
theorem jpick_more {bl : List (List Int)} {parts g : Int} {n : NSt} {j : JSt} {k : Nat} (h : rentry (bl.getD k []) parts = some (n, g)) (h0 : jpick bl parts k = some j) (hg : j.gen < g) : jpick bl parts (k + 1) = some ⟨parts, n, g, (k : Int), false⟩ := by simp only [jpick, h, h0, if_pos hg]
theorem jpick_less {bl : List (List Int)} {parts g : Int} {n : NSt} {j : JSt} {k : Nat} (h : rentry (bl.getD k []) parts = some (n, g)) (h0 : jpick bl parts k = some j) (hg : ¬ j.gen < g) : jpick bl parts (k + 1) = some j := by simp only [jpick, h, h0, if_neg hg]
/-- The disk behind k reads. -/
def dread_k (d : DSt) : Nat → DSt
  | 0 => d
  | k + 1 => (dread (dread_k d k) (k : Int)).2.2
theorem dread_k_same (d : DSt) : ∀ k : Nat, (dread_k d k).bl = d.bl ∧ (dread_k d k).down = d.down ∧ (dread_k d k).armed = d.armed ∧ (dread_k d k).left = d.left ∧ (dread_k d k).writes = d.writes
  | 0 => ⟨rfl, rfl, rfl, rfl, rfl⟩
  | k + 1 => by
    have ih := dread_k_same d k
    simp only [dread_k]
    unfold dread
    split <;> exact ih
/-- Open: the error, the journal, the disk behind it. -/
def jopen (d : DSt) (parts : Int) : Int × Option JSt × DSt :=
  if parts < 1 ∨ 4 < parts then (1, none, d)
  else if d.bl.length < 1 then (180, none, d)
  else if d.down then (80, none, d)
  else match jpick d.bl parts (min 2 d.bl.length) with
    | none => (180, none, dread_k d (min 2 d.bl.length))
    | some j => (0, some j, dread_k d (min 2 d.bl.length))
set_option maxRecDepth 100000 in
set_option maxHeartbeats 1000000 in
theorem Open_g (B w : World) (L : List Assn) (b : Nat) (d : DSt) (hs : Sat B w (DiskA 122 125 5 b d :: L)) (hdok : ∀ x ∈ d.bl, IsBytes x ∧ x.length ≤ 1024) (hdl : 1 ≤ d.bl.length) (m : Nat) (hm1 : 1 ≤ m) (hm4 : m ≤ 4) :
    Calls Try.prog 45 [.pointer (some ⟨b, 0, none⟩), .int .i64 (m : Int)].toArray w (Ret (fun v' w' => ∃ q, v' = .tuple #[.pointer q, .int .i64 (jopen d m).1] ∧ Sat B w' (JO 108 3 q (some ⟨b, 0, none⟩) (jopen d m).2.1 :: DiskA 122 125 5 b (jopen d m).2.2 :: L))) := by
  refine Zb Try.func45 rfl rfl rfl (Zs (Za rfl (Za rfl (Zj (St_seq (Zs (Zm rfl (Zm rfl (Zc fn68 rfl (jcheck_c w b m) rfl ?_)))))))))
  rintro v1 w2 ⟨rfl, rfl⟩
  rw [if_neg (by omega)]
  refine Za rfl (Zt (Zm rfl (Zr (run_asB (c := false) (run_neq rfl rfl) (by decide)) rfl (Zj (St_iff rfl (St_skip (Zq (Zs (Za rfl (Zj (St_seq (Zs (Zm rfl ?_)))))))))))))
  obtain ⟨A0, c0, hd0⟩ := hs.dhd
  refine Zc fn69 rfl (Blocks_c w b d A0 c0 hd0) rfl ?_
  rintro v4 w5 ⟨rfl, rfl⟩
  refine Zr (run_as (run_min rfl rfl) (show _ = Value.int .i64 ((min 2 d.bl.length : Nat) : Int) by congr 1; split <;> omega)) rfl (Zm rfl (Zj (St_block ?_)))
  obtain ⟨En6, hEn6⟩ := ex2 fun (k : Nat) (bp : Option Addr) => ([(0, .pointer (some ⟨b, 0, none⟩)), (1, .int .i64 (m : Int)), (7, .pointer bp), (21, .int .i64 ((min 2 d.bl.length : Nat) : Int)), (22, .int .i64 (k : Int))] : Env)
  obtain ⟨Iv7, hIv7⟩ := ew2 fun (k : Nat) (bp : Option Addr) (wr : World) => Sat B wr (JO 108 3 bp (some ⟨b, 0, none⟩) (jpick d.bl (m : Int) k) :: DiskA 122 125 5 b (dread_k d k) :: L) ∧ k ≤ min 2 d.bl.length ∧ (0 < k → d.down = false)
  obtain ⟨ms8, hms8⟩ := ex2 fun (k : Nat) (bp : Option Addr) => (min 2 d.bl.length - k : Nat)
  refine St_loop En6 Iv7 ms8 (0, none) ?_ ?_ ?_
  · rw [hIv7]
    exact ⟨hs.toJoNone, by omega, fun h => by omega⟩
  · rw [hEn6]; exact sE ⟨rfl, rfl, rfl, rfl, rfl, trivial⟩
  rintro ⟨k, bp⟩ wr hI9
  rw [hIv7] at hI9
  obtain ⟨hs, hk, hkd⟩ := hI9
  refine St_eqE (hEn6 _ _) (Zs (Zr (run_lss rfl rfl) rfl (Zj (St_seq (St_ifP rfl (fun h10 => ?_) (fun h10 => ?_))))))
  · refine St_skip (Zq (St_seq (St_block (Zs (Zm rfl (Za rfl (Zt (Zm rfl (Zm rfl ?_)))))))))
    replace hs := hs.F1
    have hsm := dread_k_same d k
    have hdc : dread (dread_k d k) (k : Int) = dread (dread_k d k) (k : Int) := rfl
    refine Zc fn70 rfl (Read_c B wr _ b (dread_k d k) hs (fun r hr => (hdok r (by rw [← hsm.1]; exact hr)).2) (k : Int)) rfl ?_
    rintro v11 w12 ⟨Ar, cr, rfl, hs⟩
    replace hs : Sat B _ (DiskA 122 125 5 b (dread_k d (k + 1)) :: _) := hs
    obtain ⟨⟨rr, re, d9⟩, hrd⟩ : ∃ q, dread (dread_k d k) (k : Int) = q := ⟨_, rfl⟩
    rw [hrd] at hs ⊢
    simp only at hs ⊢
    refine Zm rfl (Zr (run_extract rfl rfl) rfl (Zr (run_extract rfl rfl) rfl (Za rfl (Za rfl (Zj (St_seq (Zs (Zm rfl (Zr (run_neq rfl rfl) rfl (Zj (St_ifP rfl (fun h13 => ?_) (fun h13 => ?_))))))))))))
    · refine Zs (Zm rfl (Za rfl (Za rfl (Zj (St_ret (Jm_then_ret (Jm_block_ret (Jm_then_ret (Jm_then_ret (Jm_block_ret (Jm_then_ret (Jm_ret2 rfl rfl rfl ?_))))))))))))
      replace hs := hs.E1.F1
      have hre0 : d.down = true ∧ k = 0 := by
        unfold dread at hrd
        have hdd : d.down = true := by
          cases hq : d.down with
          | true => rfl
          | false =>
            have hc0 : dcheck (dread_k d k) (k : Int) = 0 := by unfold dcheck; rw [hsm.2.1, hsm.1]; rw [if_neg (by simp [hq]), if_neg (by omega)]
            rw [if_pos hc0] at hrd
            simp only [Prod.mk.injEq] at hrd; omega
        exact ⟨hdd, by
          rcases Nat.eq_zero_or_pos k with h | h
          · exact h
          · have := hkd h; rw [hdd] at this; cases this⟩
      obtain ⟨hdd, rfl⟩ := hre0
      have hc0 : dcheck d 0 = 80 := by unfold dcheck; rw [if_pos hdd]
      have hrd2 : dread (dread_k d 0) ((0 : Nat) : Int) = ([], 80, d) := by show dread d 0 = _; unfold dread; rw [if_neg (by omega), hc0]
      have e1 : dread_k d (0 + 1) = d := congrArg (fun q => q.2.2) hrd2
      rw [e1] at hs
      rw [hrd2] at hrd
      simp only [Prod.mk.injEq] at hrd
      obtain ⟨_, h8, h9⟩ := hrd
      subst h8
      have e : jopen d m = (80, none, d) := by unfold jopen; rw [if_neg (by omega), if_neg (by omega), if_pos hdd]
      rw [e]
      exact ⟨_, rfl, none, rfl, hs.tail.toJoNone⟩
    have hdn : d.down = false := by
      cases hq : d.down with
      | false => rfl
      | true =>
        exfalso
        have hc0 : dcheck (dread_k d k) (k : Int) = 80 := by unfold dcheck; rw [hsm.2.1, if_pos hq]
        unfold dread at hrd
        rw [if_neg (by omega), hc0] at hrd
        simp only [Prod.mk.injEq] at hrd
        omega
    refine St_skip (Zq (Zs (Zm rfl (Zm rfl ?_))))
    have hrr : rr = d.bl.getD k [] ∧ re = 0 := by
      unfold dread at hrd
      have hc0 : dcheck (dread_k d k) (k : Int) = 0 := by unfold dcheck; rw [hsm.2.1, hsm.1]; rw [if_neg (by simp [hdn]), if_neg (by omega)]
      rw [if_pos hc0] at hrd
      simp only [Prod.mk.injEq] at hrd
      exact ⟨by rw [← hrd.1, hsm.1]; simp, hrd.2.1.symm⟩
    have hrb : IsBytes rr ∧ rr.length ≤ 1024 := by rw [hrr.1]; exact hdok _ (getD_mem_bl (by omega))
    refine Zc fn71 rfl (readEntry_c w12 Ar rr.length cr rr (hs.rd_at 1 rfl) hrb.1 (by omega) (m : Int)) rfl ?_
    rintro v14 w15 ⟨q, g, Ap, cp, Ac, cc, ok, rfl, hsE, hok⟩
    replace hs := hs.T hsE
    rw [hrr.1] at hok
    refine Zm rfl (Zr (run_extract rfl rfl) rfl (Zr (run_extract rfl rfl) rfl (Ls_alloc hs inf106 rfl (fun b17 w16 hs => (Ls_storeAgg hs inf106 rfl rfl rfl rfl (by simp [Value.oneCell', Value.cells, jcells]) (fun w18 hs => (Za rfl (Zj (St_seq (St_draw (fun x => Below w18.heap.size w18 x) mixed (fun w19 q20 => ?_)))))))))))
    have hH := q20.below
    replace hs := hs.quiet q20
    refine An_grow hH ?_
    replace hH := Below.refl w19.heap.size w19
    refine Ym hH 0 rfl (by kernel_rfl) rfl (Ym hH 1 rfl (by kernel_rfl) rfl (An_part (t := 41) rfl (fun h21 => ?_) (fun h21 => ?_)))
    · refine Yo hH 2 rfl (by kernel_rfl) rfl (fun x hx => run_move rfl) (Yo hH 3 rfl (by kernel_rfl) rfl (fun x hx => run_eql_ptr_nil un77 rfl rfl) (Yo hH 4 rfl (by kernel_rfl) rfl (fun x hx => run_move rfl) (An_part (t := 44) rfl (fun h22 => ?_) (fun h22 => ?_))))
      · have hjn : jpick d.bl (m : Int) k = none := by
          cases hq : jpick d.bl (m : Int) k with
          | none => rfl
          | some jj => rw [hq] at hs; obtain ⟨bj, hbp, h9⟩ := (hs.front 5 rfl).joSome; subst hbp; simp_all
        refine Yf hH 5 rfl (by kernel_rfl) rfl (Yf hH 6 rfl (by kernel_rfl) rfl (Yf hH 7 rfl (by kernel_rfl) rfl (Yf hH 8 rfl (by kernel_rfl) rfl (Yf hH 9 rfl (by kernel_rfl) rfl (Yf hH 10 rfl (by kernel_rfl) rfl (Yf hH 11 rfl (by kernel_rfl) rfl (Yf hH 12 rfl (by kernel_rfl) rfl (Yo hH 13 rfl (by kernel_rfl) rfl (fun x hx => run_pick_t rfl rfl) (Ya hH 14 rfl (by kernel_rfl) (fun x hx => run_pick_t rfl rfl) (An_done (by kernel_rfl) (Zq (St_ift rfl (St_region (Zm rfl (Zm rfl (Zr (run_load_agg agg106 inf106 rfl rfl (hs.blk_cells 0 rfl 0 5)) rfl (Zm rfl (Zr (run_buildO (pv := [(0, _), (1, _), (2, _), (3, _)]) rfl (bld108_0_1_2_3 _ _ _ _ _ _ _ _ _ _ _ _)) rfl (Ls_box hs rfl rfl (fun b25 w24 hs => (Za rfl (Ls_nil (Jm_block_normal (Zq (St_region (Zr (run_add rfl rfl (w64 (by omega))) rfl (Zm rfl (Ls_nil ?_))))))))))))))))))))))))))))
        replace hs := hs.E1.E4.E4.F3.F3.F3.F3
        have hent : rentry (d.bl.getD k []) (m : Int) = some (q, g) := by rcases hok with hok | hok <;> simp_all
        refine Jm_round (k + 1, some ⟨b25, 0, none⟩) ?_ ?_ ?_
        · rw [hEn6]; exact sE ⟨rfl, rfl, rfl, rfl, rfl, trivial⟩
        · rw [hIv7]
          refine ⟨?_, by omega, fun _ => hdn⟩
          rw [jpick_first hent hjn]
          exact Sat.toJoSome (Sat.jshut (j := ⟨(m : Int), q, g, (k : Int), false⟩) hs)
        rw [hms8, hms8]
        omega
      replace hs := hs.F5
      obtain ⟨jj, hjj⟩ : ∃ jj, jpick d.bl (m : Int) k = some jj := by
        cases hq : jpick d.bl (m : Int) k with
        | none => rw [hq] at hs; have hz := hs.joNone.1; subst hz; simp_all
        | some jj => exact ⟨jj, rfl⟩
      rw [hjj] at hs
      obtain ⟨bj, hbp, h9⟩ := hs.joSome
      subst hbp
      replace hs := h9
      obtain ⟨Jp, jp, Jc, jc, hs⟩ := hs.jopen
      refine Yo hH 5 rfl (by kernel_rfl) rfl (fun x hx => run_fd un106 inf3 rfl 4 rfl) (Yo hH 6 rfl (by kernel_rfl) rfl (fun x hx => run_load sc3 rfl ((hs.grow hx).blk_at 3 rfl 4 rfl)) (Yo hH 7 rfl (by kernel_rfl) rfl (fun x hx => run_move rfl) (Yo hH 8 rfl (by kernel_rfl) rfl (fun x hx => run_nilCheck rfl) (Yo hH 9 rfl (by kernel_rfl) rfl (fun x hx => run_fd un108 inf106 rfl 2 rfl) (Yo hH 10 rfl (by kernel_rfl) rfl (fun x hx => run_fd un106 inf3 rfl 6 rfl) (Yo hH 11 rfl (by kernel_rfl) rfl (fun x hx => run_load sc3 rfl ((hs.grow hx).blk_at 0 rfl 6 rfl)) (Yo hH 12 rfl (by kernel_rfl) rfl (fun x hx => run_gtr rfl rfl) (Yo hH 13 rfl (by kernel_rfl) rfl (fun x hx => run_pick_f rfl rfl) (Ya hH 14 rfl (by kernel_rfl) (fun x hx => run_pick_t rfl rfl) (An_done (by kernel_rfl) (Zq (St_ifP rfl (fun h26 => ?_) (fun h26 => ?_)))))))))))))
      · refine St_region (Zm rfl (Zm rfl (Zr (run_load_agg agg106 inf106 rfl rfl (hs.blk_cells 3 rfl 0 5)) rfl (Zm rfl (Zr (run_buildO (pv := [(0, _), (1, _), (2, _), (3, _)]) rfl (bld108_0_1_2_3 _ _ _ _ _ _ _ _ _ _ _ _)) rfl (Ls_box hs rfl rfl (fun b28 w27 hs => (Za rfl (Ls_nil (Jm_block_normal (Zq (St_region (Zr (run_add rfl rfl (w64 (by omega))) rfl (Zm rfl (Ls_nil ?_)))))))))))))))
        replace hs := hs.E1.E1.E1.E1.E4.F3.F3.F3.F3
        have hent : rentry (d.bl.getD k []) (m : Int) = some (q, g) := by rcases hok with hok | hok <;> simp_all
        refine Jm_round (k + 1, some ⟨b28, 0, none⟩) ?_ ?_ ?_
        · rw [hEn6]; exact sE ⟨rfl, rfl, rfl, rfl, rfl, trivial⟩
        · rw [hIv7]
          refine ⟨?_, by omega, fun _ => hdn⟩
          rw [jpick_more hent hjj (by omega)]
          exact Sat.toJoSome (Sat.jshut (j := ⟨(m : Int), q, g, (k : Int), false⟩) hs)
        rw [hms8, hms8]
        omega
      refine St_skip (Jm_block_normal (Zq (St_region (Zr (run_add rfl rfl (w64 (by omega))) rfl (Zm rfl (Ls_nil ?_))))))
      replace hs := hs.E3.E3.E3.E4.F3.F3.F3.F3
      have hent : rentry (d.bl.getD k []) (m : Int) = some (q, g) := by rcases hok with hok | hok <;> simp_all
      refine Jm_round (k + 1, some ⟨bj, 0, none⟩) ?_ ?_ ?_
      · rw [hEn6]; exact sE ⟨rfl, rfl, rfl, rfl, rfl, trivial⟩
      · rw [hIv7]
        refine ⟨?_, by omega, fun _ => hdn⟩
        rw [jpick_less hent hjj (by omega)]
        exact Sat.toJoSome (Sat.jshut (j := jj) hs)
      rw [hms8, hms8]
      omega
    refine Yf hH 2 rfl (by kernel_rfl) rfl (Yf hH 3 rfl (by kernel_rfl) rfl (Yf hH 4 rfl (by kernel_rfl) rfl (Yu hH 5 rfl (by kernel_rfl) rfl (Yu hH 6 rfl (by kernel_rfl) rfl (Yu hH 7 rfl (by kernel_rfl) rfl (Yu hH 8 rfl (by kernel_rfl) rfl (Yu hH 9 rfl (by kernel_rfl) rfl (Yu hH 10 rfl (by kernel_rfl) rfl (Yu hH 11 rfl (by kernel_rfl) rfl (Yu hH 12 rfl (by kernel_rfl) rfl (Yf hH 13 rfl (by kernel_rfl) rfl (Ya hH 14 rfl (by kernel_rfl) (fun x hx => run_pick_f rfl rfl) (An_done (by kernel_rfl) (Zq (St_iff rfl (St_skip (Jm_block_normal (Zq (St_region (Zr (run_add rfl rfl (w64 (by omega))) rfl (Zm rfl (Ls_nil ?_))))))))))))))))))))))
    replace hs := hs.E0.E0.E0.E1.F1
    have hent : rentry (d.bl.getD k []) (m : Int) = none := by rcases hok with hok | hok <;> simp_all
    refine Jm_round (k + 1, bp) ?_ ?_ ?_
    · rw [hEn6]; exact sE ⟨rfl, rfl, rfl, rfl, rfl, trivial⟩
    · rw [hIv7]
      refine ⟨?_, by omega, fun _ => hdn⟩
      rw [jpick_no hent]
      exact hs
    rw [hms8, hms8]
    omega
  refine St_exit (Jm_then_exit (Jm_then_exit (Jm_block_same (Zq (St_seq (Zs (Zm rfl (Zr (run_eql_ptr_nil un77 rfl rfl) rfl (Zj (St_if rfl (fun h30 => ?_) (fun h30 => ?_)))))))))))
  · refine Zs (Za rfl (Za rfl (Zj (St_ret (Jm_then_ret (Jm_ret2 rfl rfl rfl ?_))))))
    replace hs := hs.F1.F1
    have hkm : k = min 2 d.bl.length := by omega
    have hdn := hkd (by omega)
    subst hkm
    cases hq : jpick d.bl (m : Int) (min 2 d.bl.length) with
    | none =>
      rw [hq] at hs; obtain ⟨hz, h9⟩ := hs.joNone
      first | (subst hz; have e : jopen d m = (180, none, dread_k d (min 2 d.bl.length)) := (by unfold jopen; rw [if_neg (by omega), if_neg (by omega), if_neg (by simp [hdn]), hq]); rw [e]; exact ⟨_, rfl, none, rfl, h9.toJoNone⟩) | (exfalso; subst hz; simp_all)
    | some jj =>
      rw [hq] at hs
      have hsb : bp.isNone = false := by obtain ⟨bj, hbp, _⟩ := hs.joSome; subst hbp; rfl
      first | (have e : jopen d m = (0, some jj, dread_k d (min 2 d.bl.length)) := (by unfold jopen; rw [if_neg (by omega), if_neg (by omega), if_neg (by simp [hdn]), hq]); rw [e]; exact ⟨_, rfl, bp, rfl, hs⟩) | (exfalso; simp_all)
  refine St_skip (Zq (Zs (Zm rfl (Za rfl (Za rfl (Zj (St_ret (Jm_ret2 rfl rfl rfl ?_))))))))
  replace hs := hs.F1.F1
  have hkm : k = min 2 d.bl.length := by omega
  have hdn := hkd (by omega)
  subst hkm
  cases hq : jpick d.bl (m : Int) (min 2 d.bl.length) with
  | none =>
    rw [hq] at hs; obtain ⟨hz, h9⟩ := hs.joNone
    first | (subst hz; have e : jopen d m = (180, none, dread_k d (min 2 d.bl.length)) := (by unfold jopen; rw [if_neg (by omega), if_neg (by omega), if_neg (by simp [hdn]), hq]); rw [e]; exact ⟨_, rfl, none, rfl, h9.toJoNone⟩) | (exfalso; subst hz; simp_all)
  | some jj =>
    rw [hq] at hs
    have hsb : bp.isNone = false := by obtain ⟨bj, hbp, _⟩ := hs.joSome; subst hbp; rfl
    first | (have e : jopen d m = (0, some jj, dread_k d (min 2 d.bl.length)) := (by unfold jopen; rw [if_neg (by omega), if_neg (by omega), if_neg (by simp [hdn]), hq]); rw [e]; exact ⟨_, rfl, bp, rfl, hs⟩) | (exfalso; simp_all)
end Go.Proofs.Ytcifdianinbkeaa.Lg

/-
  The law JournalFits, walked. By program (gen/jour9.py).
-/
set_option linter.unusedVariables false
set_option linter.unusedSimpArgs false
namespace Go.Proofs.Ytcifdianinbkeaa.Lg
open Go Go.RowKit Go.Proofs.Ytcifdianinbkeaa.WirePure
/-- The disk bears the journal's note, and nothing newer. -/
def DJ (d : DSt) (j : JSt) : Prop := d.bl.length = 2 ∧ d.bl.getD j.slot.toNat [] = nbytes j.gen j.n ∧
  (d.bl.getD (1 - j.slot).toNat [] = [] ∨ ∃ (n' : NSt) (g' : Int), d.bl.getD (1 - j.slot).toNat [] = nbytes g' n' ∧ noteOk n' j.parts ∧ 1 ≤ g' ∧ g' < j.gen)
theorem dj_save {d d' : DSt} {j : JSt} {n : NSt} {g' : Int} (hj : JOk j) (h : DJ d j) (hb : d'.bl = d.bl.set (1 - j.slot).toNat (nbytes g' n)) (hg : j.gen < g') : DJ d' ⟨j.parts, n, g', 1 - j.slot, false⟩ := by
  obtain ⟨h1, h2, _⟩ := h
  have hs : j.slot = 0 ∨ j.slot = 1 := hj.2.2.2.2.2
  have e : (1 - (1 - j.slot)) = j.slot := by omega
  refine ⟨by rw [hb, List.length_set]; exact h1, ?_, .inr ⟨j.n, j.gen, ?_, hj.1, hj.2.2.2.1, hg⟩⟩
  · show d'.bl.getD (1 - j.slot).toNat [] = _
    rw [hb, List.getD_eq_getElem?_getD, List.getElem?_set_self (by omega)]; rfl
  · show d'.bl.getD (1 - (1 - j.slot)).toNat [] = _
    rw [e, hb, ← h2, List.getD_eq_getElem?_getD, List.getElem?_set_ne (by omega), ← List.getD_eq_getElem?_getD]
theorem jopen_same {d : DSt} {j : JSt} (hj : JOk j) (h : DJ d j) (hd : d.down = false) (he : j.ended = false) : jopen d j.parts = (0, some j, dread_k d 2) := by
  obtain ⟨h1, h2, h3⟩ := h
  have hs : j.slot = 0 ∨ j.slot = 1 := hj.2.2.2.2.2
  have hok := hj.1
  have hr : rentry (nbytes j.gen j.n) j.parts = some (j.n, j.gen) := by rw [rentry_nbytes hok hj.2.2.1 hj.2.2.2.1 hj.2.2.2.2.1, if_pos hok]
  have hp : jpick d.bl j.parts 2 = some j := by
    have ej : ∀ k : Nat, (k : Int) = j.slot → (some ⟨j.parts, j.n, j.gen, (k : Int), false⟩ : Option JSt) = some j := fun k hk => by cases j; simp_all
    rcases hs with s0 | s1
    · rw [s0] at h2 h3
      replace h2 : d.bl.getD 0 [] = _ := h2
      replace h3 : d.bl.getD 1 [] = [] ∨ ∃ (n' : NSt) (g' : Int), d.bl.getD 1 [] = nbytes g' n' ∧ noteOk n' j.parts ∧ 1 ≤ g' ∧ g' < j.gen := h3
      have p1 : jpick d.bl j.parts 1 = some j := by rw [jpick_first (by rw [h2]; exact hr) rfl]; exact ej 0 (by omega)
      rcases h3 with h3 | ⟨n', g', h3, h4, h5, h6⟩
      · rw [jpick_no (by rw [h3]; exact rentry_nil _)]; exact p1
      · exact jpick_less (by rw [h3, rentry_nbytes h4 hj.2.2.1 h5 (by have := hj.2.2.2.2.1; omega), if_pos h4]) p1 (by omega)
    · rw [s1] at h2 h3
      replace h2 : d.bl.getD 1 [] = _ := h2
      replace h3 : d.bl.getD 0 [] = [] ∨ ∃ (n' : NSt) (g' : Int), d.bl.getD 0 [] = nbytes g' n' ∧ noteOk n' j.parts ∧ 1 ≤ g' ∧ g' < j.gen := h3
      rcases h3 with h3 | ⟨n', g', h3, h4, h5, h6⟩
      · have p1 : jpick d.bl j.parts 1 = none := by rw [jpick_no (by rw [h3]; exact rentry_nil _)]; rfl
        rw [jpick_first (by rw [h2]; exact hr) p1]; exact ej 1 (by omega)
      · have p1 : jpick d.bl j.parts 1 = some ⟨j.parts, n', g', ((0 : Nat) : Int), false⟩ := jpick_first (by rw [h3, rentry_nbytes h4 hj.2.2.1 h5 (by have := hj.2.2.2.2.1; omega), if_pos h4]) rfl
        rw [jpick_more (by rw [h2]; exact hr) p1 h6]; exact ej 1 (by omega)
  unfold jopen
  rw [if_neg (by have := hj.2.1; have := hj.2.2.1; omega), if_neg (by omega), if_neg (by simp [hd]), h1]
  show (match jpick d.bl j.parts 2 with | none => _ | some j => _) = _
  rw [hp]
  rfl
end Go.Proofs.Ytcifdianinbkeaa.Lg

/-
  The law's next and spoilt notes, kept as they are read. By program (gen/jour10.py).
-/
set_option linter.unusedVariables false
set_option linter.unusedSimpArgs false
namespace Go.Proofs.Ytcifdianinbkeaa.Lg
open Go Go.RowKit Go.Proofs.Ytcifdianinbkeaa.WirePure
/-- What a note shows. -/
def NRd (w : World) (n : NSt) (Ap : Option Addr) (cp : Nat) (Ac : Option Addr) (cc : Nat) : Prop := Rd w Ap n.prev.length cp 1 (KI.flat n.prev) ∧ Rd w Ac n.cur.length cc 1 (KI.flat n.cur)
theorem NRd.inB {B w : World} {n : NSt} {Ap : Option Addr} {cp : Nat} {Ac : Option Addr} {cc : Nat} {L : List Assn} (h : NRd B n Ap cp Ac cc) (hs : Sat B w L) : NRd w n Ap cp Ac cc := ⟨h.1.inB hs, h.2.inB hs⟩
end Go.Proofs.Ytcifdianinbkeaa.Lg

/-
  The law JournalGoes, walked. By program (gen/jour11.py).
-/
set_option linter.unusedVariables false
set_option linter.unusedSimpArgs false
namespace Go.Proofs.Ytcifdianinbkeaa.Lg
open Go Go.RowKit Go.Proofs.Ytcifdianinbkeaa.WirePure
theorem jsave_gone {j : JSt} {d : DSt} {n : NSt} (hj : JOk j) (he : j.ended = false) (hd : d.down = false) (h2 : 2 ≤ d.bl.length) (ha : d.armed = true) (hl : d.left = 0) (hn : noteOk n j.parts) (hf : follows j.n n) (hg : j.gen < 1099511627776) :
    jsave j d n = (80, { j with ended := true }, doff d) := by
  have hb := nbytes_len hn hj.2.2.1 (gen := j.gen + 1) (by have := hj.2.2.2.1; omega)
  have h1 := dwrite_gone (s := d) (k := (1 - j.slot).toNat) (l := nbytes (j.gen + 1) n) hd (by rcases hj.2.2.2.2.2 with e | e <;> rw [e] <;> simp <;> omega) (by omega) ha hl
  have e : (((1 - j.slot).toNat : Nat) : Int) = 1 - j.slot := by rcases hj.2.2.2.2.2 with e | e <;> rw [e] <;> rfl
  rw [e] at h1
  unfold jsave
  rw [jend_same he hd, if_neg (by simp [he]), if_neg (by simpa using hn), if_neg (by simpa using hf), if_neg (by omega), h1]
  simp
end Go.Proofs.Ytcifdianinbkeaa.Lg
