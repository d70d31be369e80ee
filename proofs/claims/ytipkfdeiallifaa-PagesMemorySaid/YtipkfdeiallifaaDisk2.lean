/-
  The disk's Read and Write, walked. By program (gen/disk2.py).
-/
import Derived.Test.YtipkfdeiallifaaDisk1
set_option linter.unusedVariables false
set_option linter.unusedSimpArgs false
namespace Go.Proofs.Ytipkfdeiallifaa.Lg
open Go Go.RowKit
theorem getD_mem_bl {ls : List (List Int)} {i : Nat} (hi : i < ls.length) : ls.getD i [] ∈ ls := by
  rw [List.getD_eq_getElem?_getD, List.getElem?_eq_getElem hi]; exact List.getElem_mem _
theorem dcheck_0 {s : DSt} {i : Int} (h : dcheck s i = 0) : s.down = false ∧ 0 ≤ i ∧ i < (s.bl.length : Int) := by
  unfold dcheck at h
  split at h
  · simp at h
  · split at h
    · simp at h
    · rename_i h1 h2; exact ⟨by simpa using h1, by omega, by omega⟩
set_option maxRecDepth 100000 in
set_option maxHeartbeats 1000000 in
theorem Read_c (B w : World) (L : List Assn) (b : Nat) (s : DSt) (hs : Sat B w (DiskA 129 28 5 b s :: L)) (hok : ∀ r ∈ s.bl, r.length ≤ 1024) (i : Int) :
    Calls Try.prog 92 [.pointer (some ⟨b, 0, none⟩), .int .i64 i].toArray w (Ret (fun v' w' => ∃ A c, v' = .tuple #[.slice A (dread s i).1.length c, .int .i64 (dread s i).2.1] ∧ Sat B w' (DiskA 129 28 5 b (dread s i).2.2 :: Own 5 1 (.slice A (dread s i).1.length c) (dread s i).1.length (bytesV (dread s i).1) :: L))) := by
  obtain ⟨vs, Ao, co, hvs, hs⟩ := hs.dopen
  refine Calls_body Try.func92 rfl rfl rfl (envE_cons (i := 0) (v := .pointer (some ⟨b, 0, none⟩)) rfl (envE_cons (i := 1) (v := .int .i64 i) rfl envE_nil)) ?_
  refine St_seq ?_
  refine St_region ?_
  refine Ls_run (run_assign rfl) rfl ?_
  refine Ls_run (run_assign rfl) rfl ?_
  refine Ls_nil ?_
  refine Jm_seq ?_
  refine St_seq ?_
  refine St_seq ?_
  refine St_region ?_
  refine Ls_run (run_move rfl) rfl ?_
  refine Ls_run (run_move rfl) rfl ?_
  refine Ls_call Try.func119 nm119 rfl rfl (check_c w b s Ao co (hs.is_at 0 rfl).2 i) rfl ?_
  rintro v1 w2 ⟨rfl, rfl⟩
  refine Ls_run (run_assign rfl) rfl ?_
  refine Ls_nil ?_
  refine Jm_seq ?_
  refine St_seq ?_
  refine St_region ?_
  refine Ls_run (run_move rfl) rfl ?_
  refine Ls_run (run_neq rfl rfl) rfl ?_
  refine Ls_nil ?_
  refine Jm_seq ?_
  refine St_ifP rfl (fun h3 => ?_) (fun h3 => ?_)
  · skip
    refine St_seq ?_
    refine St_region ?_
    refine Ls_run (run_move rfl) rfl ?_
    refine Ls_run (run_assign rfl) rfl ?_
    refine Ls_run (run_assign rfl) rfl ?_
    refine Ls_nil ?_
    refine Jm_seq ?_
    refine St_ret ?_
    refine Jm_then_ret  ?_
    refine Jm_ret2 rfl rfl rfl ?_
    have e : dread s i = ([], dcheck s i, s) := by unfold dread; rw [if_neg (by assumption)]
    rw [e]
    have hs5 := hs.dshut hvs
    exact ⟨_, rfl, none, 0, rfl, ((hs5.own_nil 5 1).front 1 rfl)⟩
  · skip
    have hc : dcheck s i = 0 := by omega
    obtain ⟨hdn, hi0, hi1⟩ := dcheck_0 hc
    obtain ⟨k, rfl⟩ : ∃ k : Nat, i = (k : Int) := ⟨i.toNat, by omega⟩
    have hkl : k < s.bl.length := by omega
    have hrow := hok _ (getD_mem_bl hkl)
    refine St_skip ?_
    refine Jm_seq ?_
    refine St_seq ?_
    refine St_region ?_
    refine Ls_run (run_move rfl) rfl ?_
    refine Ls_run (run_nilCheck rfl) rfl ?_
    refine Ls_run (run_as (run_field Try.underlying129 rfl inf3 (by decide) rfl) (show _ = Value.pointer (some ⟨b, 4, none⟩) from rfl)) rfl ?_
    refine Ls_run (run_load sc3 rfl (hs.blk_at 0 rfl 4 rfl)) rfl ?_
    refine Ls_run (run_add rfl rfl rfl) rfl ?_
    refine Ls_run (run_nilCheck rfl) rfl ?_
    refine Ls_run (run_as (run_field Try.underlying129 rfl inf3 (by decide) rfl) (show _ = Value.pointer (some ⟨b, 4, none⟩) from rfl)) rfl ?_
    refine Ls_store hs inf3 rfl rfl rfl rfl ?_
    intro w4 hs
    try simp only [List.set_cons_zero, List.set_cons_succ] at hs
    refine Ls_nil ?_
    refine Jm_seq ?_
    refine St_seq ?_
    refine St_region ?_
    refine Ls_run (run_move rfl) rfl ?_
    refine Ls_run (run_nilCheck rfl) rfl ?_
    refine Ls_run (run_as (run_field Try.underlying129 rfl inf55 (by decide) rfl) (show _ = Value.pointer (some ⟨b, 0, none⟩) from rfl)) rfl ?_
    refine Ls_run (run_load sc55 rfl (hs.blk_at 0 rfl 0 rfl)) rfl ?_
    refine Ls_run (run_move rfl) rfl ?_
    obtain ⟨Ak, nk, ck, hvk, hrk⟩ := (Sat.parts (pre := _ :: _ :: L) hs hvs).2 k hkl
    rw [← bytesV_flat] at hrk
    have hnk := rdB_len hrk
    refine Ls_index (El.val) (hs.rd_at 1 rfl) Try.underlying55 inf28 rfl rfl (by omega) (by omega) hvk rfl ?_
    intro b5 o6 hc7
    refine Ls_run (run_load sc28 rfl (hc7 0 _ rfl)) rfl ?_
    refine Ls_call Try.func118 nm118 rfl rfl (Clone_c w4 Ak nk ck (s.bl.getD k []) hrk (by omega)) rfl ?_
    rintro v8 w9 ⟨Ac, cc, rfl, hsC⟩
    replace hs := hs.trans hsC
    simp only [List.cons_append, List.nil_append] at hs
    refine Ls_run (run_assign rfl) rfl ?_
    refine Ls_run (run_assign rfl) rfl ?_
    refine Ls_nil ?_
    refine Jm_seq ?_
    refine St_ret ?_
    refine Jm_ret2 rfl rfl rfl ?_
    replace hs := hs.front 2 rfl
    simp only [List.cons_append, List.nil_append, List.eraseIdx_cons_zero, List.eraseIdx_cons_succ] at hs
    replace hs := hs.front 2 rfl
    simp only [List.cons_append, List.nil_append, List.eraseIdx_cons_zero, List.eraseIdx_cons_succ] at hs
    have e : dread s (k : Int) = (s.bl.getD k [], 0, { s with reads := IntKind.i64.wrap (s.reads + 1) }) := by unfold dread; rw [if_pos hc]; rfl
    rw [e]
    have hs5 := Sat.dshut (s := { s with reads := IntKind.i64.wrap (s.reads + 1) }) (L := _ :: L) hvs hs
    rw [← hnk] at hs5
    exact ⟨_, by rw [← hnk], Ac, cc, rfl, hs5⟩
set_option maxRecDepth 100000 in
set_option maxHeartbeats 1000000 in
theorem Write_c (B w : World) (L : List Assn) (b : Nat) (s : DSt) (hs : Sat B w (DiskA 129 28 5 b s :: L)) (hok : ∀ r ∈ s.bl, r.length ≤ 1024) (i : Int) (A : Option Addr) (n c : Nat) (l : List Int) (hr : ∀ w' X, Sat B w' (X :: L) → Rd w' A n c 1 (bytesV l)) (hn : n ≤ 140737488355328) :
    Calls Try.prog 96 [.pointer (some ⟨b, 0, none⟩), .int .i64 i, .slice A n c].toArray w (Ret (fun v' w' => v' = .int .i64 (dwrite s i l).1 ∧ Sat B w' (DiskA 129 28 5 b (dwrite s i l).2 :: L))) := by
  have hl : l.length = n := rdB_len (hr _ _ hs)
  obtain ⟨vs, Ao, co, hvs, hs⟩ := hs.dopen
  refine Calls_body Try.func96 rfl rfl rfl (envE_cons (i := 0) (v := .pointer (some ⟨b, 0, none⟩)) rfl (envE_cons (i := 1) (v := .int .i64 i) rfl (envE_cons (i := 2) (v := .slice A n c) rfl envE_nil))) ?_
  refine St_seq ?_
  refine St_region ?_
  refine Ls_run (run_assign rfl) rfl ?_
  refine Ls_nil ?_
  refine Jm_seq ?_
  refine St_seq ?_
  refine St_region ?_
  refine Ls_run (run_move rfl) rfl ?_
  refine Ls_run (run_move rfl) rfl ?_
  refine Ls_call Try.func119 nm119 rfl rfl (check_c w b s Ao co (hs.is_at 0 rfl).2 i) rfl ?_
  rintro v1 w2 ⟨rfl, rfl⟩
  refine Ls_run (run_assign rfl) rfl ?_
  refine Ls_nil ?_
  refine Jm_seq ?_
  refine St_seq ?_
  refine St_block ?_
  refine St_seq ?_
  refine St_region ?_
  refine Ls_run (run_move rfl) rfl ?_
  refine Ls_run (run_neq rfl rfl) rfl ?_
  refine Ls_run (run_assign rfl) rfl ?_
  refine Ls_nil ?_
  refine Jm_seq ?_
  refine St_ifP rfl (fun h3 => ?_) (fun h3 => ?_)
  · skip
    refine St_seq ?_
    refine St_region ?_
    refine Ls_run (run_move rfl) rfl ?_
    refine Ls_run (run_assign rfl) rfl ?_
    refine Ls_nil ?_
    refine Jm_seq ?_
    refine St_ret ?_
    refine Jm_block_ret (Jm_then_ret  ?_)
    refine Jm_ret1 rfl rfl ?_
    have e : dwrite s i l = (dcheck s i, s) := by unfold dwrite; rw [if_pos (by assumption)]
    rw [e]
    exact ⟨_, rfl, rfl, hs.dshut hvs⟩
  · skip
    have hc : dcheck s i = 0 := by omega
    obtain ⟨hdn, hi0, hi1⟩ := dcheck_0 hc
    obtain ⟨k, rfl⟩ : ∃ k : Nat, i = (k : Int) := ⟨i.toNat, by omega⟩
    have hkl : k < s.bl.length := by omega
    have hrow := hok _ (getD_mem_bl hkl)
    refine St_seq ?_
    refine St_region ?_
    refine Ls_run (run_move rfl) rfl ?_
    refine Ls_run (run_len Try.underlying28 rfl) rfl ?_
    refine Ls_run (run_gtr rfl rfl) rfl ?_
    refine Ls_run (run_assign rfl) rfl ?_
    refine Ls_nil ?_
    refine Jm_seq ?_
    refine St_ifP rfl (fun h4 => ?_) (fun h4 => ?_)
    · skip
      refine St_seq ?_
      refine St_region ?_
      refine Ls_run (run_assign rfl) rfl ?_
      refine Ls_nil ?_
      refine Jm_seq ?_
      refine St_ret ?_
      refine Jm_block_ret (Jm_then_ret  ?_)
      refine Jm_ret1 rfl rfl ?_
      have e : dwrite s (k : Int) l = (6, s) := by unfold dwrite; rw [if_neg (by omega), if_pos (by omega)]
      rw [e]
      exact ⟨_, rfl, rfl, hs.dshut hvs⟩
    · skip
      refine St_seq ?_
      refine St_region ?_
      refine Ls_run (run_move rfl) rfl ?_
      refine Ls_run (run_nilCheck rfl) rfl ?_
      refine Ls_run (run_as (run_field Try.underlying129 rfl inf4 (by decide) rfl) (show _ = Value.pointer (some ⟨b, 2, none⟩) from rfl)) rfl ?_
      refine Ls_run (run_load sc4 rfl (hs.blk_at 0 rfl 2 rfl)) rfl ?_
      refine Ls_run (run_move rfl) rfl ?_
      refine Ls_part (t := 24) rfl (fun h5 => ?_) (fun h5 => ?_)
      · skip
        refine Ls_on rfl rfl ?_
        refine Ls_run (run_move rfl) rfl ?_
        refine Ls_on rfl rfl ?_
        refine Ls_run (run_nilCheck rfl) rfl ?_
        refine Ls_on rfl rfl ?_
        refine Ls_run (run_as (run_field Try.underlying129 rfl inf3 (by decide) rfl) (show _ = Value.pointer (some ⟨b, 3, none⟩) from rfl)) rfl ?_
        refine Ls_on rfl rfl ?_
        refine Ls_run (run_load sc3 rfl (hs.blk_at 0 rfl 3 rfl)) rfl ?_
        refine Ls_on rfl rfl ?_
        refine Ls_run (run_eql rfl rfl) rfl ?_
        refine Ls_run (run_pick_t rfl rfl) rfl ?_
        refine Ls_run (run_assign rfl) rfl ?_
        refine Ls_nil ?_
        refine Jm_seq ?_
        refine St_ifP rfl (fun h6 => ?_) (fun h6 => ?_)
        · skip
          refine St_seq ?_
          refine St_region ?_
          refine Ls_run (run_move rfl) rfl ?_
          refine Ls_call Try.func45 nm45 rfl rfl (Off_c B w _ b s Ao co hs) rfl ?_
          rintro v7 w9 ⟨rfl, hs⟩
          refine Ls_nil ?_
          refine Jm_seq ?_
          refine St_seq ?_
          refine St_region ?_
          refine Ls_run (run_assign rfl) rfl ?_
          refine Ls_nil ?_
          refine Jm_seq ?_
          refine St_ret ?_
          refine Jm_block_ret (Jm_then_ret  ?_)
          refine Jm_ret1 rfl rfl ?_
          have e : dwrite s (k : Int) l = (80, doff s) := by unfold dwrite; rw [if_neg (by omega), if_neg (by omega), if_pos ⟨by assumption, by assumption⟩]
          rw [e]
          exact ⟨_, rfl, rfl, Sat.dshut (s := doff s) hvs hs⟩
        · skip
          refine St_skip ?_
          refine Jm_block_normal (Jm_seq ?_)
          refine St_seq ?_
          refine St_region ?_
          refine Ls_run (run_move rfl) rfl ?_
          refine Ls_run (run_nilCheck rfl) rfl ?_
          refine Ls_run (run_as (run_field Try.underlying129 rfl inf3 (by decide) rfl) (show _ = Value.pointer (some ⟨b, 3, none⟩) from rfl)) rfl ?_
          refine Ls_run (run_load sc3 rfl (hs.blk_at 0 rfl 3 rfl)) rfl ?_
          refine Ls_run (run_sub rfl rfl rfl) rfl ?_
          refine Ls_run (run_nilCheck rfl) rfl ?_
          refine Ls_run (run_as (run_field Try.underlying129 rfl inf3 (by decide) rfl) (show _ = Value.pointer (some ⟨b, 3, none⟩) from rfl)) rfl ?_
          refine Ls_store hs inf3 rfl rfl rfl rfl ?_
          intro w10 hs
          try simp only [List.set_cons_zero, List.set_cons_succ] at hs
          refine Ls_nil ?_
          refine Jm_seq ?_
          refine St_seq ?_
          refine St_drawC 8 (fun x => Below w10.heap.size w10 x) mixed ?_
          intro w11 q12
          have hH := q12.below
          replace hs := hs.quiet q12
          refine AnC_grow hH ?_
          replace hH := Below.refl w11.heap.size w11
          refine AnC_takeP 0 (by kernel_rfl) rfl (by kernel_rfl) (by kernel_rfl) (by kernel_rfl) (fun _ _ _ h => h) (fun _ => hH) (fun x => run_move rfl) rfl ?_
          refine AnC_takeP 1 (by kernel_rfl) rfl (by kernel_rfl) (by kernel_rfl) (by kernel_rfl) (fun _ _ _ h => h) (fun _ => hH) (fun x => run_nilCheck rfl) rfl ?_
          refine AnC_takeP 2 (by kernel_rfl) rfl (by kernel_rfl) (by kernel_rfl) (by kernel_rfl) (fun _ _ _ h => h) (fun _ => hH) (fun x => run_as (run_field Try.underlying129 rfl inf55 (by decide) rfl) (show _ = Value.pointer (some ⟨b, 0, none⟩) from rfl)) rfl ?_
          refine AnC_take 3 [8, 3] rfl (by kernel_rfl) (by kernel_rfl) (by kernel_rfl) (by kernel_rfl) (fun _ _ _ h => h) hH (fun x hx => run_load sc55 rfl ((hs.grow hx).blk_at 0 rfl 0 rfl)) rfl ?_
          refine AnC_takeP 4 (by kernel_rfl) rfl (by kernel_rfl) (by kernel_rfl) (by kernel_rfl) (fun _ _ _ h => h) (fun _ => hH) (fun x => run_move rfl) rfl ?_
          refine AnC_takeP 5 (by kernel_rfl) rfl (by kernel_rfl) (by kernel_rfl) (by kernel_rfl) (fun _ _ _ h => h) (fun _ => hH) (fun x => run_move rfl) rfl ?_
          refine AnC_only 6 (by kernel_rfl) rfl ?_
          refine Ls_call Try.func118 nm118 rfl rfl (Clone_c w11 A n c l (Sat.rdL (pre := [_, _]) hr hs) hn) rfl ?_
          rintro v13 w14 ⟨Ac, cc, rfl, hsC⟩
          replace hs := hs.trans hsC
          simp only [List.cons_append, List.nil_append] at hs
          replace hH := (hsC.below : Below w11.heap.size w11 w14)
          refine Ls_nil (Jm_AnC (fun _ => hH) ?_)
          refine AnC_grow hH ?_
          replace hH := Below.refl w14.heap.size w14
          obtain ⟨g, rfl⟩ := (hs.front 2 rfl).own_addr (by omega)
          refine AnC_takeP 7 (by kernel_rfl) rfl (by kernel_rfl) (by kernel_rfl) (by kernel_rfl) (fun _ _ _ h => h) (fun _ => hH) (fun x => run_index Try.underlying55 inf28 rfl rfl rfl (by omega) (by omega)) rfl ?_
          refine AnC_only 8 (by kernel_rfl) rfl ?_
          replace hs := hs.front 2 rfl
          simp only [List.cons_append, List.nil_append, List.eraseIdx_cons_zero, List.eraseIdx_cons_succ] at hs
          refine Ls_storeOwn hs inf28 rfl rfl rfl (by omega) ?_
          intro w15 hs
          refine Ls_nil (Jm_AnC_closed (by kernel_rfl) ?_)
          refine AnC_switch (H' := fun x => Below w15.heap.size w15 x) 9 (by kernel_rfl) ?_
          replace hH := Below.refl w15.heap.size w15
          refine AnC_done (by kernel_rfl) ?_
          refine Jm_seq ?_
          refine St_seq ?_
          refine St_region ?_
          replace hs := hs.front 2 rfl
          simp only [List.cons_append, List.nil_append, List.eraseIdx_cons_zero, List.eraseIdx_cons_succ] at hs
          replace hs := hs.front 1 rfl
          simp only [List.cons_append, List.nil_append, List.eraseIdx_cons_zero, List.eraseIdx_cons_succ] at hs
          replace hs := hs.front 2 rfl
          simp only [List.cons_append, List.nil_append, List.eraseIdx_cons_zero, List.eraseIdx_cons_succ] at hs
          simp only [Nat.zero_add, Nat.mul_one, Int.toNat_natCast, El.val_flat] at hs
          have hs5 := Sat.row_swap (pre := _ :: _ :: L) k l hs hl.symm (bytesV_flat l) hvs (by omega)
          replace hs := hs5
          simp only [List.cons_append] at hs
          refine Ls_run (run_move rfl) rfl ?_
          refine Ls_run (run_nilCheck rfl) rfl ?_
          refine Ls_run (run_as (run_field Try.underlying129 rfl inf3 (by decide) rfl) (show _ = Value.pointer (some ⟨b, 5, none⟩) from rfl)) rfl ?_
          refine Ls_run (run_load sc3 rfl (hs.blk_at 1 rfl 5 rfl)) rfl ?_
          refine Ls_run (run_add rfl rfl rfl) rfl ?_
          refine Ls_run (run_nilCheck rfl) rfl ?_
          refine Ls_run (run_as (run_field Try.underlying129 rfl inf3 (by decide) rfl) (show _ = Value.pointer (some ⟨b, 5, none⟩) from rfl)) rfl ?_
          replace hs := hs.front 1 rfl
          simp only [List.cons_append, List.nil_append, List.eraseIdx_cons_zero, List.eraseIdx_cons_succ] at hs
          refine Ls_store hs inf3 rfl rfl rfl rfl ?_
          intro w16 hs
          try simp only [List.set_cons_zero, List.set_cons_succ] at hs
          refine Ls_nil ?_
          refine Jm_seq ?_
          refine St_seq ?_
          refine St_region ?_
          refine Ls_run (run_assign rfl) rfl ?_
          refine Ls_nil ?_
          refine Jm_seq ?_
          refine St_ret ?_
          refine Jm_ret1 rfl rfl ?_
          have e : dwrite s (k : Int) l = (0, { s with left := IntKind.i64.wrap (s.left - 1), bl := s.bl.set k l, writes := IntKind.i64.wrap (s.writes + 1) }) := by unfold dwrite; rw [if_neg (by omega), if_neg (by omega), if_neg (by simp_all)]; rfl
          rw [e]
          refine ⟨_, rfl, rfl, Sat.dshut (s := { s with left := IntKind.i64.wrap (s.left - 1), bl := s.bl.set k l, writes := IntKind.i64.wrap (s.writes + 1) }) (vs := vs.set k (Value.slice Ac n cc)) (A := some ⟨g, 0, none⟩) (c := co) (by simpa using hvs) ?_⟩
          simp only [dcells, List.length_set, El.val_flat] at hs ⊢
          exact hs
      · skip
        refine Ls_off rfl rfl rfl rfl ?_
        refine Ls_off rfl rfl rfl rfl ?_
        refine Ls_off rfl rfl rfl rfl ?_
        refine Ls_off rfl rfl rfl rfl ?_
        refine Ls_off rfl rfl rfl rfl ?_
        refine Ls_run (run_pick_f rfl rfl) rfl ?_
        refine Ls_run (run_assign rfl) rfl ?_
        refine Ls_nil ?_
        refine Jm_seq ?_
        refine St_iff rfl ?_
        refine St_skip ?_
        refine Jm_block_normal (Jm_seq ?_)
        refine St_seq ?_
        refine St_region ?_
        refine Ls_run (run_move rfl) rfl ?_
        refine Ls_run (run_nilCheck rfl) rfl ?_
        refine Ls_run (run_as (run_field Try.underlying129 rfl inf3 (by decide) rfl) (show _ = Value.pointer (some ⟨b, 3, none⟩) from rfl)) rfl ?_
        refine Ls_run (run_load sc3 rfl (hs.blk_at 0 rfl 3 rfl)) rfl ?_
        refine Ls_run (run_sub rfl rfl rfl) rfl ?_
        refine Ls_run (run_nilCheck rfl) rfl ?_
        refine Ls_run (run_as (run_field Try.underlying129 rfl inf3 (by decide) rfl) (show _ = Value.pointer (some ⟨b, 3, none⟩) from rfl)) rfl ?_
        refine Ls_store hs inf3 rfl rfl rfl rfl ?_
        intro w18 hs
        try simp only [List.set_cons_zero, List.set_cons_succ] at hs
        refine Ls_nil ?_
        refine Jm_seq ?_
        refine St_seq ?_
        refine St_drawC 8 (fun x => Below w18.heap.size w18 x) mixed ?_
        intro w19 q20
        have hH := q20.below
        replace hs := hs.quiet q20
        refine AnC_grow hH ?_
        replace hH := Below.refl w19.heap.size w19
        refine AnC_takeP 0 (by kernel_rfl) rfl (by kernel_rfl) (by kernel_rfl) (by kernel_rfl) (fun _ _ _ h => h) (fun _ => hH) (fun x => run_move rfl) rfl ?_
        refine AnC_takeP 1 (by kernel_rfl) rfl (by kernel_rfl) (by kernel_rfl) (by kernel_rfl) (fun _ _ _ h => h) (fun _ => hH) (fun x => run_nilCheck rfl) rfl ?_
        refine AnC_takeP 2 (by kernel_rfl) rfl (by kernel_rfl) (by kernel_rfl) (by kernel_rfl) (fun _ _ _ h => h) (fun _ => hH) (fun x => run_as (run_field Try.underlying129 rfl inf55 (by decide) rfl) (show _ = Value.pointer (some ⟨b, 0, none⟩) from rfl)) rfl ?_
        refine AnC_take 3 [8, 3] rfl (by kernel_rfl) (by kernel_rfl) (by kernel_rfl) (by kernel_rfl) (fun _ _ _ h => h) hH (fun x hx => run_load sc55 rfl ((hs.grow hx).blk_at 0 rfl 0 rfl)) rfl ?_
        refine AnC_takeP 4 (by kernel_rfl) rfl (by kernel_rfl) (by kernel_rfl) (by kernel_rfl) (fun _ _ _ h => h) (fun _ => hH) (fun x => run_move rfl) rfl ?_
        refine AnC_takeP 5 (by kernel_rfl) rfl (by kernel_rfl) (by kernel_rfl) (by kernel_rfl) (fun _ _ _ h => h) (fun _ => hH) (fun x => run_move rfl) rfl ?_
        refine AnC_only 6 (by kernel_rfl) rfl ?_
        refine Ls_call Try.func118 nm118 rfl rfl (Clone_c w19 A n c l (Sat.rdL (pre := [_, _]) hr hs) hn) rfl ?_
        rintro v21 w22 ⟨Ac, cc, rfl, hsC⟩
        replace hs := hs.trans hsC
        simp only [List.cons_append, List.nil_append] at hs
        replace hH := (hsC.below : Below w19.heap.size w19 w22)
        refine Ls_nil (Jm_AnC (fun _ => hH) ?_)
        refine AnC_grow hH ?_
        replace hH := Below.refl w22.heap.size w22
        obtain ⟨g, rfl⟩ := (hs.front 2 rfl).own_addr (by omega)
        refine AnC_takeP 7 (by kernel_rfl) rfl (by kernel_rfl) (by kernel_rfl) (by kernel_rfl) (fun _ _ _ h => h) (fun _ => hH) (fun x => run_index Try.underlying55 inf28 rfl rfl rfl (by omega) (by omega)) rfl ?_
        refine AnC_only 8 (by kernel_rfl) rfl ?_
        replace hs := hs.front 2 rfl
        simp only [List.cons_append, List.nil_append, List.eraseIdx_cons_zero, List.eraseIdx_cons_succ] at hs
        refine Ls_storeOwn hs inf28 rfl rfl rfl (by omega) ?_
        intro w23 hs
        refine Ls_nil (Jm_AnC_closed (by kernel_rfl) ?_)
        refine AnC_switch (H' := fun x => Below w23.heap.size w23 x) 9 (by kernel_rfl) ?_
        replace hH := Below.refl w23.heap.size w23
        refine AnC_done (by kernel_rfl) ?_
        refine Jm_seq ?_
        refine St_seq ?_
        refine St_region ?_
        replace hs := hs.front 2 rfl
        simp only [List.cons_append, List.nil_append, List.eraseIdx_cons_zero, List.eraseIdx_cons_succ] at hs
        replace hs := hs.front 1 rfl
        simp only [List.cons_append, List.nil_append, List.eraseIdx_cons_zero, List.eraseIdx_cons_succ] at hs
        replace hs := hs.front 2 rfl
        simp only [List.cons_append, List.nil_append, List.eraseIdx_cons_zero, List.eraseIdx_cons_succ] at hs
        simp only [Nat.zero_add, Nat.mul_one, Int.toNat_natCast, El.val_flat] at hs
        have hs5 := Sat.row_swap (pre := _ :: _ :: L) k l hs hl.symm (bytesV_flat l) hvs (by omega)
        replace hs := hs5
        simp only [List.cons_append] at hs
        refine Ls_run (run_move rfl) rfl ?_
        refine Ls_run (run_nilCheck rfl) rfl ?_
        refine Ls_run (run_as (run_field Try.underlying129 rfl inf3 (by decide) rfl) (show _ = Value.pointer (some ⟨b, 5, none⟩) from rfl)) rfl ?_
        refine Ls_run (run_load sc3 rfl (hs.blk_at 1 rfl 5 rfl)) rfl ?_
        refine Ls_run (run_add rfl rfl rfl) rfl ?_
        refine Ls_run (run_nilCheck rfl) rfl ?_
        refine Ls_run (run_as (run_field Try.underlying129 rfl inf3 (by decide) rfl) (show _ = Value.pointer (some ⟨b, 5, none⟩) from rfl)) rfl ?_
        replace hs := hs.front 1 rfl
        simp only [List.cons_append, List.nil_append, List.eraseIdx_cons_zero, List.eraseIdx_cons_succ] at hs
        refine Ls_store hs inf3 rfl rfl rfl rfl ?_
        intro w24 hs
        try simp only [List.set_cons_zero, List.set_cons_succ] at hs
        refine Ls_nil ?_
        refine Jm_seq ?_
        refine St_seq ?_
        refine St_region ?_
        refine Ls_run (run_assign rfl) rfl ?_
        refine Ls_nil ?_
        refine Jm_seq ?_
        refine St_ret ?_
        refine Jm_ret1 rfl rfl ?_
        have e : dwrite s (k : Int) l = (0, { s with left := IntKind.i64.wrap (s.left - 1), bl := s.bl.set k l, writes := IntKind.i64.wrap (s.writes + 1) }) := by unfold dwrite; rw [if_neg (by omega), if_neg (by omega), if_neg (by simp_all)]; rfl
        rw [e]
        refine ⟨_, rfl, rfl, Sat.dshut (s := { s with left := IntKind.i64.wrap (s.left - 1), bl := s.bl.set k l, writes := IntKind.i64.wrap (s.writes + 1) }) (vs := vs.set k (Value.slice Ac n cc)) (A := some ⟨g, 0, none⟩) (c := co) (by simpa using hvs) ?_⟩
        simp only [dcells, List.length_set, El.val_flat] at hs ⊢
        exact hs
end Go.Proofs.Ytipkfdeiallifaa.Lg
