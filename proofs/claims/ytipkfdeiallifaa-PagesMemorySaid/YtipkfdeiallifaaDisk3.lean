/-
  The disk's New, copies, Image, and the laws' images, walked. By program (gen/disk3.py).
-/
import Derived.Test.YtipkfdeiallifaaDisk2
set_option linter.unusedVariables false
set_option linter.unusedSimpArgs false
namespace Go.Proofs.Ytipkfdeiallifaa.Lg
open Go Go.RowKit
theorem take_all3 {α : Type} {l l2 : List α} {i : Nat} (h : l.take i = l2.take i) (h1 : l.length = i) (h2 : l2.length = i) : l = l2 := by
  rwa [List.take_of_length_le (by omega), List.take_of_length_le (by omega)] at h
theorem take_snoc4 {α : Type} {l : List α} {d : α} {i : Nat} (h : i < l.length) : l.take (i + 1) = l.take i ++ [l.getD i d] := by
  rw [List.take_succ_eq_append_getElem h, List.getD_eq_getElem?_getD, List.getElem?_eq_getElem h]; rfl
/-- The first i rows, the others still empty. -/
def half (bl : List (List Int)) (i : Nat) : List (List Int) := bl.take i ++ List.replicate (bl.length - i) []
theorem half_len (bl : List (List Int)) (i : Nat) (h : i ≤ bl.length) : (half bl i).length = bl.length := by simp [half]; omega
theorem half_0 (bl : List (List Int)) : half bl 0 = List.replicate bl.length [] := by simp [half]
theorem half_all (bl : List (List Int)) : half bl bl.length = bl := by simp [half]
theorem half_set (bl : List (List Int)) (i : Nat) (h : i < bl.length) : (half bl i).set i (bl.getD i []) = half bl (i + 1) := by
  unfold half
  obtain ⟨j, hj⟩ : ∃ j, bl.length - i = j + 1 := ⟨bl.length - i - 1, by omega⟩
  have hj2 : bl.length - (i + 1) = j := by omega
  have hl : (bl.take i).length = i := by rw [List.length_take]; omega
  rw [hj, hj2, take_snoc4 (d := []) h, List.set_append_right _ _ (by omega), hl, Nat.sub_self, List.replicate_succ, List.set_cons_zero]
  simp
set_option maxRecDepth 100000 in
set_option maxHeartbeats 1000000 in
theorem copies_c (w : World) (A : Option Addr) (n c : Nat) (vs : List Value) (bl : List (List Int)) (hr : Rd w A n c 1 (El.val.flat vs)) (hp : PartsK (El.int .u8) w vs bl) (hx : ∀ r ∈ bl, r.length ≤ 1024) (hn : n ≤ 64) :
    Calls Try.prog 91 [.slice A n c].toArray w (Ret (fun v' w' => ∃ A' c' vs', v' = .slice A' n c' ∧ vs'.length = n ∧ Sat w w' (Own 28 1 (.slice A' n c') n (El.val.flat vs') :: rowsA 5 (El.int .u8) vs' bl))) := by
  have hs := Sat.start w
  have hvl : vs.length = n := by have := hr.len; rw [El.flat_length] at this; simpa [El.val] using this
  have hbl : bl.length = n := by have := hp.1; omega
  refine Calls_body Try.func91 rfl rfl rfl (envE_cons (i := 0) (v := .slice A n c) rfl envE_nil) ?_
  refine St_seq ?_
  refine St_region ?_
  refine Ls_run (run_assign rfl) rfl ?_
  refine Ls_nil ?_
  refine Jm_seq ?_
  refine St_seq ?_
  refine St_region ?_
  refine Ls_run (run_move rfl) rfl ?_
  refine Ls_run (run_len Try.underlying55 rfl) rfl ?_
  refine Ls_make (m := n) hs Try.underlying55 infq28 rfl rfl rfl (by omega) (by omega) rfl ?_
  intro b1 w2 hs
  refine Ls_run (run_assign rfl) rfl ?_
  refine Ls_nil ?_
  refine Jm_seq ?_
  refine St_seq ?_
  refine St_seq ?_
  refine St_region ?_
  refine Ls_run (run_move rfl) rfl ?_
  refine Ls_run (run_len Try.underlying55 rfl) rfl ?_
  refine Ls_run (run_move rfl) rfl ?_
  refine Ls_nil ?_
  refine Jm_seq ?_
  refine St_block ?_
  replace hs := Sat.rows_nil 5 (El.int .u8) n hs
  rw [← hbl, ← half_0, hbl] at hs
  obtain ⟨En3, hEn3⟩ : ∃ F : Nat × List Value → Env, ∀ (i : Nat) (ws : List Value), F (i, ws) = [(9, .slice A n c), (10, .int .i64 (n : Int)), (11, .int .i64 (i : Int)), (3, .slice (some ⟨b1, 0, none⟩) n n)] := ⟨(fun (s : Nat × List Value) => match s with | (i, ws) => [(9, .slice A n c), (10, .int .i64 (n : Int)), (11, .int .i64 (i : Int)), (3, .slice (some ⟨b1, 0, none⟩) n n)]), fun _ _ => rfl⟩
  obtain ⟨Iv4, hIv4⟩ : ∃ F : Nat × List Value → World → Prop, ∀ (i : Nat) (ws : List Value) (wr : World), F (i, ws) wr = (Sat w wr (Own 28 1 (.slice (some ⟨b1, 0, none⟩) n n) n (El.val.flat ws) :: rowsA 5 (El.int .u8) ws (half bl i)) ∧ i ≤ n ∧ ws.length = n) := ⟨(fun (s : Nat × List Value) => match s with | (i, ws) => fun (wr : World) => Sat w wr (Own 28 1 (.slice (some ⟨b1, 0, none⟩) n n) n (El.val.flat ws) :: rowsA 5 (El.int .u8) ws (half bl i)) ∧ i ≤ n ∧ ws.length = n), fun _ _ _ => rfl⟩
  obtain ⟨ms5, hms5⟩ : ∃ F : Nat × List Value → Nat, ∀ (i : Nat) (ws : List Value), F (i, ws) = (n - i) := ⟨(fun (s : Nat × List Value) => match s with | (i, ws) => n - i), fun _ _ => rfl⟩
  refine St_loop En3 Iv4 ms5 (0, List.replicate n nilV) ?_ ?_ ?_
  · skip
    rw [hIv4]
    exact ⟨by rw [El.val_flat]; exact hs, by omega, by simp⟩
  · rw [hEn3]; exact (subE_cons rfl (subE_cons rfl (subE_cons rfl (subE_cons rfl subE_nil))))
  rintro ⟨i, ws⟩ wr hI6
  rw [hIv4] at hI6
  obtain ⟨hs, hi, hws⟩ := hI6
  refine St_eqE (hEn3 _ _) ?_
  refine St_seq ?_
  refine St_region ?_
  refine Ls_run (run_lss rfl rfl) rfl ?_
  refine Ls_nil ?_
  refine Jm_seq ?_
  refine St_seq ?_
  refine St_ifP rfl (fun h7 => ?_) (fun h7 => ?_)
  · skip
    refine St_skip ?_
    refine Jm_seq ?_
    refine St_seq ?_
    refine St_block ?_
    refine St_seq ?_
    refine St_region ?_
    refine Ls_run (run_move rfl) rfl ?_
    obtain ⟨Ai, ni, ci, hvi, hri⟩ := hp.2 i (by omega)
    rw [← bytesV_flat] at hri
    have hmi := rdB_len hri
    have hxi := hx _ (getD_mem_bl (i := i) (ls := bl) (by omega))
    refine Ls_index (El.val) (hr.inB hs) Try.underlying55 inf28 rfl rfl (by omega) (by omega) hvi rfl ?_
    intro b8 o9 hc10
    refine Ls_run (run_load sc28 rfl (hc10 0 _ rfl)) rfl ?_
    refine Ls_run (run_assign rfl) rfl ?_
    refine Ls_run (run_assign rfl) rfl ?_
    refine Ls_nil ?_
    refine Jm_seq ?_
    refine St_region ?_
    refine Ls_run (run_move rfl) rfl ?_
    refine Ls_run (run_move rfl) rfl ?_
    refine Ls_run (run_move rfl) rfl ?_
    refine Ls_call Try.func118 nm118 rfl rfl (Clone_c wr Ai ni ci (bl.getD i []) (hri.inB hs) (by omega)) rfl ?_
    rintro v11 w12 ⟨Ac, cc, rfl, hsC⟩
    replace hs := hs.trans hsC
    simp only [List.cons_append, List.nil_append] at hs
    refine Ls_run (run_index Try.underlying55 inf28 rfl rfl rfl (by omega) (by omega)) rfl ?_
    replace hs := hs.front 1 rfl
    simp only [List.cons_append, List.nil_append, List.eraseIdx_cons_zero, List.eraseIdx_cons_succ] at hs
    refine Ls_storeOwn hs inf28 rfl rfl rfl (by omega) ?_
    intro w13 hs
    refine Ls_nil ?_
    refine Jm_block_normal (Jm_seq ?_)
    refine St_region ?_
    replace hs := hs.front 1 rfl
    simp only [List.cons_append, List.nil_append, List.eraseIdx_cons_zero, List.eraseIdx_cons_succ] at hs
    simp only [Nat.zero_add, Nat.mul_one, Int.toNat_natCast, El.val_flat] at hs
    have hs5 := Sat.row_swap (pre := [_]) i (bl.getD i []) hs hmi.symm (bytesV_flat _) (by rw [half_len _ _ (by omega)]; omega) (by omega)
    rw [half_set bl i (by omega)] at hs5
    replace hs := hs5
    simp only [List.cons_append, List.nil_append] at hs
    refine Ls_run (run_add rfl rfl (w64 (by omega))) rfl ?_
    refine Ls_run (run_move rfl) rfl ?_
    refine Ls_nil ?_
    refine Jm_round (i + 1, ws.set i (Value.slice Ac ni cc)) ?_ ?_ ?_
    · rw [hEn3]; exact (subE_cons rfl (subE_cons rfl (subE_cons rfl (subE_cons rfl subE_nil))))
    · skip
      rw [hIv4]
      exact ⟨by rw [El.val_flat]; exact hs, by omega, by rw [List.length_set]; exact hws⟩
    · skip
      rw [hms5, hms5]
      omega
  · skip
    refine St_exit ?_
    refine Jm_then_exit (Jm_then_exit (Jm_block_same (Jm_seq ?_)))
    refine St_seq ?_
    refine St_region ?_
    refine Ls_run (run_move rfl) rfl ?_
    refine Ls_run (run_assign rfl) rfl ?_
    refine Ls_nil ?_
    refine Jm_seq ?_
    refine St_ret ?_
    refine Jm_ret1 rfl rfl ?_
    have hi9 : i = bl.length := by omega
    rw [hi9, half_all] at hs
    exact ⟨_, rfl, _, _, ws, rfl, hws, hs⟩
set_option maxRecDepth 100000 in
set_option maxHeartbeats 1000000 in
theorem Image_c (B w : World) (L : List Assn) (b : Nat) (s : DSt) (hs : Sat B w (DiskA 129 28 5 b s :: L)) (hok : ∀ r ∈ s.bl, r.length ≤ 1024) (hln : s.bl.length ≤ 64) :
    Calls Try.prog 28 [.pointer (some ⟨b, 0, none⟩)].toArray w (Ret (fun v' w' => ∃ A c vs, v' = .slice A s.bl.length c ∧ vs.length = s.bl.length ∧ Sat B w' ((Own 28 1 (.slice A s.bl.length c) s.bl.length (El.val.flat vs) :: rowsA 5 (El.int .u8) vs s.bl) ++ (DiskA 129 28 5 b s :: L)))) := by
  obtain ⟨vs, Ao, co, hvs, hs⟩ := hs.dopen
  refine Calls_body Try.func28 rfl rfl rfl (envE_cons (i := 0) (v := .pointer (some ⟨b, 0, none⟩)) rfl envE_nil) ?_
  refine St_seq ?_
  refine St_region ?_
  refine Ls_run (run_assign rfl) rfl ?_
  refine Ls_nil ?_
  refine Jm_seq ?_
  refine St_seq ?_
  refine St_seq ?_
  refine St_region ?_
  refine Ls_run (run_move rfl) rfl ?_
  refine Ls_run (run_asB (c := false) (run_eql_ptr_nil Try.underlying46 rfl rfl) rfl) rfl ?_
  refine Ls_nil ?_
  refine Jm_seq ?_
  refine St_iff rfl ?_
  refine St_skip ?_
  refine Jm_seq ?_
  refine St_seq ?_
  refine St_region ?_
  refine Ls_run (run_move rfl) rfl ?_
  refine Ls_run (run_nilCheck rfl) rfl ?_
  refine Ls_run (run_as (run_field Try.underlying129 rfl inf55 (by decide) rfl) (show _ = Value.pointer (some ⟨b, 0, none⟩) from rfl)) rfl ?_
  refine Ls_run (run_load sc55 rfl (hs.blk_at 0 rfl 0 rfl)) rfl ?_
  refine Ls_call Try.func91 nm91 rfl rfl (copies_c w Ao s.bl.length co vs s.bl (hs.rd_at 1 rfl) (Sat.parts (pre := _ :: _ :: L) hs hvs) hok hln) rfl ?_
  rintro v2 w3 ⟨Ac, cc, vc, rfl, hvc, hsC⟩
  have hs5 := (hs.dshut hvs).trans hsC
  refine Ls_run (run_assign rfl) rfl ?_
  refine Ls_nil ?_
  refine Jm_seq ?_
  refine St_ret ?_
  refine Jm_ret1 rfl rfl ?_
  exact ⟨_, rfl, Ac, cc, vc, rfl, hvc, hs5⟩
set_option maxRecDepth 100000 in
set_option maxHeartbeats 1000000 in
theorem New_c (w : World) (m : Nat) (h1 : 1 ≤ m) (h2 : m ≤ 64) :
    Calls Try.prog 38 [.int .i64 (m : Int)].toArray w (Ret (fun v' w' => ∃ b, v' = .tuple #[.pointer (some ⟨b, 0, none⟩), .int .i64 0] ∧ Sat w w' [DiskA 129 28 5 b (dnew m)])) := by
  have hs := Sat.start w
  refine Calls_body Try.func38 rfl rfl rfl (envE_cons (i := 0) (v := .int .i64 (m : Int)) rfl envE_nil) ?_
  refine St_seq ?_
  refine St_region ?_
  refine Ls_run (run_assign rfl) rfl ?_
  refine Ls_run (run_assign rfl) rfl ?_
  refine Ls_nil ?_
  refine Jm_seq ?_
  refine St_seq ?_
  refine St_seq ?_
  refine St_region ?_
  refine Ls_run (run_move rfl) rfl ?_
  refine Ls_run (run_lss rfl rfl) rfl ?_
  refine Ls_run (run_move rfl) rfl ?_
  refine Ls_partP (t := 6) rfl (fun h1 => ?_) (fun h1 => ?_)
  · skip
    exfalso; omega
  · skip
    refine Ls_on rfl rfl ?_
    refine Ls_run (run_move rfl) rfl ?_
    refine Ls_on rfl rfl ?_
    refine Ls_run (run_gtr rfl rfl) rfl ?_
    refine Ls_run (run_pick_f rfl rfl) rfl ?_
    refine Ls_nil ?_
    refine Jm_seq ?_
    refine St_ifP rfl (fun h2 => ?_) (fun h2 => ?_)
    · skip
      exfalso; omega
    · skip
      refine St_skip ?_
      refine Jm_seq ?_
      refine St_seq ?_
      refine St_region ?_
      refine Ls_run (run_move rfl) rfl ?_
      refine Ls_make (m := m) hs Try.underlying55 infq28 rfl rfl rfl (by omega) (by omega) rfl ?_
      intro b3 w4 hs
      refine Ls_run (run_buildO (pv := [(0, _)]) rfl (bld129_0 _ _ _)) rfl ?_
      refine Ls_box hs rfl rfl ?_
      intro b6 w5 hs
      refine Ls_run (run_assign rfl) rfl ?_
      refine Ls_run (run_assign rfl) rfl ?_
      refine Ls_nil ?_
      refine Jm_seq ?_
      refine St_ret ?_
      refine Jm_ret2 rfl rfl rfl ?_
      replace hs := Sat.rows_nil 5 (El.int .u8) m hs
      refine ⟨_, rfl, _, rfl, Sat.dshut (s := dnew m) (L := []) (vs := List.replicate m nilV) (A := some ⟨b3, 0, none⟩) (c := m) (by simp [dnew]) ?_⟩
      have e : (dnew m).bl.length = m := by simp [dnew]
      unfold dcells
      rw [e, El.val_flat]
      exact hs
set_option maxRecDepth 100000 in
set_option maxHeartbeats 1000000 in
theorem New_bad (w : World) (m : Int) (h : m < 1 ∨ 64 < m) :
    Calls Try.prog 38 [.int .i64 m].toArray w (Ret (fun v' w' => w = w' ∧ v' = .tuple #[.pointer none, .int .i64 1])) := by
  refine Calls_body Try.func38 rfl rfl rfl (envE_cons (i := 0) (v := .int .i64 m) rfl envE_nil) ?_
  refine St_seq ?_
  refine St_region ?_
  refine Ls_run (run_assign rfl) rfl ?_
  refine Ls_run (run_assign rfl) rfl ?_
  refine Ls_nil ?_
  refine Jm_seq ?_
  refine St_seq ?_
  refine St_seq ?_
  refine St_region ?_
  refine Ls_run (run_move rfl) rfl ?_
  refine Ls_run (run_lss rfl rfl) rfl ?_
  refine Ls_run (run_move rfl) rfl ?_
  refine Ls_partP (t := 6) rfl (fun h1 => ?_) (fun h1 => ?_)
  · skip
    refine Ls_off rfl rfl rfl rfl ?_
    refine Ls_off rfl rfl rfl rfl ?_
    refine Ls_run (run_pick_t rfl rfl) rfl ?_
    refine Ls_nil ?_
    refine Jm_seq ?_
    refine St_ift rfl ?_
    refine St_seq ?_
    refine St_region ?_
    refine Ls_run (run_assign rfl) rfl ?_
    refine Ls_run (run_assign rfl) rfl ?_
    refine Ls_nil ?_
    refine Jm_seq ?_
    refine St_ret ?_
    refine Jm_then_ret  ?_
    refine Jm_ret2 rfl rfl rfl ?_
    exact ⟨_, rfl, rfl, rfl⟩
  · skip
    refine Ls_on rfl rfl ?_
    refine Ls_run (run_move rfl) rfl ?_
    refine Ls_on rfl rfl ?_
    refine Ls_run (run_gtr rfl rfl) rfl ?_
    refine Ls_run (run_pick_f rfl rfl) rfl ?_
    refine Ls_nil ?_
    refine Jm_seq ?_
    refine St_ifP rfl (fun h3 => ?_) (fun h3 => ?_)
    · skip
      refine St_seq ?_
      refine St_region ?_
      refine Ls_run (run_assign rfl) rfl ?_
      refine Ls_run (run_assign rfl) rfl ?_
      refine Ls_nil ?_
      refine Jm_seq ?_
      refine St_ret ?_
      refine Jm_then_ret  ?_
      refine Jm_ret2 rfl rfl rfl ?_
      exact ⟨_, rfl, rfl, rfl⟩
    · skip
      exfalso; omega
end Go.Proofs.Ytipkfdeiallifaa.Lg
