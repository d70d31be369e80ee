/-
  The journal's Open, walked. By program (gen/jour8.py).
-/
import Derived.Test.YtpmkedgennnekaaJour7
set_option linter.unusedVariables false
set_option linter.unusedSimpArgs false
namespace Go.Proofs.Ytpmkedgennnekaa.Lg
open Go Go.RowKit Go.Proofs.Ytpmkedgennnekaa.WirePure
/-- The journal that the first k blocks tell. -/
def jpick (bl : List (List Int)) (parts : Int) : Nat → Option JSt
  | 0 => none
  | k + 1 => match rentry (bl.getD k []) parts with
    | none => jpick bl parts k
    | some (n, g) => match jpick bl parts k with
      | none => some ⟨parts, n, g, (k : Int), false⟩
      | some j => if j.gen < g then some ⟨parts, n, g, (k : Int), false⟩ else some j
theorem jpick_no {bl : List (List Int)} {parts : Int} {k : Nat} (h : rentry (bl.getD k []) parts = none) : jpick bl parts (k + 1) = jpick bl parts k := by simp only [jpick, h]
theorem jpick_first {bl : List (List Int)} {parts g : Int} {n : NSt} {k : Nat} (h : rentry (bl.getD k []) parts = some (n, g)) (h0 : jpick bl parts k = none) : jpick bl parts (k + 1) = some ⟨parts, n, g, (k : Int), false⟩ := by simp only [jpick, h, h0]
theorem jpick_more {bl : List (List Int)} {parts g : Int} {n : NSt} {j : JSt} {k : Nat} (h : rentry (bl.getD k []) parts = some (n, g)) (h0 : jpick bl parts k = some j) (hg : j.gen < g) : jpick bl parts (k + 1) = some ⟨parts, n, g, (k : Int), false⟩ := by simp only [jpick, h, h0, if_pos hg]
theorem jpick_less {bl : List (List Int)} {parts g : Int} {n : NSt} {j : JSt} {k : Nat} (h : rentry (bl.getD k []) parts = some (n, g)) (h0 : jpick bl parts k = some j) (hg : ¬ j.gen < g) : jpick bl parts (k + 1) = some j := by simp only [jpick, h, h0, if_neg hg]
/-- The disk behind k reads. -/
def dread_k (d : DSt) : Nat → DSt
  | 0 => d
  | k + 1 => (dread (dread_k d k) (k : Int)).2.2
theorem dread_k_same (d : DSt) : ∀ k : Nat, (dread_k d k).bl = d.bl ∧ (dread_k d k).down = d.down ∧ (dread_k d k).armed = d.armed ∧ (dread_k d k).left = d.left ∧ (dread_k d k).writes = d.writes
  | 0 => ⟨rfl, rfl, rfl, rfl, rfl⟩
  | k + 1 => by
    have ih := dread_k_same d k
    simp only [dread_k]
    unfold dread
    split <;> exact ih
/-- Open: the error, the journal, the disk behind it. -/
def jopen (d : DSt) (parts : Int) : Int × Option JSt × DSt :=
  if parts < 1 ∨ 4 < parts then (1, none, d)
  else if d.bl.length < 1 then (180, none, d)
  else if d.down then (80, none, d)
  else match jpick d.bl parts (min 2 d.bl.length) with
    | none => (180, none, dread_k d (min 2 d.bl.length))
    | some j => (0, some j, dread_k d (min 2 d.bl.length))
set_option maxRecDepth 100000 in
set_option maxHeartbeats 1000000 in
theorem Open_bad (w : World) (b : Nat) (parts : Int) (h : parts < 1 ∨ 4 < parts) :
    Calls Try.prog 37 [.pointer (some ⟨b, 0, none⟩), .int .i64 parts].toArray w (Ret (fun v' w' => w = w' ∧ v' = .tuple #[.pointer none, .int .i64 1])) := by
  refine Calls_body Try.func37 rfl rfl rfl (envE_cons (i := 0) (v := .pointer (some ⟨b, 0, none⟩)) rfl (envE_cons (i := 1) (v := .int .i64 parts) rfl envE_nil)) ?_
  refine St_seq ?_
  refine St_region ?_
  refine Ls_run (run_assign rfl) rfl ?_
  refine Ls_run (run_assign rfl) rfl ?_
  refine Ls_nil ?_
  refine Jm_seq ?_
  refine St_seq ?_
  refine St_seq ?_
  refine St_region ?_
  refine Ls_run (run_move rfl) rfl ?_
  refine Ls_run (run_move rfl) rfl ?_
  refine Ls_call Try.func65 nm65 rfl rfl (jcheck_c w b parts) rfl ?_
  rintro v1 w2 ⟨rfl, rfl⟩
  rw [if_pos h]
  refine Ls_run (run_assign rfl) rfl ?_
  refine Ls_nil ?_
  refine Jm_seq ?_
  refine St_seq ?_
  refine St_region ?_
  refine Ls_run (run_move rfl) rfl ?_
  refine Ls_run (run_asB (c := true) (run_neq rfl rfl) (by decide)) rfl ?_
  refine Ls_nil ?_
  refine Jm_seq ?_
  refine St_ift rfl ?_
  refine St_seq ?_
  refine St_region ?_
  refine Ls_run (run_move rfl) rfl ?_
  refine Ls_run (run_assign rfl) rfl ?_
  refine Ls_run (run_assign rfl) rfl ?_
  refine Ls_nil ?_
  refine Jm_seq ?_
  refine St_ret ?_
  refine Jm_then_ret  ?_
  refine Jm_ret2 rfl rfl rfl ?_
  exact ⟨_, rfl, rfl, rfl⟩
set_option maxRecDepth 100000 in
set_option maxHeartbeats 1000000 in
theorem Open_g (B w : World) (L : List Assn) (b : Nat) (d : DSt) (hs : Sat B w (DiskA 85 31 5 b d :: L)) (hdok : ∀ x ∈ d.bl, IsBytes x ∧ x.length ≤ 1024) (hdl : 1 ≤ d.bl.length) (m : Nat) (hm1 : 1 ≤ m) (hm4 : m ≤ 4) :
    Calls Try.prog 37 [.pointer (some ⟨b, 0, none⟩), .int .i64 (m : Int)].toArray w (Ret (fun v' w' => ∃ q, v' = .tuple #[.pointer q, .int .i64 (jopen d m).1] ∧ Sat B w' (JO 98 3 q (some ⟨b, 0, none⟩) (jopen d m).2.1 :: DiskA 85 31 5 b (jopen d m).2.2 :: L))) := by
  refine Calls_body Try.func37 rfl rfl rfl (envE_cons (i := 0) (v := .pointer (some ⟨b, 0, none⟩)) rfl (envE_cons (i := 1) (v := .int .i64 (m : Int)) rfl envE_nil)) ?_
  refine St_seq ?_
  refine St_region ?_
  refine Ls_run (run_assign rfl) rfl ?_
  refine Ls_run (run_assign rfl) rfl ?_
  refine Ls_nil ?_
  refine Jm_seq ?_
  refine St_seq ?_
  refine St_seq ?_
  refine St_region ?_
  refine Ls_run (run_move rfl) rfl ?_
  refine Ls_run (run_move rfl) rfl ?_
  refine Ls_call Try.func65 nm65 rfl rfl (jcheck_c w b m) rfl ?_
  rintro v1 w2 ⟨rfl, rfl⟩
  rw [if_neg (by omega)]
  refine Ls_run (run_assign rfl) rfl ?_
  refine Ls_nil ?_
  refine Jm_seq ?_
  refine St_seq ?_
  refine St_region ?_
  refine Ls_run (run_move rfl) rfl ?_
  refine Ls_run (run_asB (c := false) (run_neq rfl rfl) (by decide)) rfl ?_
  refine Ls_nil ?_
  refine Jm_seq ?_
  refine St_iff rfl ?_
  refine St_skip ?_
  refine Jm_seq ?_
  refine St_seq ?_
  refine St_region ?_
  refine Ls_run (run_assign rfl) rfl ?_
  refine Ls_nil ?_
  refine Jm_seq ?_
  refine St_seq ?_
  refine St_seq ?_
  refine St_region ?_
  refine Ls_run (run_move rfl) rfl ?_
  obtain ⟨A0, c0, hd0⟩ := hs.dhd
  refine Ls_call Try.func29 nm29 rfl rfl (Blocks_c w b d A0 c0 hd0) rfl ?_
  rintro v4 w5 ⟨rfl, rfl⟩
  refine Ls_run (run_as (run_min rfl rfl) (show _ = Value.int .i64 ((min 2 d.bl.length : Nat) : Int) by congr 1; split <;> omega)) rfl ?_
  refine Ls_run (run_move rfl) rfl ?_
  refine Ls_nil ?_
  refine Jm_seq ?_
  refine St_block ?_
  obtain ⟨En6, hEn6⟩ : ∃ F : Nat × Option Addr → Env, ∀ (k : Nat) (bp : Option Addr), F (k, bp) = [(0, .pointer (some ⟨b, 0, none⟩)), (1, .int .i64 (m : Int)), (7, .pointer bp), (21, .int .i64 ((min 2 d.bl.length : Nat) : Int)), (22, .int .i64 (k : Int))] := ⟨(fun (s : Nat × Option Addr) => match s with | (k, bp) => [(0, .pointer (some ⟨b, 0, none⟩)), (1, .int .i64 (m : Int)), (7, .pointer bp), (21, .int .i64 ((min 2 d.bl.length : Nat) : Int)), (22, .int .i64 (k : Int))]), fun _ _ => rfl⟩
  obtain ⟨Iv7, hIv7⟩ : ∃ F : Nat × Option Addr → World → Prop, ∀ (k : Nat) (bp : Option Addr) (wr : World), F (k, bp) wr = (Sat B wr (JO 98 3 bp (some ⟨b, 0, none⟩) (jpick d.bl (m : Int) k) :: DiskA 85 31 5 b (dread_k d k) :: L) ∧ k ≤ min 2 d.bl.length ∧ (0 < k → d.down = false)) := ⟨(fun (s : Nat × Option Addr) => match s with | (k, bp) => fun (wr : World) => Sat B wr (JO 98 3 bp (some ⟨b, 0, none⟩) (jpick d.bl (m : Int) k) :: DiskA 85 31 5 b (dread_k d k) :: L) ∧ k ≤ min 2 d.bl.length ∧ (0 < k → d.down = false)), fun _ _ _ => rfl⟩
  obtain ⟨ms8, hms8⟩ : ∃ F : Nat × Option Addr → Nat, ∀ (k : Nat) (bp : Option Addr), F (k, bp) = (min 2 d.bl.length - k) := ⟨(fun (s : Nat × Option Addr) => match s with | (k, bp) => min 2 d.bl.length - k), fun _ _ => rfl⟩
  refine St_loop En6 Iv7 ms8 (0, none) ?_ ?_ ?_
  · skip
    rw [hIv7]
    exact ⟨hs.toJoNone, by omega, fun h => by omega⟩
  · rw [hEn6]; exact (subE_cons rfl (subE_cons rfl (subE_cons rfl (subE_cons rfl (subE_cons rfl subE_nil)))))
  rintro ⟨k, bp⟩ wr hI9
  rw [hIv7] at hI9
  obtain ⟨hs, hk, hkd⟩ := hI9
  refine St_eqE (hEn6 _ _) ?_
  refine St_seq ?_
  refine St_region ?_
  refine Ls_run (run_lss rfl rfl) rfl ?_
  refine Ls_nil ?_
  refine Jm_seq ?_
  refine St_seq ?_
  refine St_ifP rfl (fun h10 => ?_) (fun h10 => ?_)
  · skip
    refine St_skip ?_
    refine Jm_seq ?_
    refine St_seq ?_
    refine St_block ?_
    refine St_seq ?_
    refine St_region ?_
    refine Ls_run (run_move rfl) rfl ?_
    refine Ls_run (run_assign rfl) rfl ?_
    refine Ls_nil ?_
    refine Jm_seq ?_
    refine St_seq ?_
    refine St_region ?_
    refine Ls_run (run_move rfl) rfl ?_
    refine Ls_run (run_move rfl) rfl ?_
    replace hs := hs.front 1 rfl
    simp only [List.cons_append, List.nil_append, List.eraseIdx_cons_zero, List.eraseIdx_cons_succ] at hs
    have hsm := dread_k_same d k
    have hdc : dread (dread_k d k) (k : Int) = dread (dread_k d k) (k : Int) := rfl
    refine Ls_call Try.func18 nm18 rfl rfl (Read_c B wr _ b (dread_k d k) hs (fun r hr => (hdok r (by rw [← hsm.1]; exact hr)).2) (k : Int)) rfl ?_
    rintro v11 w12 ⟨Ar, cr, rfl, hs⟩
    replace hs : Sat B _ (DiskA 85 31 5 b (dread_k d (k + 1)) :: _) := hs
    obtain ⟨⟨rr, re, d9⟩, hrd⟩ : ∃ q, dread (dread_k d k) (k : Int) = q := ⟨_, rfl⟩
    rw [hrd] at hs ⊢
    simp only at hs ⊢
    refine Ls_run (run_move rfl) rfl ?_
    refine Ls_run (run_extract rfl rfl) rfl ?_
    refine Ls_run (run_extract rfl rfl) rfl ?_
    refine Ls_run (run_assign rfl) rfl ?_
    refine Ls_run (run_assign rfl) rfl ?_
    refine Ls_nil ?_
    refine Jm_seq ?_
    refine St_seq ?_
    refine St_seq ?_
    refine St_region ?_
    refine Ls_run (run_move rfl) rfl ?_
    refine Ls_run (run_neq rfl rfl) rfl ?_
    refine Ls_nil ?_
    refine Jm_seq ?_
    refine St_ifP rfl (fun h13 => ?_) (fun h13 => ?_)
    · skip
      refine St_seq ?_
      refine St_region ?_
      refine Ls_run (run_move rfl) rfl ?_
      refine Ls_run (run_assign rfl) rfl ?_
      refine Ls_run (run_assign rfl) rfl ?_
      refine Ls_nil ?_
      refine Jm_seq ?_
      refine St_ret ?_
      refine Jm_then_ret (Jm_block_ret (Jm_then_ret (Jm_then_ret (Jm_block_ret (Jm_then_ret  ?_)))))
      refine Jm_ret2 rfl rfl rfl ?_
      replace hs := hs.erase 1
      simp only [List.cons_append, List.nil_append, List.eraseIdx_cons_zero, List.eraseIdx_cons_succ] at hs
      replace hs := hs.front 1 rfl
      simp only [List.cons_append, List.nil_append, List.eraseIdx_cons_zero, List.eraseIdx_cons_succ] at hs
      have hre0 : d.down = true ∧ k = 0 := by
        unfold dread at hrd
        have hdd : d.down = true := by
          cases hq : d.down with
          | true => rfl
          | false =>
            have hc0 : dcheck (dread_k d k) (k : Int) = 0 := by unfold dcheck; rw [hsm.2.1, hsm.1]; rw [if_neg (by simp [hq]), if_neg (by omega)]
            rw [if_pos hc0] at hrd
            simp only [Prod.mk.injEq] at hrd; omega
        exact ⟨hdd, by
          rcases Nat.eq_zero_or_pos k with h | h
          · exact h
          · have := hkd h; rw [hdd] at this; cases this⟩
      obtain ⟨hdd, rfl⟩ := hre0
      have hc0 : dcheck d 0 = 80 := by unfold dcheck; rw [if_pos hdd]
      have hrd2 : dread (dread_k d 0) ((0 : Nat) : Int) = ([], 80, d) := by show dread d 0 = _; unfold dread; rw [if_neg (by omega), hc0]
      have e1 : dread_k d (0 + 1) = d := congrArg (fun q => q.2.2) hrd2
      rw [e1] at hs
      rw [hrd2] at hrd
      simp only [Prod.mk.injEq] at hrd
      obtain ⟨_, h8, h9⟩ := hrd
      subst h8
      have e : jopen d m = (80, none, d) := by unfold jopen; rw [if_neg (by omega), if_neg (by omega), if_pos hdd]
      rw [e]
      exact ⟨_, rfl, none, rfl, hs.tail.toJoNone⟩
    · skip
      have hdn : d.down = false := by
        cases hq : d.down with
        | false => rfl
        | true =>
          exfalso
          have hc0 : dcheck (dread_k d k) (k : Int) = 80 := by unfold dcheck; rw [hsm.2.1, if_pos hq]
          unfold dread at hrd
          rw [if_neg (by omega), hc0] at hrd
          simp only [Prod.mk.injEq] at hrd
          omega
      refine St_skip ?_
      refine Jm_seq ?_
      refine St_seq ?_
      refine St_region ?_
      refine Ls_run (run_move rfl) rfl ?_
      refine Ls_run (run_move rfl) rfl ?_
      have hrr : rr = d.bl.getD k [] ∧ re = 0 := by
        unfold dread at hrd
        have hc0 : dcheck (dread_k d k) (k : Int) = 0 := by unfold dcheck; rw [hsm.2.1, hsm.1]; rw [if_neg (by simp [hdn]), if_neg (by omega)]
        rw [if_pos hc0] at hrd
        simp only [Prod.mk.injEq] at hrd
        exact ⟨by rw [← hrd.1, hsm.1]; simp, hrd.2.1.symm⟩
      have hrb : IsBytes rr ∧ rr.length ≤ 1024 := by rw [hrr.1]; exact hdok _ (getD_mem_bl (by omega))
      refine Ls_call Try.func70 nm70 rfl rfl (readEntry_c w12 Ar rr.length cr rr (hs.rd_at 1 rfl) hrb.1 (by omega) (m : Int)) rfl ?_
      rintro v14 w15 ⟨q, g, Ap, cp, Ac, cc, ok, rfl, hsE, hok⟩
      replace hs := hs.trans hsE
      simp only [List.cons_append, List.nil_append] at hs
      rw [hrr.1] at hok
      refine Ls_run (run_move rfl) rfl ?_
      refine Ls_run (run_extract rfl rfl) rfl ?_
      refine Ls_run (run_extract rfl rfl) rfl ?_
      refine Ls_alloc hs inf96 rfl ?_
      intro b17 w16 hs
      refine Ls_storeAgg hs inf96 rfl rfl rfl rfl (by simp [Value.oneCell', Value.cells, jcells]) ?_
      intro w18 hs
      refine Ls_run (run_assign rfl) rfl ?_
      refine Ls_nil ?_
      refine Jm_seq ?_
      refine St_seq ?_
      refine St_draw (fun x => Below w18.heap.size w18 x) mixed ?_
      intro w19 q20
      have hH := q20.below
      replace hs := hs.quiet q20
      refine An_grow hH ?_
      replace hH := Below.refl w19.heap.size w19
      refine An_take 0 rfl (by kernel_rfl) (by kernel_rfl) (by kernel_rfl) (fun _ _ _ h => h) hH (fun x hx => run_move rfl) rfl ?_
      refine An_take 1 rfl (by kernel_rfl) (by kernel_rfl) (by kernel_rfl) (fun _ _ _ h => h) hH (fun x hx => run_move rfl) rfl ?_
      refine An_part (t := 41) rfl (fun h21 => ?_) (fun h21 => ?_)
      · skip
        refine An_take_on 2 rfl (by kernel_rfl) (by kernel_rfl) (by kernel_rfl) rfl rfl (fun _ _ _ h => h) hH (fun x hx => run_move rfl) rfl ?_
        refine An_take_on 3 rfl (by kernel_rfl) (by kernel_rfl) (by kernel_rfl) rfl rfl (fun _ _ _ h => h) hH (fun x hx => run_eql_ptr_nil Try.underlying59 rfl rfl) rfl ?_
        refine An_take_on 4 rfl (by kernel_rfl) (by kernel_rfl) (by kernel_rfl) rfl rfl (fun _ _ _ h => h) hH (fun x hx => run_move rfl) rfl ?_
        refine An_part (t := 44) rfl (fun h22 => ?_) (fun h22 => ?_)
        · skip
          have hjn : jpick d.bl (m : Int) k = none := by
            cases hq : jpick d.bl (m : Int) k with
            | none => rfl
            | some jj => rw [hq] at hs; obtain ⟨bj, hbp, h9⟩ := (hs.front 5 rfl).joSome; subst hbp; simp_all
          refine An_take_off 5 rfl (by kernel_rfl) (by kernel_rfl) (by kernel_rfl) rfl rfl rfl (fun _ _ _ h => h) hH rfl ?_
          refine An_take_off 6 rfl (by kernel_rfl) (by kernel_rfl) (by kernel_rfl) rfl rfl rfl (fun _ _ _ h => h) hH rfl ?_
          refine An_take_off 7 rfl (by kernel_rfl) (by kernel_rfl) (by kernel_rfl) rfl rfl rfl (fun _ _ _ h => h) hH rfl ?_
          refine An_take_off 8 rfl (by kernel_rfl) (by kernel_rfl) (by kernel_rfl) rfl rfl rfl (fun _ _ _ h => h) hH rfl ?_
          refine An_take_off 9 rfl (by kernel_rfl) (by kernel_rfl) (by kernel_rfl) rfl rfl rfl (fun _ _ _ h => h) hH rfl ?_
          refine An_take_off 10 rfl (by kernel_rfl) (by kernel_rfl) (by kernel_rfl) rfl rfl rfl (fun _ _ _ h => h) hH rfl ?_
          refine An_take_off 11 rfl (by kernel_rfl) (by kernel_rfl) (by kernel_rfl) rfl rfl rfl (fun _ _ _ h => h) hH rfl ?_
          refine An_take_off 12 rfl (by kernel_rfl) (by kernel_rfl) (by kernel_rfl) rfl rfl rfl (fun _ _ _ h => h) hH rfl ?_
          refine An_take_on 13 rfl (by kernel_rfl) (by kernel_rfl) (by kernel_rfl) rfl rfl (fun _ _ _ h => h) hH (fun x hx => run_pick_t rfl rfl) rfl ?_
          refine An_take 14 rfl (by kernel_rfl) (by kernel_rfl) (by kernel_rfl) (fun _ _ _ h => h) hH (fun x hx => run_pick_t rfl rfl) rfl ?_
          refine An_done (by kernel_rfl) ?_
          refine Jm_seq ?_
          refine St_ift rfl ?_
          refine St_region ?_
          refine Ls_run (run_move rfl) rfl ?_
          refine Ls_run (run_move rfl) rfl ?_
          refine Ls_run (run_load_agg agg96 inf96 rfl rfl (hs.blk_cells 0 rfl 0 5)) rfl ?_
          refine Ls_run (run_move rfl) rfl ?_
          refine Ls_run (run_buildO (pv := [(0, _), (1, _), (2, _), (3, _)]) rfl (bld98_0_1_2_3 _ _ _ _ _ _ _ _ _ _ _ _)) rfl ?_
          refine Ls_box hs rfl rfl ?_
          intro b25 w24 hs
          refine Ls_run (run_assign rfl) rfl ?_
          refine Ls_nil ?_
          refine Jm_block_normal (Jm_seq ?_)
          refine St_region ?_
          refine Ls_run (run_add rfl rfl (w64 (by omega))) rfl ?_
          refine Ls_run (run_move rfl) rfl ?_
          refine Ls_nil ?_
          replace hs := hs.erase 1
          simp only [List.cons_append, List.nil_append, List.eraseIdx_cons_zero, List.eraseIdx_cons_succ] at hs
          replace hs := hs.erase 4
          simp only [List.cons_append, List.nil_append, List.eraseIdx_cons_zero, List.eraseIdx_cons_succ] at hs
          replace hs := hs.erase 4
          simp only [List.cons_append, List.nil_append, List.eraseIdx_cons_zero, List.eraseIdx_cons_succ] at hs
          replace hs := hs.front 3 rfl
          simp only [List.cons_append, List.nil_append, List.eraseIdx_cons_zero, List.eraseIdx_cons_succ] at hs
          replace hs := hs.front 3 rfl
          simp only [List.cons_append, List.nil_append, List.eraseIdx_cons_zero, List.eraseIdx_cons_succ] at hs
          replace hs := hs.front 3 rfl
          simp only [List.cons_append, List.nil_append, List.eraseIdx_cons_zero, List.eraseIdx_cons_succ] at hs
          replace hs := hs.front 3 rfl
          simp only [List.cons_append, List.nil_append, List.eraseIdx_cons_zero, List.eraseIdx_cons_succ] at hs
          have hent : rentry (d.bl.getD k []) (m : Int) = some (q, g) := by rcases hok with hok | hok <;> simp_all
          refine Jm_round (k + 1, some ⟨b25, 0, none⟩) ?_ ?_ ?_
          · rw [hEn6]; exact (subE_cons rfl (subE_cons rfl (subE_cons rfl (subE_cons rfl (subE_cons rfl subE_nil)))))
          · skip
            rw [hIv7]
            refine ⟨?_, by omega, fun _ => hdn⟩
            rw [jpick_first hent hjn]
            exact Sat.toJoSome (Sat.jshut (j := ⟨(m : Int), q, g, (k : Int), false⟩) hs)
          · skip
            rw [hms8, hms8]
            omega
        · skip
          replace hs := hs.front 5 rfl
          simp only [List.cons_append, List.nil_append, List.eraseIdx_cons_zero, List.eraseIdx_cons_succ] at hs
          obtain ⟨jj, hjj⟩ : ∃ jj, jpick d.bl (m : Int) k = some jj := by
            cases hq : jpick d.bl (m : Int) k with
            | none => rw [hq] at hs; have hz := hs.joNone.1; subst hz; simp_all
            | some jj => exact ⟨jj, rfl⟩
          rw [hjj] at hs
          obtain ⟨bj, hbp, h9⟩ := hs.joSome
          subst hbp
          replace hs := h9
          obtain ⟨Jp, jp, Jc, jc, hs⟩ := hs.jopen
          refine An_take_on 5 rfl (by kernel_rfl) (by kernel_rfl) (by kernel_rfl) rfl rfl (fun _ _ _ h => h) hH (fun x hx => run_as (run_field Try.underlying96 rfl inf3 (by decide) rfl) (show _ = Value.pointer (some ⟨b17, 4, none⟩) from rfl)) rfl ?_
          refine An_take_on 6 rfl (by kernel_rfl) (by kernel_rfl) (by kernel_rfl) rfl rfl (fun _ _ _ h => h) hH (fun x hx => run_load sc3 rfl ((hs.grow hx).blk_at 3 rfl 4 rfl)) rfl ?_
          refine An_take_on 7 rfl (by kernel_rfl) (by kernel_rfl) (by kernel_rfl) rfl rfl (fun _ _ _ h => h) hH (fun x hx => run_move rfl) rfl ?_
          refine An_take_on 8 rfl (by kernel_rfl) (by kernel_rfl) (by kernel_rfl) rfl rfl (fun _ _ _ h => h) hH (fun x hx => run_nilCheck rfl) rfl ?_
          refine An_take_on 9 rfl (by kernel_rfl) (by kernel_rfl) (by kernel_rfl) rfl rfl (fun _ _ _ h => h) hH (fun x hx => run_as (run_field Try.underlying98 rfl inf96 (by decide) rfl) (show _ = Value.pointer (some ⟨bj, 2, none⟩) from rfl)) rfl ?_
          refine An_take_on 10 rfl (by kernel_rfl) (by kernel_rfl) (by kernel_rfl) rfl rfl (fun _ _ _ h => h) hH (fun x hx => run_as (run_field Try.underlying96 rfl inf3 (by decide) rfl) (show _ = Value.pointer (some ⟨bj, 6, none⟩) from rfl)) rfl ?_
          refine An_take_on 11 rfl (by kernel_rfl) (by kernel_rfl) (by kernel_rfl) rfl rfl (fun _ _ _ h => h) hH (fun x hx => run_load sc3 rfl ((hs.grow hx).blk_at 0 rfl 6 rfl)) rfl ?_
          refine An_take_on 12 rfl (by kernel_rfl) (by kernel_rfl) (by kernel_rfl) rfl rfl (fun _ _ _ h => h) hH (fun x hx => run_gtr rfl rfl) rfl ?_
          refine An_take_on 13 rfl (by kernel_rfl) (by kernel_rfl) (by kernel_rfl) rfl rfl (fun _ _ _ h => h) hH (fun x hx => run_pick_f rfl rfl) rfl ?_
          refine An_take 14 rfl (by kernel_rfl) (by kernel_rfl) (by kernel_rfl) (fun _ _ _ h => h) hH (fun x hx => run_pick_t rfl rfl) rfl ?_
          refine An_done (by kernel_rfl) ?_
          refine Jm_seq ?_
          refine St_ifP rfl (fun h26 => ?_) (fun h26 => ?_)
          · skip
            refine St_region ?_
            refine Ls_run (run_move rfl) rfl ?_
            refine Ls_run (run_move rfl) rfl ?_
            refine Ls_run (run_load_agg agg96 inf96 rfl rfl (hs.blk_cells 3 rfl 0 5)) rfl ?_
            refine Ls_run (run_move rfl) rfl ?_
            refine Ls_run (run_buildO (pv := [(0, _), (1, _), (2, _), (3, _)]) rfl (bld98_0_1_2_3 _ _ _ _ _ _ _ _ _ _ _ _)) rfl ?_
            refine Ls_box hs rfl rfl ?_
            intro b28 w27 hs
            refine Ls_run (run_assign rfl) rfl ?_
            refine Ls_nil ?_
            refine Jm_block_normal (Jm_seq ?_)
            refine St_region ?_
            refine Ls_run (run_add rfl rfl (w64 (by omega))) rfl ?_
            refine Ls_run (run_move rfl) rfl ?_
            refine Ls_nil ?_
            replace hs := hs.erase 1
            simp only [List.cons_append, List.nil_append, List.eraseIdx_cons_zero, List.eraseIdx_cons_succ] at hs
            replace hs := hs.erase 1
            simp only [List.cons_append, List.nil_append, List.eraseIdx_cons_zero, List.eraseIdx_cons_succ] at hs
            replace hs := hs.erase 1
            simp only [List.cons_append, List.nil_append, List.eraseIdx_cons_zero, List.eraseIdx_cons_succ] at hs
            replace hs := hs.erase 1
            simp only [List.cons_append, List.nil_append, List.eraseIdx_cons_zero, List.eraseIdx_cons_succ] at hs
            replace hs := hs.erase 4
            simp only [List.cons_append, List.nil_append, List.eraseIdx_cons_zero, List.eraseIdx_cons_succ] at hs
            replace hs := hs.front 3 rfl
            simp only [List.cons_append, List.nil_append, List.eraseIdx_cons_zero, List.eraseIdx_cons_succ] at hs
            replace hs := hs.front 3 rfl
            simp only [List.cons_append, List.nil_append, List.eraseIdx_cons_zero, List.eraseIdx_cons_succ] at hs
            replace hs := hs.front 3 rfl
            simp only [List.cons_append, List.nil_append, List.eraseIdx_cons_zero, List.eraseIdx_cons_succ] at hs
            replace hs := hs.front 3 rfl
            simp only [List.cons_append, List.nil_append, List.eraseIdx_cons_zero, List.eraseIdx_cons_succ] at hs
            have hent : rentry (d.bl.getD k []) (m : Int) = some (q, g) := by rcases hok with hok | hok <;> simp_all
            refine Jm_round (k + 1, some ⟨b28, 0, none⟩) ?_ ?_ ?_
            · rw [hEn6]; exact (subE_cons rfl (subE_cons rfl (subE_cons rfl (subE_cons rfl (subE_cons rfl subE_nil)))))
            · skip
              rw [hIv7]
              refine ⟨?_, by omega, fun _ => hdn⟩
              rw [jpick_more hent hjj (by omega)]
              exact Sat.toJoSome (Sat.jshut (j := ⟨(m : Int), q, g, (k : Int), false⟩) hs)
            · skip
              rw [hms8, hms8]
              omega
          · skip
            refine St_skip ?_
            refine Jm_block_normal (Jm_seq ?_)
            refine St_region ?_
            refine Ls_run (run_add rfl rfl (w64 (by omega))) rfl ?_
            refine Ls_run (run_move rfl) rfl ?_
            refine Ls_nil ?_
            replace hs := hs.erase 3
            simp only [List.cons_append, List.nil_append, List.eraseIdx_cons_zero, List.eraseIdx_cons_succ] at hs
            replace hs := hs.erase 3
            simp only [List.cons_append, List.nil_append, List.eraseIdx_cons_zero, List.eraseIdx_cons_succ] at hs
            replace hs := hs.erase 3
            simp only [List.cons_append, List.nil_append, List.eraseIdx_cons_zero, List.eraseIdx_cons_succ] at hs
            replace hs := hs.erase 4
            simp only [List.cons_append, List.nil_append, List.eraseIdx_cons_zero, List.eraseIdx_cons_succ] at hs
            replace hs := hs.front 3 rfl
            simp only [List.cons_append, List.nil_append, List.eraseIdx_cons_zero, List.eraseIdx_cons_succ] at hs
            replace hs := hs.front 3 rfl
            simp only [List.cons_append, List.nil_append, List.eraseIdx_cons_zero, List.eraseIdx_cons_succ] at hs
            replace hs := hs.front 3 rfl
            simp only [List.cons_append, List.nil_append, List.eraseIdx_cons_zero, List.eraseIdx_cons_succ] at hs
            replace hs := hs.front 3 rfl
            simp only [List.cons_append, List.nil_append, List.eraseIdx_cons_zero, List.eraseIdx_cons_succ] at hs
            have hent : rentry (d.bl.getD k []) (m : Int) = some (q, g) := by rcases hok with hok | hok <;> simp_all
            refine Jm_round (k + 1, some ⟨bj, 0, none⟩) ?_ ?_ ?_
            · rw [hEn6]; exact (subE_cons rfl (subE_cons rfl (subE_cons rfl (subE_cons rfl (subE_cons rfl subE_nil)))))
            · skip
              rw [hIv7]
              refine ⟨?_, by omega, fun _ => hdn⟩
              rw [jpick_less hent hjj (by omega)]
              exact Sat.toJoSome (Sat.jshut (j := jj) hs)
            · skip
              rw [hms8, hms8]
              omega
      · skip
        refine An_take_off 2 rfl (by kernel_rfl) (by kernel_rfl) (by kernel_rfl) rfl rfl rfl (fun _ _ _ h => h) hH rfl ?_
        refine An_take_off 3 rfl (by kernel_rfl) (by kernel_rfl) (by kernel_rfl) rfl rfl rfl (fun _ _ _ h => h) hH rfl ?_
        refine An_take_off 4 rfl (by kernel_rfl) (by kernel_rfl) (by kernel_rfl) rfl rfl rfl (fun _ _ _ h => h) hH rfl ?_
        refine An_take_off' 5 rfl (by kernel_rfl) (by kernel_rfl) (by kernel_rfl) rfl rfl (fun _ _ _ h => h) hH rfl ?_
        refine An_take_off' 6 rfl (by kernel_rfl) (by kernel_rfl) (by kernel_rfl) rfl rfl (fun _ _ _ h => h) hH rfl ?_
        refine An_take_off' 7 rfl (by kernel_rfl) (by kernel_rfl) (by kernel_rfl) rfl rfl (fun _ _ _ h => h) hH rfl ?_
        refine An_take_off' 8 rfl (by kernel_rfl) (by kernel_rfl) (by kernel_rfl) rfl rfl (fun _ _ _ h => h) hH rfl ?_
        refine An_take_off' 9 rfl (by kernel_rfl) (by kernel_rfl) (by kernel_rfl) rfl rfl (fun _ _ _ h => h) hH rfl ?_
        refine An_take_off' 10 rfl (by kernel_rfl) (by kernel_rfl) (by kernel_rfl) rfl rfl (fun _ _ _ h => h) hH rfl ?_
        refine An_take_off' 11 rfl (by kernel_rfl) (by kernel_rfl) (by kernel_rfl) rfl rfl (fun _ _ _ h => h) hH rfl ?_
        refine An_take_off' 12 rfl (by kernel_rfl) (by kernel_rfl) (by kernel_rfl) rfl rfl (fun _ _ _ h => h) hH rfl ?_
        refine An_take_off 13 rfl (by kernel_rfl) (by kernel_rfl) (by kernel_rfl) rfl rfl rfl (fun _ _ _ h => h) hH rfl ?_
        refine An_take 14 rfl (by kernel_rfl) (by kernel_rfl) (by kernel_rfl) (fun _ _ _ h => h) hH (fun x hx => run_pick_f rfl rfl) rfl ?_
        refine An_done (by kernel_rfl) ?_
        refine Jm_seq ?_
        refine St_iff rfl ?_
        refine St_skip ?_
        refine Jm_block_normal (Jm_seq ?_)
        refine St_region ?_
        refine Ls_run (run_add rfl rfl (w64 (by omega))) rfl ?_
        refine Ls_run (run_move rfl) rfl ?_
        refine Ls_nil ?_
        replace hs := hs.erase 0
        simp only [List.cons_append, List.nil_append, List.eraseIdx_cons_zero, List.eraseIdx_cons_succ] at hs
        replace hs := hs.erase 0
        simp only [List.cons_append, List.nil_append, List.eraseIdx_cons_zero, List.eraseIdx_cons_succ] at hs
        replace hs := hs.erase 0
        simp only [List.cons_append, List.nil_append, List.eraseIdx_cons_zero, List.eraseIdx_cons_succ] at hs
        replace hs := hs.erase 1
        simp only [List.cons_append, List.nil_append, List.eraseIdx_cons_zero, List.eraseIdx_cons_succ] at hs
        replace hs := hs.front 1 rfl
        simp only [List.cons_append, List.nil_append, List.eraseIdx_cons_zero, List.eraseIdx_cons_succ] at hs
        have hent : rentry (d.bl.getD k []) (m : Int) = none := by rcases hok with hok | hok <;> simp_all
        refine Jm_round (k + 1, bp) ?_ ?_ ?_
        · rw [hEn6]; exact (subE_cons rfl (subE_cons rfl (subE_cons rfl (subE_cons rfl (subE_cons rfl subE_nil)))))
        · skip
          rw [hIv7]
          refine ⟨?_, by omega, fun _ => hdn⟩
          rw [jpick_no hent]
          exact hs
        · skip
          rw [hms8, hms8]
          omega
  · skip
    refine St_exit ?_
    refine Jm_then_exit (Jm_then_exit (Jm_block_same (Jm_seq ?_)))
    refine St_seq ?_
    refine St_seq ?_
    refine St_region ?_
    refine Ls_run (run_move rfl) rfl ?_
    refine Ls_run (run_eql_ptr_nil Try.underlying59 rfl rfl) rfl ?_
    refine Ls_nil ?_
    refine Jm_seq ?_
    refine St_if rfl (fun h30 => ?_) (fun h30 => ?_)
    · skip
      refine St_seq ?_
      refine St_region ?_
      refine Ls_run (run_assign rfl) rfl ?_
      refine Ls_run (run_assign rfl) rfl ?_
      refine Ls_nil ?_
      refine Jm_seq ?_
      refine St_ret ?_
      refine Jm_then_ret  ?_
      refine Jm_ret2 rfl rfl rfl ?_
      replace hs := hs.front 1 rfl
      simp only [List.cons_append, List.nil_append, List.eraseIdx_cons_zero, List.eraseIdx_cons_succ] at hs
      replace hs := hs.front 1 rfl
      simp only [List.cons_append, List.nil_append, List.eraseIdx_cons_zero, List.eraseIdx_cons_succ] at hs
      have hkm : k = min 2 d.bl.length := by omega
      have hdn := hkd (by omega)
      subst hkm
      cases hq : jpick d.bl (m : Int) (min 2 d.bl.length) with
      | none =>
        rw [hq] at hs; obtain ⟨hz, h9⟩ := hs.joNone
        first | (subst hz; have e : jopen d m = (180, none, dread_k d (min 2 d.bl.length)) := (by unfold jopen; rw [if_neg (by omega), if_neg (by omega), if_neg (by simp [hdn]), hq]); rw [e]; exact ⟨_, rfl, none, rfl, h9.toJoNone⟩) | (exfalso; subst hz; simp_all)
      | some jj =>
        rw [hq] at hs
        have hsb : bp.isNone = false := by obtain ⟨bj, hbp, _⟩ := hs.joSome; subst hbp; rfl
        first | (have e : jopen d m = (0, some jj, dread_k d (min 2 d.bl.length)) := (by unfold jopen; rw [if_neg (by omega), if_neg (by omega), if_neg (by simp [hdn]), hq]); rw [e]; exact ⟨_, rfl, bp, rfl, hs⟩) | (exfalso; simp_all)
    · skip
      refine St_skip ?_
      refine Jm_seq ?_
      refine St_seq ?_
      refine St_region ?_
      refine Ls_run (run_move rfl) rfl ?_
      refine Ls_run (run_assign rfl) rfl ?_
      refine Ls_run (run_assign rfl) rfl ?_
      refine Ls_nil ?_
      refine Jm_seq ?_
      refine St_ret ?_
      refine Jm_ret2 rfl rfl rfl ?_
      replace hs := hs.front 1 rfl
      simp only [List.cons_append, List.nil_append, List.eraseIdx_cons_zero, List.eraseIdx_cons_succ] at hs
      replace hs := hs.front 1 rfl
      simp only [List.cons_append, List.nil_append, List.eraseIdx_cons_zero, List.eraseIdx_cons_succ] at hs
      have hkm : k = min 2 d.bl.length := by omega
      have hdn := hkd (by omega)
      subst hkm
      cases hq : jpick d.bl (m : Int) (min 2 d.bl.length) with
      | none =>
        rw [hq] at hs; obtain ⟨hz, h9⟩ := hs.joNone
        first | (subst hz; have e : jopen d m = (180, none, dread_k d (min 2 d.bl.length)) := (by unfold jopen; rw [if_neg (by omega), if_neg (by omega), if_neg (by simp [hdn]), hq]); rw [e]; exact ⟨_, rfl, none, rfl, h9.toJoNone⟩) | (exfalso; subst hz; simp_all)
      | some jj =>
        rw [hq] at hs
        have hsb : bp.isNone = false := by obtain ⟨bj, hbp, _⟩ := hs.joSome; subst hbp; rfl
        first | (have e : jopen d m = (0, some jj, dread_k d (min 2 d.bl.length)) := (by unfold jopen; rw [if_neg (by omega), if_neg (by omega), if_neg (by simp [hdn]), hq]); rw [e]; exact ⟨_, rfl, bp, rfl, hs⟩) | (exfalso; simp_all)
end Go.Proofs.Ytpmkedgennnekaa.Lg
