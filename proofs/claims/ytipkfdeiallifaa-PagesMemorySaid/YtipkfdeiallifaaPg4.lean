/-
  Pages: whether a call can be done, Get, a block's write, the deferred call; the reference's likewise. By program (gen/pg4.py).
-/
import Derived.Test.YtipkfdeiallifaaPg3r
import Derived.Test.YtipkfdeiallifaaDf
set_option linter.unusedVariables false
set_option linter.unusedSimpArgs false
namespace Go.Proofs.Ytipkfdeiallifaa.Lg
open Go Go.RowKit Go.Proofs.Ytipkfdeiallifaa.WirePure
section
variable {S : Type} {o : DOps S} {s : BSt} {d : S} {page : Int}
theorem bget_80 (h : (bend o s d).ended = true) : bget o s d page = ([], 80, bend o s d, d) := by unfold bget; rw [if_pos h]
theorem bget_91 (h : ¬ (bend o s d).ended = true) (h2 : page < 0 ∨ (s.tb.length : Int) ≤ page) : bget o s d page = ([], 91, bend o s d, d) := by unfold bget; rw [if_neg h, if_pos h2]
theorem bget_0 {k : Nat} (h : ¬ (bend o s d).ended = true) (h2 : k < s.tb.length) (h3 : s.tb.getD k 0 = 0) : bget o s d k = ([], 0, bend o s d, d) := by unfold bget; rw [if_neg h, if_neg (by omega)]; simp only [Int.toNat_natCast]; rw [if_pos h3]
theorem bget_r {k : Nat} {l : List Int} {e : Int} {d2 : S} (h : ¬ (bend o s d).ended = true) (h2 : k < s.tb.length) (h3 : s.tb.getD k 0 ≠ 0) (hr : o.rd d (s.tb.getD k 0) = (l, e, d2)) : bget o s d k = (l, e, bend o s d, d2) := by unfold bget; rw [if_neg h, if_neg (by omega)]; simp only [Int.toNat_natCast]; rw [if_neg h3, hr]
end
def pchain (e : Int) : List PanicEntry := [{ v := .iface 29 (.int .i64 e), recovered := false }]
set_option maxRecDepth 100000 in
set_option maxHeartbeats 1000000 in
theorem bcheck_c (B w : World) (L : List Assn) (bj b : Nat) (s : BSt) (d : DSt) (Ab : Option Addr) (cb : Nat) (hs : Sat B w (Blk bj (bcells (some ⟨b, 0, none⟩) s Ab cb) 122 :: DiskA 129 28 5 b d :: L)) :
    Calls Try.prog 84 [.pointer (some ⟨bj, 0, none⟩)].toArray w (Ret (fun v' w' => v' = .int .i64 (if (bend dO s d).ended = true then 80 else 0) ∧ Sat B w' (Blk bj (bcells (some ⟨b, 0, none⟩) (bend dO s d) Ab cb) 122 :: DiskA 129 28 5 b d :: L))) := by
  refine Calls_body Try.func84 rfl rfl rfl (envE_cons (i := 0) (v := .pointer (some ⟨bj, 0, none⟩)) rfl envE_nil) ?_
  refine St_seq ?_
  refine St_region ?_
  refine Ls_run (run_assign rfl) rfl ?_
  refine Ls_nil ?_
  refine Jm_seq ?_
  refine St_seq ?_
  refine St_seq ?_
  refine St_region ?_
  refine Ls_run (run_move rfl) rfl ?_
  refine Ls_run (run_asB (c := false) (run_eql_ptr_nil Try.underlying47 rfl rfl) rfl) rfl ?_
  refine Ls_nil ?_
  refine Jm_seq ?_
  refine St_iff rfl ?_
  refine St_skip ?_
  refine Jm_seq ?_
  refine St_seq ?_
  refine St_region ?_
  refine Ls_run (run_move rfl) rfl ?_
  refine Ls_run (run_move rfl) rfl ?_
  refine Ls_run (run_nilCheck rfl) rfl ?_
  refine Ls_run (run_as (run_field Try.underlying122 rfl inf4 (by decide) rfl) (show _ = Value.pointer (some ⟨bj, 4, none⟩) from rfl)) rfl ?_
  refine Ls_run (run_load sc4 rfl (hs.blk_at 0 rfl 4 rfl)) rfl ?_
  refine Ls_run (run_move rfl) rfl ?_
  refine Ls_part (t := 10) rfl (fun h2 => ?_) (fun h2 => ?_)
  · skip
    refine Ls_off rfl rfl rfl rfl ?_
    refine Ls_off rfl rfl rfl rfl ?_
    refine Ls_off rfl rfl rfl rfl ?_
    refine Ls_off rfl rfl rfl rfl ?_
    refine Ls_off rfl rfl rfl rfl ?_
    refine Ls_run (run_pick_t rfl rfl) rfl ?_
    refine Ls_run (run_nilCheck rfl) rfl ?_
    refine Ls_run (run_as (run_field Try.underlying122 rfl inf4 (by decide) rfl) (show _ = Value.pointer (some ⟨bj, 4, none⟩) from rfl)) rfl ?_
    refine Ls_store hs inf4 rfl rfl rfl rfl ?_
    intro w3 hs
    try simp only [List.set_cons_zero, List.set_cons_succ] at hs
    refine Ls_nil ?_
    refine Jm_seq ?_
    refine St_seq ?_
    refine St_seq ?_
    refine St_region ?_
    refine Ls_run (run_move rfl) rfl ?_
    refine Ls_run (run_nilCheck rfl) rfl ?_
    refine Ls_run (run_as (run_field Try.underlying122 rfl inf4 (by decide) rfl) (show _ = Value.pointer (some ⟨bj, 4, none⟩) from rfl)) rfl ?_
    refine Ls_run (run_load sc4 rfl (hs.blk_at 0 rfl 4 rfl)) rfl ?_
    refine Ls_nil ?_
    refine Jm_seq ?_
    refine St_ift rfl ?_
    refine St_seq ?_
    refine St_region ?_
    refine Ls_run (run_assign rfl) rfl ?_
    refine Ls_nil ?_
    refine Jm_seq ?_
    refine St_ret ?_
    refine Jm_then_ret  ?_
    refine Jm_ret1 rfl rfl ?_
    replace hs := hs.front 1 rfl
    simp only [List.cons_append, List.nil_append, List.eraseIdx_cons_zero, List.eraseIdx_cons_succ] at hs
    replace hs := hs.front 1 rfl
    simp only [List.cons_append, List.nil_append, List.eraseIdx_cons_zero, List.eraseIdx_cons_succ] at hs
    have e6 : ∀ cs : List Value, cs = bcells (some ⟨b, 0, none⟩) (bend dO s d) Ab cb → Sat B w3 (Blk bj cs 122 :: DiskA 129 28 5 b d :: L) → Sat B w3 (Blk bj (bcells (some ⟨b, 0, none⟩) (bend dO s d) Ab cb) 122 :: DiskA 129 28 5 b d :: L) := fun cs e q => by rw [← e]; exact q
    refine ⟨_, rfl, ?_, e6 _ (by simp [bcells, bend, dO, *]) hs⟩
    simp [bend, dO, *]
  · skip
    refine Ls_on rfl rfl ?_
    refine Ls_run (run_move rfl) rfl ?_
    refine Ls_on rfl rfl ?_
    refine Ls_run (run_nilCheck rfl) rfl ?_
    refine Ls_on rfl rfl ?_
    refine Ls_run (run_as (run_field Try.underlying122 rfl inf46 (by decide) rfl) (show _ = Value.pointer (some ⟨bj, 0, none⟩) from rfl)) rfl ?_
    refine Ls_on rfl rfl ?_
    refine Ls_run (run_load sc46 rfl (hs.blk_at 0 rfl 0 rfl)) rfl ?_
    refine Ls_on rfl rfl ?_
    replace hs := hs.front 1 rfl
    simp only [List.cons_append, List.nil_append, List.eraseIdx_cons_zero, List.eraseIdx_cons_succ] at hs
    obtain ⟨A0, c0, hd0⟩ := hs.dhd
    refine Ls_call Try.func34 nm34 rfl rfl (Down_c w b d A0 c0 hd0) rfl ?_
    rintro v5 w6 ⟨rfl, rfl⟩
    refine Ls_run (run_pick_f rfl rfl) rfl ?_
    refine Ls_run (run_nilCheck rfl) rfl ?_
    refine Ls_run (run_as (run_field Try.underlying122 rfl inf4 (by decide) rfl) (show _ = Value.pointer (some ⟨bj, 4, none⟩) from rfl)) rfl ?_
    replace hs := hs.front 1 rfl
    simp only [List.cons_append, List.nil_append, List.eraseIdx_cons_zero, List.eraseIdx_cons_succ] at hs
    refine Ls_store hs inf4 rfl rfl rfl rfl ?_
    intro w7 hs
    try simp only [List.set_cons_zero, List.set_cons_succ] at hs
    refine Ls_nil ?_
    refine Jm_seq ?_
    refine St_seq ?_
    refine St_seq ?_
    refine St_region ?_
    refine Ls_run (run_move rfl) rfl ?_
    refine Ls_run (run_nilCheck rfl) rfl ?_
    refine Ls_run (run_as (run_field Try.underlying122 rfl inf4 (by decide) rfl) (show _ = Value.pointer (some ⟨bj, 4, none⟩) from rfl)) rfl ?_
    refine Ls_run (run_load sc4 rfl (hs.blk_at 0 rfl 4 rfl)) rfl ?_
    refine Ls_nil ?_
    refine Jm_seq ?_
    refine St_if rfl (fun h8 => ?_) (fun h8 => ?_)
    · skip
      refine St_seq ?_
      refine St_region ?_
      refine Ls_run (run_assign rfl) rfl ?_
      refine Ls_nil ?_
      refine Jm_seq ?_
      refine St_ret ?_
      refine Jm_then_ret  ?_
      refine Jm_ret1 rfl rfl ?_
      replace hs := hs.front 1 rfl
      simp only [List.cons_append, List.nil_append, List.eraseIdx_cons_zero, List.eraseIdx_cons_succ] at hs
      replace hs := hs.front 1 rfl
      simp only [List.cons_append, List.nil_append, List.eraseIdx_cons_zero, List.eraseIdx_cons_succ] at hs
      have e6 : ∀ cs : List Value, cs = bcells (some ⟨b, 0, none⟩) (bend dO s d) Ab cb → Sat B w7 (Blk bj cs 122 :: DiskA 129 28 5 b d :: L) → Sat B w7 (Blk bj (bcells (some ⟨b, 0, none⟩) (bend dO s d) Ab cb) 122 :: DiskA 129 28 5 b d :: L) := fun cs e q => by rw [← e]; exact q
      refine ⟨_, rfl, ?_, e6 _ (by simp [bcells, bend, dO, *]) hs⟩
      simp [bend, dO, *]
    · skip
      refine St_skip ?_
      refine Jm_seq ?_
      refine St_seq ?_
      refine St_region ?_
      refine Ls_run (run_assign rfl) rfl ?_
      refine Ls_nil ?_
      refine Jm_seq ?_
      refine St_ret ?_
      refine Jm_ret1 rfl rfl ?_
      replace hs := hs.front 1 rfl
      simp only [List.cons_append, List.nil_append, List.eraseIdx_cons_zero, List.eraseIdx_cons_succ] at hs
      replace hs := hs.front 1 rfl
      simp only [List.cons_append, List.nil_append, List.eraseIdx_cons_zero, List.eraseIdx_cons_succ] at hs
      have e6 : ∀ cs : List Value, cs = bcells (some ⟨b, 0, none⟩) (bend dO s d) Ab cb → Sat B w7 (Blk bj cs 122 :: DiskA 129 28 5 b d :: L) → Sat B w7 (Blk bj (bcells (some ⟨b, 0, none⟩) (bend dO s d) Ab cb) 122 :: DiskA 129 28 5 b d :: L) := fun cs e q => by rw [← e]; exact q
      refine ⟨_, rfl, ?_, e6 _ (by simp [bcells, bend, dO, *]) hs⟩
      simp [bend, dO, *]
set_option maxRecDepth 100000 in
set_option maxHeartbeats 1000000 in
theorem bcheck_nil (w : World) :
    Calls Try.prog 84 [.pointer none].toArray w (Ret (fun v' w' => w = w' ∧ v' = .int .i64 2)) := by
  refine Calls_body Try.func84 rfl rfl rfl (envE_cons (i := 0) (v := .pointer none) rfl envE_nil) ?_
  refine St_seq ?_
  refine St_region ?_
  refine Ls_run (run_assign rfl) rfl ?_
  refine Ls_nil ?_
  refine Jm_seq ?_
  refine St_seq ?_
  refine St_seq ?_
  refine St_region ?_
  refine Ls_run (run_move rfl) rfl ?_
  refine Ls_run (run_asB (c := true) (run_eql_ptr_nil Try.underlying47 rfl rfl) rfl) rfl ?_
  refine Ls_nil ?_
  refine Jm_seq ?_
  refine St_ift rfl ?_
  refine St_seq ?_
  refine St_region ?_
  refine Ls_run (run_assign rfl) rfl ?_
  refine Ls_nil ?_
  refine Jm_seq ?_
  refine St_ret ?_
  refine Jm_then_ret  ?_
  refine Jm_ret1 rfl rfl ?_
  exact ⟨_, rfl, rfl, rfl⟩
theorem Sat.rot12 {B w : World} {X Y Z : Assn} {L : List Assn} (hs : Sat B w (X :: Y :: Z :: L)) : Sat B w (Y :: Z :: X :: L) := (hs.front 1 rfl).front 2 rfl |>.front 1 rfl
set_option maxRecDepth 100000 in
set_option maxHeartbeats 1000000 in
theorem BGet_g (B w : World) (L : List Assn) (bj b : Nat) (s : BSt) (d : DSt) (hs : Sat B w (BA 122 3 bj (some ⟨b, 0, none⟩) s :: DiskA 129 28 5 b d :: L)) (hdok : DOk d) (hln : s.tb.length ≤ 1073741824) (page : Int) :
    Calls Try.prog 31 [.pointer (some ⟨bj, 0, none⟩), .int .i64 page].toArray w (Ret (fun v' w' => ∃ A c, v' = .tuple #[.slice A (bget dO s d page).1.length c, .int .i64 (bget dO s d page).2.1] ∧ Sat B w' (BA 122 3 bj (some ⟨b, 0, none⟩) (bget dO s d page).2.2.1 :: DiskA 129 28 5 b (bget dO s d page).2.2.2 :: Own 5 1 (.slice A (bget dO s d page).1.length c) (bget dO s d page).1.length (bytesV (bget dO s d page).1) :: L))) := by
  obtain ⟨Ab, cb, hs⟩ := hs.bopen
  have ebn : (bend dO s d).tb.length = s.tb.length := rfl
  refine Calls_body Try.func31 rfl rfl rfl (envE_cons (i := 0) (v := .pointer (some ⟨bj, 0, none⟩)) rfl (envE_cons (i := 1) (v := .int .i64 page) rfl envE_nil)) ?_
  refine St_seq ?_
  refine St_region ?_
  refine Ls_run (run_assign rfl) rfl ?_
  refine Ls_run (run_assign rfl) rfl ?_
  refine Ls_nil ?_
  refine Jm_seq ?_
  refine St_seq ?_
  refine St_seq ?_
  refine St_region ?_
  refine Ls_run (run_move rfl) rfl ?_
  replace hs := hs.front 2 rfl
  simp only [List.cons_append, List.nil_append, List.eraseIdx_cons_zero, List.eraseIdx_cons_succ] at hs
  replace hs := hs.front 1 rfl
  simp only [List.cons_append, List.nil_append, List.eraseIdx_cons_zero, List.eraseIdx_cons_succ] at hs
  refine Ls_call Try.func84 nm84 rfl rfl (bcheck_c B w _ bj b s d Ab cb hs) rfl ?_
  rintro v1 w2 ⟨rfl, hs⟩
  have hce : ∀ x : Int, x = (if (bend dO s d).ended = true then (80 : Int) else 0) → (x ≠ 0 ↔ (bend dO s d).ended = true) := fun x hx => by rw [hx]; split <;> simp_all
  refine Ls_run (run_assign rfl) rfl ?_
  refine Ls_nil ?_
  refine Jm_seq ?_
  refine St_seq ?_
  refine St_region ?_
  refine Ls_run (run_move rfl) rfl ?_
  refine Ls_run (run_neq rfl rfl) rfl ?_
  refine Ls_nil ?_
  refine Jm_seq ?_
  refine St_ifP rfl (fun h3 => ?_) (fun h3 => ?_)
  · skip
    have hen : (bend dO s d).ended = true := (hce _ rfl).1 h3
    refine St_seq ?_
    refine St_region ?_
    refine Ls_run (run_move rfl) rfl ?_
    refine Ls_run (run_assign rfl) rfl ?_
    refine Ls_run (run_assign rfl) rfl ?_
    refine Ls_nil ?_
    refine Jm_seq ?_
    refine St_ret ?_
    refine Jm_then_ret  ?_
    refine Jm_ret2 rfl rfl rfl ?_
    replace hs := hs.front 1 rfl
    simp only [List.cons_append, List.nil_append, List.eraseIdx_cons_zero, List.eraseIdx_cons_succ] at hs
    replace hs := hs.front 2 rfl
    simp only [List.cons_append, List.nil_append, List.eraseIdx_cons_zero, List.eraseIdx_cons_succ] at hs
    replace hs := hs.front 2 rfl
    simp only [List.cons_append, List.nil_append, List.eraseIdx_cons_zero, List.eraseIdx_cons_succ] at hs
    rw [if_pos hen]
    rw [bget_80 hen]
    have hs5 := Sat.bshut (s := bend dO s d) hs
    exact ⟨_, rfl, none, 0, rfl, (hs5.own_nil 5 1).rot12⟩
  · skip
    have hen : ¬ (bend dO s d).ended = true := fun q => h3 ((hce _ rfl).2 q)
    refine St_skip ?_
    refine Jm_seq ?_
    refine St_seq ?_
    refine St_block ?_
    refine St_seq ?_
    refine St_region ?_
    refine Ls_run (run_move rfl) rfl ?_
    refine Ls_run (run_lss rfl rfl) rfl ?_
    refine Ls_run (run_move rfl) rfl ?_
    refine Ls_partP (t := 15) rfl (fun h4 => ?_) (fun h4 => ?_)
    · skip
      refine Ls_off rfl rfl rfl rfl ?_
      refine Ls_off rfl rfl rfl rfl ?_
      refine Ls_off rfl rfl rfl rfl ?_
      refine Ls_off rfl rfl rfl rfl ?_
      refine Ls_off rfl rfl rfl rfl ?_
      refine Ls_off rfl rfl rfl rfl ?_
      refine Ls_off rfl rfl rfl rfl ?_
      refine Ls_off rfl rfl rfl rfl ?_
      refine Ls_run (run_pick_t rfl rfl) rfl ?_
      refine Ls_run (run_assign rfl) rfl ?_
      refine Ls_nil ?_
      refine Jm_seq ?_
      refine St_ift rfl ?_
      refine St_seq ?_
      refine St_region ?_
      refine Ls_run (run_assign rfl) rfl ?_
      refine Ls_run (run_assign rfl) rfl ?_
      refine Ls_nil ?_
      refine Jm_seq ?_
      refine St_ret ?_
      refine Jm_block_ret (Jm_then_ret  ?_)
      refine Jm_ret2 rfl rfl rfl ?_
      replace hs := hs.front 1 rfl
      simp only [List.cons_append, List.nil_append, List.eraseIdx_cons_zero, List.eraseIdx_cons_succ] at hs
      replace hs := hs.front 2 rfl
      simp only [List.cons_append, List.nil_append, List.eraseIdx_cons_zero, List.eraseIdx_cons_succ] at hs
      replace hs := hs.front 2 rfl
      simp only [List.cons_append, List.nil_append, List.eraseIdx_cons_zero, List.eraseIdx_cons_succ] at hs
      rw [bget_91 hen (by omega)]
      have hs5 := Sat.bshut (s := bend dO s d) hs
      exact ⟨_, rfl, none, 0, rfl, (hs5.own_nil 5 1).rot12⟩
    · skip
      refine Ls_on rfl rfl ?_
      refine Ls_run (run_move rfl) rfl ?_
      refine Ls_on rfl rfl ?_
      refine Ls_run (run_move rfl) rfl ?_
      refine Ls_on rfl rfl ?_
      refine Ls_run (run_nilCheck rfl) rfl ?_
      refine Ls_on rfl rfl ?_
      refine Ls_run (run_as (run_field Try.underlying122 rfl inf120 (by decide) rfl) (show _ = Value.pointer (some ⟨bj, 1, none⟩) from rfl)) rfl ?_
      refine Ls_on rfl rfl ?_
      refine Ls_run (run_as (run_field Try.underlying120 rfl inf22 (by decide) rfl) (show _ = Value.pointer (some ⟨bj, 2, none⟩) from rfl)) rfl ?_
      refine Ls_on rfl rfl ?_
      refine Ls_run (run_load sc22 rfl (hs.blk_at 0 rfl 2 rfl)) rfl ?_
      refine Ls_on rfl rfl ?_
      refine Ls_run (run_len Try.underlying22 rfl) rfl ?_
      refine Ls_on rfl rfl ?_
      refine Ls_run (run_geq rfl rfl) rfl ?_
      refine Ls_run (run_pick_f rfl rfl) rfl ?_
      refine Ls_run (run_assign rfl) rfl ?_
      refine Ls_nil ?_
      refine Jm_seq ?_
      refine St_ifP rfl (fun h6 => ?_) (fun h6 => ?_)
      · skip
        refine St_seq ?_
        refine St_region ?_
        refine Ls_run (run_assign rfl) rfl ?_
        refine Ls_run (run_assign rfl) rfl ?_
        refine Ls_nil ?_
        refine Jm_seq ?_
        refine St_ret ?_
        refine Jm_block_ret (Jm_then_ret  ?_)
        refine Jm_ret2 rfl rfl rfl ?_
        replace hs := hs.front 1 rfl
        simp only [List.cons_append, List.nil_append, List.eraseIdx_cons_zero, List.eraseIdx_cons_succ] at hs
        replace hs := hs.front 2 rfl
        simp only [List.cons_append, List.nil_append, List.eraseIdx_cons_zero, List.eraseIdx_cons_succ] at hs
        replace hs := hs.front 2 rfl
        simp only [List.cons_append, List.nil_append, List.eraseIdx_cons_zero, List.eraseIdx_cons_succ] at hs
        rw [bget_91 hen (by omega)]
        have hs5 := Sat.bshut (s := bend dO s d) hs
        exact ⟨_, rfl, none, 0, rfl, (hs5.own_nil 5 1).rot12⟩
      · skip
        obtain ⟨k, rfl⟩ : ∃ k : Nat, page = (k : Int) := ⟨page.toNat, by omega⟩
        refine St_seq ?_
        refine St_region ?_
        refine Ls_run (run_move rfl) rfl ?_
        refine Ls_run (run_nilCheck rfl) rfl ?_
        refine Ls_run (run_as (run_field Try.underlying122 rfl inf120 (by decide) rfl) (show _ = Value.pointer (some ⟨bj, 1, none⟩) from rfl)) rfl ?_
        refine Ls_run (run_as (run_field Try.underlying120 rfl inf22 (by decide) rfl) (show _ = Value.pointer (some ⟨bj, 2, none⟩) from rfl)) rfl ?_
        refine Ls_run (run_load sc22 rfl (hs.blk_at 0 rfl 2 rfl)) rfl ?_
        refine Ls_run (run_move rfl) rfl ?_
        refine Ls_index (KI) (hs.rd_at 2 rfl) Try.underlying22 inf3 rfl rfl (by omega) (by omega) (show _ = s.tb.getD k 0 from rfl) rfl ?_
        intro b7 o8 hc9
        refine Ls_run (run_load sc3 rfl (hc9 0 _ rfl)) rfl ?_
        refine Ls_run (run_eql rfl rfl) rfl ?_
        refine Ls_run (run_assign rfl) rfl ?_
        refine Ls_nil ?_
        refine Jm_seq ?_
        refine St_ifP rfl (fun h10 => ?_) (fun h10 => ?_)
        · skip
          refine St_seq ?_
          refine St_region ?_
          refine Ls_run (run_assign rfl) rfl ?_
          refine Ls_run (run_assign rfl) rfl ?_
          refine Ls_nil ?_
          refine Jm_seq ?_
          refine St_ret ?_
          refine Jm_block_ret (Jm_then_ret  ?_)
          refine Jm_ret2 rfl rfl rfl ?_
          replace hs := hs.front 1 rfl
          simp only [List.cons_append, List.nil_append, List.eraseIdx_cons_zero, List.eraseIdx_cons_succ] at hs
          replace hs := hs.front 2 rfl
          simp only [List.cons_append, List.nil_append, List.eraseIdx_cons_zero, List.eraseIdx_cons_succ] at hs
          replace hs := hs.front 2 rfl
          simp only [List.cons_append, List.nil_append, List.eraseIdx_cons_zero, List.eraseIdx_cons_succ] at hs
          rw [bget_0 hen (by omega) (by assumption)]
          have hs5 := Sat.bshut (s := bend dO s d) hs
          exact ⟨_, rfl, none, 0, rfl, (hs5.own_nil 5 1).rot12⟩
        · skip
          refine St_skip ?_
          refine Jm_block_normal (Jm_seq ?_)
          refine St_seq ?_
          replace hs := hs.front 2 rfl
          simp only [List.cons_append, List.nil_append, List.eraseIdx_cons_zero, List.eraseIdx_cons_succ] at hs
          replace hs := hs.front 1 rfl
          simp only [List.cons_append, List.nil_append, List.eraseIdx_cons_zero, List.eraseIdx_cons_succ] at hs
          refine St_hold (Hold.of (Ls := [_, _]) hs) mixed ?_
          intro w11 q12
          replace hs := hs.quiet q12
          have hH := Hold.of (Ls := [_, _]) hs
          refine An_take 0 rfl (by kernel_rfl) (by kernel_rfl) (by kernel_rfl) (fun _ _ _ h => h) hH (fun x hx => run_move rfl) rfl ?_
          refine An_take 1 rfl (by kernel_rfl) (by kernel_rfl) (by kernel_rfl) (fun _ _ _ h => h) hH (fun x hx => run_nilCheck rfl) rfl ?_
          refine An_take 2 rfl (by kernel_rfl) (by kernel_rfl) (by kernel_rfl) (fun _ _ _ h => h) hH (fun x hx => run_as (run_field Try.underlying122 rfl inf46 (by decide) rfl) (show _ = Value.pointer (some ⟨bj, 0, none⟩) from rfl)) rfl ?_
          refine An_take 3 rfl (by kernel_rfl) (by kernel_rfl) (by kernel_rfl) (fun _ _ _ h => h) hH (fun x hx => run_load sc46 rfl (hx.choose_spec.blk_at 0 rfl 0 rfl)) rfl ?_
          refine An_take 4 rfl (by kernel_rfl) (by kernel_rfl) (by kernel_rfl) (fun _ _ _ h => h) hH (fun x hx => run_move rfl) rfl ?_
          refine An_take 5 rfl (by kernel_rfl) (by kernel_rfl) (by kernel_rfl) (fun _ _ _ h => h) hH (fun x hx => run_nilCheck rfl) rfl ?_
          refine An_take 6 rfl (by kernel_rfl) (by kernel_rfl) (by kernel_rfl) (fun _ _ _ h => h) hH (fun x hx => run_as (run_field Try.underlying122 rfl inf120 (by decide) rfl) (show _ = Value.pointer (some ⟨bj, 1, none⟩) from rfl)) rfl ?_
          refine An_take 7 rfl (by kernel_rfl) (by kernel_rfl) (by kernel_rfl) (fun _ _ _ h => h) hH (fun x hx => run_as (run_field Try.underlying120 rfl inf22 (by decide) rfl) (show _ = Value.pointer (some ⟨bj, 2, none⟩) from rfl)) rfl ?_
          refine An_take 8 rfl (by kernel_rfl) (by kernel_rfl) (by kernel_rfl) (fun _ _ _ h => h) hH (fun x hx => run_load sc22 rfl (hx.choose_spec.blk_at 0 rfl 2 rfl)) rfl ?_
          refine An_take 9 rfl (by kernel_rfl) (by kernel_rfl) (by kernel_rfl) (fun _ _ _ h => h) hH (fun x hx => run_move rfl) rfl ?_
          refine An_index 10  (KI) rfl (by kernel_rfl) (by kernel_rfl) (by kernel_rfl) (fun _ _ _ _ h => h) hH (fun x hx => (hx.choose_spec.rd_at 1 rfl)) Try.underlying22 inf3 rfl rfl (by omega) (by omega) (show _ = s.tb.getD k 0 from rfl) rfl ?_
          intro b13 o14 hc15
          refine An_take 11 rfl (by kernel_rfl) (by kernel_rfl) (by kernel_rfl) (fun _ _ _ h => h) hH (fun x hx => run_load sc3 rfl ((hc15 x hx) 0 _ rfl)) rfl ?_
          refine An_only 12 (by kernel_rfl) rfl ?_
          replace hs := hs.front 2 rfl
          simp only [List.cons_append, List.nil_append, List.eraseIdx_cons_zero, List.eraseIdx_cons_succ] at hs
          refine Ls_call Try.func92 nm92 rfl rfl (Read_c B w11 _ b d hs hdok.len (s.tb.getD k 0)) rfl ?_
          rintro v16 w17 ⟨Ar, cr, rfl, hs⟩
          obtain ⟨⟨rl, re, d2⟩, hrd⟩ : ∃ q, dread d (s.tb.getD k 0) = q := ⟨_, rfl⟩
          simp only [hrd] at hs ⊢
          replace hs := hs.front 3 rfl
          simp only [List.cons_append, List.nil_append, List.eraseIdx_cons_zero, List.eraseIdx_cons_succ] at hs
          replace hs := hs.front 3 rfl
          simp only [List.cons_append, List.nil_append, List.eraseIdx_cons_zero, List.eraseIdx_cons_succ] at hs
          replace hH := Hold.of (Ls := [_, _]) hs
          refine Ls_nil (Jm_An hH ?_)
          refine An_take 13 rfl (by kernel_rfl) (by kernel_rfl) (by kernel_rfl) (fun _ _ _ h => h) hH (fun x hx => run_extract rfl rfl) rfl ?_
          refine An_take 14 rfl (by kernel_rfl) (by kernel_rfl) (by kernel_rfl) (fun _ _ _ h => h) hH (fun x hx => run_extract rfl rfl) rfl ?_
          refine An_take 15 rfl (by kernel_rfl) (by kernel_rfl) (by kernel_rfl) (fun _ _ _ h => h) hH (fun x hx => run_assign rfl) rfl ?_
          refine An_take 16 rfl (by kernel_rfl) (by kernel_rfl) (by kernel_rfl) (fun _ _ _ h => h) hH (fun x hx => run_assign rfl) rfl ?_
          refine An_done (by kernel_rfl) ?_
          refine Jm_seq ?_
          refine St_ret ?_
          refine Jm_ret2 rfl rfl rfl ?_
          replace hs := hs.front 3 rfl
          simp only [List.cons_append, List.nil_append, List.eraseIdx_cons_zero, List.eraseIdx_cons_succ] at hs
          replace hs := hs.front 3 rfl
          simp only [List.cons_append, List.nil_append, List.eraseIdx_cons_zero, List.eraseIdx_cons_succ] at hs
          replace hs := hs.front 3 rfl
          simp only [List.cons_append, List.nil_append, List.eraseIdx_cons_zero, List.eraseIdx_cons_succ] at hs
          replace hs := hs.front 3 rfl
          simp only [List.cons_append, List.nil_append, List.eraseIdx_cons_zero, List.eraseIdx_cons_succ] at hs
          rw [bget_r hen (by omega) (by assumption) hrd]
          have hs5 := Sat.bshut (s := bend dO s d) hs
          exact ⟨_, rfl, Ar, cr, rfl, hs5⟩
set_option maxRecDepth 100000 in
set_option maxHeartbeats 1000000 in
theorem BGet_nil (w : World) (page : Int) :
    Calls Try.prog 31 [.pointer none, .int .i64 page].toArray w (Ret (fun v' w' => w = w' ∧ v' = .tuple #[.slice none 0 0, .int .i64 2])) := by
  refine Calls_body Try.func31 rfl rfl rfl (envE_cons (i := 0) (v := .pointer none) rfl (envE_cons (i := 1) (v := .int .i64 page) rfl envE_nil)) ?_
  refine St_seq ?_
  refine St_region ?_
  refine Ls_run (run_assign rfl) rfl ?_
  refine Ls_run (run_assign rfl) rfl ?_
  refine Ls_nil ?_
  refine Jm_seq ?_
  refine St_seq ?_
  refine St_seq ?_
  refine St_region ?_
  refine Ls_run (run_move rfl) rfl ?_
  refine Ls_call Try.func84 nm84 rfl rfl (bcheck_nil w) rfl ?_
  rintro v1 w2 ⟨rfl, rfl⟩
  refine Ls_run (run_assign rfl) rfl ?_
  refine Ls_nil ?_
  refine Jm_seq ?_
  refine St_seq ?_
  refine St_region ?_
  refine Ls_run (run_move rfl) rfl ?_
  refine Ls_run (run_asB (c := true) (run_asB (c := true) (run_neq rfl rfl) (by decide)) (by decide)) rfl ?_
  refine Ls_nil ?_
  refine Jm_seq ?_
  refine St_ift rfl ?_
  refine St_seq ?_
  refine St_region ?_
  refine Ls_run (run_move rfl) rfl ?_
  refine Ls_run (run_assign rfl) rfl ?_
  refine Ls_run (run_assign rfl) rfl ?_
  refine Ls_nil ?_
  refine Jm_seq ?_
  refine St_ret ?_
  refine Jm_then_ret  ?_
  refine Jm_ret2 rfl rfl rfl ?_
  exact ⟨_, rfl, rfl, rfl⟩
set_option maxRecDepth 100000 in
set_option maxHeartbeats 1000000 in
theorem qdown_c (B w : World) (L : List Assn) (bj b : Nat) (s : BSt) (d : RSt) (Ab : Option Addr) (cb : Nat) (hs : Sat B w (Blk bj (qcells (some ⟨b, 0, none⟩) s Ab cb) 138 :: RefA 135 28 5 b d :: L)) :
    Calls Try.prog 100 [.pointer (some ⟨bj, 0, none⟩)].toArray w (Ret (fun v' w' => v' = .bool (bend rO s d).ended ∧ Sat B w' (Blk bj (qcells (some ⟨b, 0, none⟩) (bend rO s d) Ab cb) 138 :: RefA 135 28 5 b d :: L))) := by
  refine Calls_body Try.func100 rfl rfl rfl (envE_cons (i := 0) (v := .pointer (some ⟨bj, 0, none⟩)) rfl envE_nil) ?_
  refine St_seq ?_
  refine St_region ?_
  refine Ls_run (run_assign rfl) rfl ?_
  refine Ls_nil ?_
  refine Jm_seq ?_
  refine St_seq ?_
  refine St_seq ?_
  refine St_region ?_
  refine Ls_run (run_move rfl) rfl ?_
  refine Ls_run (run_nilCheck rfl) rfl ?_
  refine Ls_run (run_as (run_field Try.underlying138 rfl inf71 (by decide) rfl) (show _ = Value.pointer (some ⟨bj, 0, none⟩) from rfl)) rfl ?_
  refine Ls_run (run_load sc71 rfl (hs.blk_at 0 rfl 0 rfl)) rfl ?_
  replace hs := hs.front 1 rfl
  simp only [List.cons_append, List.nil_append, List.eraseIdx_cons_zero, List.eraseIdx_cons_succ] at hs
  obtain ⟨A0, c0, hd0⟩ := hs.rhd
  refine Ls_call Try.func104 nm104 rfl rfl (rDown_c w b d A0 c0 hd0) rfl ?_
  rintro v1 w2 ⟨rfl, rfl⟩
  refine Ls_nil ?_
  refine Jm_seq ?_
  refine St_if rfl (fun h3 => ?_) (fun h3 => ?_)
  · skip
    refine St_region ?_
    refine Ls_run (run_move rfl) rfl ?_
    refine Ls_run (run_nilCheck rfl) rfl ?_
    refine Ls_run (run_as (run_field Try.underlying138 rfl inf4 (by decide) rfl) (show _ = Value.pointer (some ⟨bj, 4, none⟩) from rfl)) rfl ?_
    replace hs := hs.front 1 rfl
    simp only [List.cons_append, List.nil_append, List.eraseIdx_cons_zero, List.eraseIdx_cons_succ] at hs
    refine Ls_store hs inf4 rfl rfl rfl rfl ?_
    intro w4 hs
    try simp only [List.set_cons_zero, List.set_cons_succ] at hs
    refine Ls_nil ?_
    refine Jm_seq ?_
    refine St_seq ?_
    refine St_region ?_
    refine Ls_run (run_move rfl) rfl ?_
    refine Ls_run (run_nilCheck rfl) rfl ?_
    refine Ls_run (run_as (run_field Try.underlying138 rfl inf4 (by decide) rfl) (show _ = Value.pointer (some ⟨bj, 4, none⟩) from rfl)) rfl ?_
    refine Ls_run (run_load sc4 rfl (hs.blk_at 0 rfl 4 rfl)) rfl ?_
    refine Ls_run (run_assign rfl) rfl ?_
    refine Ls_nil ?_
    refine Jm_seq ?_
    refine St_ret ?_
    refine Jm_ret1 rfl rfl ?_
    replace hs := hs.front 1 rfl
    simp only [List.cons_append, List.nil_append, List.eraseIdx_cons_zero, List.eraseIdx_cons_succ] at hs
    replace hs := hs.front 1 rfl
    simp only [List.cons_append, List.nil_append, List.eraseIdx_cons_zero, List.eraseIdx_cons_succ] at hs
    have e6 : ∀ cs : List Value, cs = qcells (some ⟨b, 0, none⟩) (bend rO s d) Ab cb → Sat B w4 (Blk bj cs 138 :: RefA 135 28 5 b d :: L) → Sat B w4 (Blk bj (qcells (some ⟨b, 0, none⟩) (bend rO s d) Ab cb) 138 :: RefA 135 28 5 b d :: L) := fun cs e q => by rw [← e]; exact q
    refine ⟨_, rfl, ?_, e6 _ (by simp [qcells, bend, rO, *]) hs⟩
    simp [bend, rO, *]
  · skip
    refine St_skip ?_
    refine Jm_seq ?_
    refine St_seq ?_
    refine St_region ?_
    refine Ls_run (run_move rfl) rfl ?_
    refine Ls_run (run_nilCheck rfl) rfl ?_
    refine Ls_run (run_as (run_field Try.underlying138 rfl inf4 (by decide) rfl) (show _ = Value.pointer (some ⟨bj, 4, none⟩) from rfl)) rfl ?_
    refine Ls_run (run_load sc4 rfl (hs.blk_at 1 rfl 4 rfl)) rfl ?_
    refine Ls_run (run_assign rfl) rfl ?_
    refine Ls_nil ?_
    refine Jm_seq ?_
    refine St_ret ?_
    refine Jm_ret1 rfl rfl ?_
    replace hs := hs.front 1 rfl
    simp only [List.cons_append, List.nil_append, List.eraseIdx_cons_zero, List.eraseIdx_cons_succ] at hs
    have e6 : ∀ cs : List Value, cs = qcells (some ⟨b, 0, none⟩) (bend rO s d) Ab cb → Sat B w (Blk bj cs 138 :: RefA 135 28 5 b d :: L) → Sat B w (Blk bj (qcells (some ⟨b, 0, none⟩) (bend rO s d) Ab cb) 138 :: RefA 135 28 5 b d :: L) := fun cs e q => by rw [← e]; exact q
    refine ⟨_, rfl, ?_, e6 _ (by simp [qcells, bend, rO, *]) hs⟩
    simp [bend, rO, *]
set_option maxRecDepth 100000 in
set_option maxHeartbeats 1000000 in
theorem rBGet_g (B w : World) (L : List Assn) (bj b : Nat) (s : BSt) (d : RSt) (hs : Sat B w (QA 138 3 bj (some ⟨b, 0, none⟩) s :: RefA 135 28 5 b d :: L)) (hdok : ROk d) (hln : s.tb.length ≤ 1073741824) (page : Int) :
    Calls Try.prog 43 [.pointer (some ⟨bj, 0, none⟩), .int .i64 page].toArray w (Ret (fun v' w' => ∃ A c, v' = .tuple #[.slice A (bget rO s d page).1.length c, .int .i64 (bget rO s d page).2.1] ∧ Sat B w' (QA 138 3 bj (some ⟨b, 0, none⟩) (bget rO s d page).2.2.1 :: RefA 135 28 5 b (bget rO s d page).2.2.2 :: Own 5 1 (.slice A (bget rO s d page).1.length c) (bget rO s d page).1.length (bytesV (bget rO s d page).1) :: L))) := by
  obtain ⟨Ab, cb, hs⟩ := hs.qopen
  have ebn : (bend rO s d).tb.length = s.tb.length := rfl
  refine Calls_body Try.func43 rfl rfl rfl (envE_cons (i := 0) (v := .pointer (some ⟨bj, 0, none⟩)) rfl (envE_cons (i := 1) (v := .int .i64 page) rfl envE_nil)) ?_
  refine St_seq ?_
  refine St_region ?_
  refine Ls_run (run_assign rfl) rfl ?_
  refine Ls_run (run_assign rfl) rfl ?_
  refine Ls_nil ?_
  refine Jm_seq ?_
  refine St_seq ?_
  refine St_seq ?_
  refine St_region ?_
  refine Ls_run (run_move rfl) rfl ?_
  refine Ls_run (run_asB (c := false) (run_eql_ptr_nil Try.underlying74 rfl rfl) rfl) rfl ?_
  refine Ls_nil ?_
  refine Jm_seq ?_
  refine St_iff rfl ?_
  refine St_skip ?_
  refine Jm_seq ?_
  refine St_seq ?_
  refine St_seq ?_
  refine St_region ?_
  refine Ls_run (run_move rfl) rfl ?_
  replace hs := hs.front 2 rfl
  simp only [List.cons_append, List.nil_append, List.eraseIdx_cons_zero, List.eraseIdx_cons_succ] at hs
  replace hs := hs.front 1 rfl
  simp only [List.cons_append, List.nil_append, List.eraseIdx_cons_zero, List.eraseIdx_cons_succ] at hs
  refine Ls_call Try.func100 nm100 rfl rfl (qdown_c B w _ bj b s d Ab cb hs) rfl ?_
  rintro v2 w3 ⟨rfl, hs⟩
  refine Ls_nil ?_
  refine Jm_seq ?_
  refine St_if rfl (fun h4 => ?_) (fun h4 => ?_)
  · skip
    have hen : (bend rO s d).ended = true := h4
    refine St_seq ?_
    refine St_region ?_
    refine Ls_run (run_assign rfl) rfl ?_
    refine Ls_run (run_assign rfl) rfl ?_
    refine Ls_nil ?_
    refine Jm_seq ?_
    refine St_ret ?_
    refine Jm_then_ret  ?_
    refine Jm_ret2 rfl rfl rfl ?_
    replace hs := hs.front 1 rfl
    simp only [List.cons_append, List.nil_append, List.eraseIdx_cons_zero, List.eraseIdx_cons_succ] at hs
    replace hs := hs.front 2 rfl
    simp only [List.cons_append, List.nil_append, List.eraseIdx_cons_zero, List.eraseIdx_cons_succ] at hs
    replace hs := hs.front 2 rfl
    simp only [List.cons_append, List.nil_append, List.eraseIdx_cons_zero, List.eraseIdx_cons_succ] at hs
    rw [bget_80 hen]
    have hs5 := Sat.qshut (s := bend rO s d) hs
    exact ⟨_, rfl, none, 0, rfl, (hs5.own_nil 5 1).rot12⟩
  · skip
    have hen : ¬ (bend rO s d).ended = true := by rw [h4]; simp
    refine St_skip ?_
    refine Jm_seq ?_
    refine St_seq ?_
    refine St_seq ?_
    refine St_region ?_
    refine Ls_run (run_move rfl) rfl ?_
    refine Ls_run (run_lss rfl rfl) rfl ?_
    refine Ls_run (run_move rfl) rfl ?_
    refine Ls_partP (t := 12) rfl (fun h5 => ?_) (fun h5 => ?_)
    · skip
      refine Ls_off rfl rfl rfl rfl ?_
      refine Ls_off rfl rfl rfl rfl ?_
      refine Ls_off rfl rfl rfl rfl ?_
      refine Ls_off rfl rfl rfl rfl ?_
      refine Ls_off rfl rfl rfl rfl ?_
      refine Ls_off rfl rfl rfl rfl ?_
      refine Ls_off rfl rfl rfl rfl ?_
      refine Ls_run (run_pick_t rfl rfl) rfl ?_
      refine Ls_nil ?_
      refine Jm_seq ?_
      refine St_ift rfl ?_
      refine St_seq ?_
      refine St_region ?_
      refine Ls_run (run_assign rfl) rfl ?_
      refine Ls_run (run_assign rfl) rfl ?_
      refine Ls_nil ?_
      refine Jm_seq ?_
      refine St_ret ?_
      refine Jm_then_ret  ?_
      refine Jm_ret2 rfl rfl rfl ?_
      replace hs := hs.front 1 rfl
      simp only [List.cons_append, List.nil_append, List.eraseIdx_cons_zero, List.eraseIdx_cons_succ] at hs
      replace hs := hs.front 2 rfl
      simp only [List.cons_append, List.nil_append, List.eraseIdx_cons_zero, List.eraseIdx_cons_succ] at hs
      replace hs := hs.front 2 rfl
      simp only [List.cons_append, List.nil_append, List.eraseIdx_cons_zero, List.eraseIdx_cons_succ] at hs
      rw [bget_91 hen (by omega)]
      have hs5 := Sat.qshut (s := bend rO s d) hs
      exact ⟨_, rfl, none, 0, rfl, (hs5.own_nil 5 1).rot12⟩
    · skip
      refine Ls_on rfl rfl ?_
      refine Ls_run (run_move rfl) rfl ?_
      refine Ls_on rfl rfl ?_
      refine Ls_run (run_move rfl) rfl ?_
      refine Ls_on rfl rfl ?_
      refine Ls_run (run_nilCheck rfl) rfl ?_
      refine Ls_on rfl rfl ?_
      refine Ls_run (run_as (run_field Try.underlying138 rfl inf22 (by decide) rfl) (show _ = Value.pointer (some ⟨bj, 1, none⟩) from rfl)) rfl ?_
      refine Ls_on rfl rfl ?_
      refine Ls_run (run_load sc22 rfl (hs.blk_at 0 rfl 1 rfl)) rfl ?_
      refine Ls_on rfl rfl ?_
      refine Ls_run (run_len Try.underlying22 rfl) rfl ?_
      refine Ls_on rfl rfl ?_
      refine Ls_run (run_geq rfl rfl) rfl ?_
      refine Ls_run (run_pick_f rfl rfl) rfl ?_
      refine Ls_nil ?_
      refine Jm_seq ?_
      refine St_ifP rfl (fun h7 => ?_) (fun h7 => ?_)
      · skip
        refine St_seq ?_
        refine St_region ?_
        refine Ls_run (run_assign rfl) rfl ?_
        refine Ls_run (run_assign rfl) rfl ?_
        refine Ls_nil ?_
        refine Jm_seq ?_
        refine St_ret ?_
        refine Jm_then_ret  ?_
        refine Jm_ret2 rfl rfl rfl ?_
        replace hs := hs.front 1 rfl
        simp only [List.cons_append, List.nil_append, List.eraseIdx_cons_zero, List.eraseIdx_cons_succ] at hs
        replace hs := hs.front 2 rfl
        simp only [List.cons_append, List.nil_append, List.eraseIdx_cons_zero, List.eraseIdx_cons_succ] at hs
        replace hs := hs.front 2 rfl
        simp only [List.cons_append, List.nil_append, List.eraseIdx_cons_zero, List.eraseIdx_cons_succ] at hs
        rw [bget_91 hen (by omega)]
        have hs5 := Sat.qshut (s := bend rO s d) hs
        exact ⟨_, rfl, none, 0, rfl, (hs5.own_nil 5 1).rot12⟩
      · skip
        obtain ⟨k, rfl⟩ : ∃ k : Nat, page = (k : Int) := ⟨page.toNat, by omega⟩
        refine St_skip ?_
        refine Jm_seq ?_
        refine St_seq ?_
        refine St_seq ?_
        refine St_region ?_
        refine Ls_run (run_move rfl) rfl ?_
        refine Ls_run (run_nilCheck rfl) rfl ?_
        refine Ls_run (run_as (run_field Try.underlying138 rfl inf22 (by decide) rfl) (show _ = Value.pointer (some ⟨bj, 1, none⟩) from rfl)) rfl ?_
        refine Ls_run (run_load sc22 rfl (hs.blk_at 0 rfl 1 rfl)) rfl ?_
        refine Ls_run (run_move rfl) rfl ?_
        refine Ls_index (KI) (hs.rd_at 2 rfl) Try.underlying22 inf3 rfl rfl (by omega) (by omega) (show _ = s.tb.getD k 0 from rfl) rfl ?_
        intro b8 o9 hc10
        refine Ls_run (run_load sc3 rfl (hc10 0 _ rfl)) rfl ?_
        refine Ls_run (run_eql rfl rfl) rfl ?_
        refine Ls_nil ?_
        refine Jm_seq ?_
        refine St_ifP rfl (fun h11 => ?_) (fun h11 => ?_)
        · skip
          refine St_seq ?_
          refine St_region ?_
          refine Ls_run (run_assign rfl) rfl ?_
          refine Ls_run (run_assign rfl) rfl ?_
          refine Ls_nil ?_
          refine Jm_seq ?_
          refine St_ret ?_
          refine Jm_then_ret  ?_
          refine Jm_ret2 rfl rfl rfl ?_
          replace hs := hs.front 1 rfl
          simp only [List.cons_append, List.nil_append, List.eraseIdx_cons_zero, List.eraseIdx_cons_succ] at hs
          replace hs := hs.front 2 rfl
          simp only [List.cons_append, List.nil_append, List.eraseIdx_cons_zero, List.eraseIdx_cons_succ] at hs
          replace hs := hs.front 2 rfl
          simp only [List.cons_append, List.nil_append, List.eraseIdx_cons_zero, List.eraseIdx_cons_succ] at hs
          rw [bget_0 hen (by omega) (by assumption)]
          have hs5 := Sat.qshut (s := bend rO s d) hs
          exact ⟨_, rfl, none, 0, rfl, (hs5.own_nil 5 1).rot12⟩
        · skip
          refine St_skip ?_
          refine Jm_seq ?_
          refine St_seq ?_
          replace hs := hs.front 2 rfl
          simp only [List.cons_append, List.nil_append, List.eraseIdx_cons_zero, List.eraseIdx_cons_succ] at hs
          replace hs := hs.front 1 rfl
          simp only [List.cons_append, List.nil_append, List.eraseIdx_cons_zero, List.eraseIdx_cons_succ] at hs
          refine St_hold (Hold.of (Ls := [_, _]) hs) mixed ?_
          intro w12 q13
          replace hs := hs.quiet q13
          have hH := Hold.of (Ls := [_, _]) hs
          refine An_take 0 rfl (by kernel_rfl) (by kernel_rfl) (by kernel_rfl) (fun _ _ _ h => h) hH (fun x hx => run_move rfl) rfl ?_
          refine An_take 1 rfl (by kernel_rfl) (by kernel_rfl) (by kernel_rfl) (fun _ _ _ h => h) hH (fun x hx => run_nilCheck rfl) rfl ?_
          refine An_take 2 rfl (by kernel_rfl) (by kernel_rfl) (by kernel_rfl) (fun _ _ _ h => h) hH (fun x hx => run_as (run_field Try.underlying138 rfl inf71 (by decide) rfl) (show _ = Value.pointer (some ⟨bj, 0, none⟩) from rfl)) rfl ?_
          refine An_take 3 rfl (by kernel_rfl) (by kernel_rfl) (by kernel_rfl) (fun _ _ _ h => h) hH (fun x hx => run_load sc71 rfl (hx.choose_spec.blk_at 0 rfl 0 rfl)) rfl ?_
          refine An_take 4 rfl (by kernel_rfl) (by kernel_rfl) (by kernel_rfl) (fun _ _ _ h => h) hH (fun x hx => run_move rfl) rfl ?_
          refine An_take 5 rfl (by kernel_rfl) (by kernel_rfl) (by kernel_rfl) (fun _ _ _ h => h) hH (fun x hx => run_nilCheck rfl) rfl ?_
          refine An_take 6 rfl (by kernel_rfl) (by kernel_rfl) (by kernel_rfl) (fun _ _ _ h => h) hH (fun x hx => run_as (run_field Try.underlying138 rfl inf22 (by decide) rfl) (show _ = Value.pointer (some ⟨bj, 1, none⟩) from rfl)) rfl ?_
          refine An_take 7 rfl (by kernel_rfl) (by kernel_rfl) (by kernel_rfl) (fun _ _ _ h => h) hH (fun x hx => run_load sc22 rfl (hx.choose_spec.blk_at 0 rfl 1 rfl)) rfl ?_
          refine An_take 8 rfl (by kernel_rfl) (by kernel_rfl) (by kernel_rfl) (fun _ _ _ h => h) hH (fun x hx => run_move rfl) rfl ?_
          refine An_index 9  (KI) rfl (by kernel_rfl) (by kernel_rfl) (by kernel_rfl) (fun _ _ _ _ h => h) hH (fun x hx => (hx.choose_spec.rd_at 1 rfl)) Try.underlying22 inf3 rfl rfl (by omega) (by omega) (show _ = s.tb.getD k 0 from rfl) rfl ?_
          intro b14 o15 hc16
          refine An_take 10 rfl (by kernel_rfl) (by kernel_rfl) (by kernel_rfl) (fun _ _ _ h => h) hH (fun x hx => run_load sc3 rfl ((hc16 x hx) 0 _ rfl)) rfl ?_
          refine An_only 11 (by kernel_rfl) rfl ?_
          replace hs := hs.front 2 rfl
          simp only [List.cons_append, List.nil_append, List.eraseIdx_cons_zero, List.eraseIdx_cons_succ] at hs
          refine Ls_call Try.func103 nm103 rfl rfl (rRead_c B w12 _ b d hs hdok.len (s.tb.getD k 0)) rfl ?_
          rintro v17 w18 ⟨Ar, cr, rfl, hs⟩
          obtain ⟨⟨rl, re, d2⟩, hrd⟩ : ∃ q, rread d (s.tb.getD k 0) = q := ⟨_, rfl⟩
          simp only [hrd] at hs ⊢
          replace hs := hs.front 3 rfl
          simp only [List.cons_append, List.nil_append, List.eraseIdx_cons_zero, List.eraseIdx_cons_succ] at hs
          replace hs := hs.front 3 rfl
          simp only [List.cons_append, List.nil_append, List.eraseIdx_cons_zero, List.eraseIdx_cons_succ] at hs
          replace hH := Hold.of (Ls := [_, _]) hs
          refine Ls_nil (Jm_An hH ?_)
          refine An_take 12 rfl (by kernel_rfl) (by kernel_rfl) (by kernel_rfl) (fun _ _ _ h => h) hH (fun x hx => run_extract rfl rfl) rfl ?_
          refine An_take 13 rfl (by kernel_rfl) (by kernel_rfl) (by kernel_rfl) (fun _ _ _ h => h) hH (fun x hx => run_extract rfl rfl) rfl ?_
          refine An_take 14 rfl (by kernel_rfl) (by kernel_rfl) (by kernel_rfl) (fun _ _ _ h => h) hH (fun x hx => run_assign rfl) rfl ?_
          refine An_take 15 rfl (by kernel_rfl) (by kernel_rfl) (by kernel_rfl) (fun _ _ _ h => h) hH (fun x hx => run_assign rfl) rfl ?_
          refine An_done (by kernel_rfl) ?_
          refine Jm_seq ?_
          refine St_ret ?_
          refine Jm_ret2 rfl rfl rfl ?_
          replace hs := hs.front 3 rfl
          simp only [List.cons_append, List.nil_append, List.eraseIdx_cons_zero, List.eraseIdx_cons_succ] at hs
          replace hs := hs.front 3 rfl
          simp only [List.cons_append, List.nil_append, List.eraseIdx_cons_zero, List.eraseIdx_cons_succ] at hs
          replace hs := hs.front 3 rfl
          simp only [List.cons_append, List.nil_append, List.eraseIdx_cons_zero, List.eraseIdx_cons_succ] at hs
          replace hs := hs.front 3 rfl
          simp only [List.cons_append, List.nil_append, List.eraseIdx_cons_zero, List.eraseIdx_cons_succ] at hs
          rw [bget_r hen (by omega) (by assumption) hrd]
          have hs5 := Sat.qshut (s := bend rO s d) hs
          exact ⟨_, rfl, Ar, cr, rfl, hs5⟩
set_option maxRecDepth 100000 in
set_option maxHeartbeats 1000000 in
theorem rBGet_nil (w : World) (page : Int) :
    Calls Try.prog 43 [.pointer none, .int .i64 page].toArray w (Ret (fun v' w' => w = w' ∧ v' = .tuple #[.slice none 0 0, .int .i64 2])) := by
  refine Calls_body Try.func43 rfl rfl rfl (envE_cons (i := 0) (v := .pointer none) rfl (envE_cons (i := 1) (v := .int .i64 page) rfl envE_nil)) ?_
  refine St_seq ?_
  refine St_region ?_
  refine Ls_run (run_assign rfl) rfl ?_
  refine Ls_run (run_assign rfl) rfl ?_
  refine Ls_nil ?_
  refine Jm_seq ?_
  refine St_seq ?_
  refine St_seq ?_
  refine St_region ?_
  refine Ls_run (run_move rfl) rfl ?_
  refine Ls_run (run_asB (c := true) (run_eql_ptr_nil Try.underlying74 rfl rfl) rfl) rfl ?_
  refine Ls_nil ?_
  refine Jm_seq ?_
  refine St_ift rfl ?_
  refine St_seq ?_
  refine St_region ?_
  refine Ls_run (run_assign rfl) rfl ?_
  refine Ls_run (run_assign rfl) rfl ?_
  refine Ls_nil ?_
  refine Jm_seq ?_
  refine St_ret ?_
  refine Jm_then_ret  ?_
  refine Jm_ret2 rfl rfl rfl ?_
  exact ⟨_, rfl, rfl, rfl⟩
set_option maxRecDepth 100000 in
set_option maxHeartbeats 1000000 in
theorem bwrite_c (B w : World) (L : List Assn) (bj b : Nat) (s : BSt) (d : DSt) (Ab : Option Addr) (cb : Nat) (hs : Sat B w (Blk bj (bcells (some ⟨b, 0, none⟩) s Ab cb) 122 :: DiskA 129 28 5 b d :: L)) (hdok : DOk d) (i : Int) (A : Option Addr) (n c : Nat) (l : List Int) (hr : ∀ w' X, Sat B w' (X :: L) → Rd w' A n c 1 (bytesV l)) (hn : n ≤ 140737488355328) :
    Calls Try.prog 89 [.pointer (some ⟨bj, 0, none⟩), .int .i64 i, .slice A n c].toArray w (RetP (fun v' w' => v' = .tuple #[] ∧ (dwrite d i l).1 = 0 ∧ Sat B w' (Blk bj (bcells (some ⟨b, 0, none⟩) s Ab cb) 122 :: DiskA 129 28 5 b (dwrite d i l).2 :: L)) (fun ch w' => ∃ e, ch = pchain e ∧ (dwrite d i l).1 = e ∧ e ≠ 0 ∧ Sat B w' (Blk bj (bcells (some ⟨b, 0, none⟩) s Ab cb) 122 :: DiskA 129 28 5 b (dwrite d i l).2 :: L))) := by
  refine Calls_body Try.func89 rfl rfl rfl (envE_cons (i := 0) (v := .pointer (some ⟨bj, 0, none⟩)) rfl (envE_cons (i := 1) (v := .int .i64 i) rfl (envE_cons (i := 2) (v := .slice A n c) rfl envE_nil))) ?_
  refine St_seq ?_
  refine St_region ?_
  refine Ls_run (run_move rfl) rfl ?_
  refine Ls_run (run_nilCheck rfl) rfl ?_
  refine Ls_run (run_as (run_field Try.underlying122 rfl inf46 (by decide) rfl) (show _ = Value.pointer (some ⟨bj, 0, none⟩) from rfl)) rfl ?_
  refine Ls_run (run_load sc46 rfl (hs.blk_at 0 rfl 0 rfl)) rfl ?_
  refine Ls_run (run_move rfl) rfl ?_
  refine Ls_run (run_move rfl) rfl ?_
  replace hs := hs.front 1 rfl
  simp only [List.cons_append, List.nil_append, List.eraseIdx_cons_zero, List.eraseIdx_cons_succ] at hs
  refine Ls_call Try.func96 nm96 rfl rfl (Write_c B w _ b d hs hdok.len i A n c l (fun w' X q => Sat.rdL0 (pre := [X, _]) hr (by simpa using q)) hn) rfl ?_
  rintro v1 w2 ⟨rfl, hs⟩
  obtain ⟨⟨e2, d2⟩, hw⟩ : ∃ q, dwrite d i l = q := ⟨_, rfl⟩
  simp only [hw] at hs ⊢
  refine Ls_run (run_assign rfl) rfl ?_
  refine Ls_nil ?_
  refine Jm_seq ?_
  refine St_seq ?_
  refine St_region ?_
  refine Ls_run (run_move rfl) rfl ?_
  refine Ls_run (run_neq rfl rfl) rfl ?_
  refine Ls_nil ?_
  refine Jm_seq ?_
  refine St_ifP rfl (fun h3 => ?_) (fun h3 => ?_)
  · skip
    refine St_region ?_
    refine Ls_run (run_move rfl) rfl ?_
    refine Ls_run (run_iface (by kernel_rfl) rfl) rfl ?_
    refine Ls_panic rfl ?_
    repeat (first | refine Jm_then_panic ?_ | refine Jm_block_panic ?_)
    replace hs := hs.front 1 rfl
    simp only [List.cons_append, List.nil_append, List.eraseIdx_cons_zero, List.eraseIdx_cons_succ] at hs
    exact Jm_panic_end (.inr ⟨_, rfl, e2, rfl, rfl, by assumption, hs⟩)
  · skip
    refine St_skip ?_
    refine Jm_end0 rfl ?_
    replace hs := hs.front 1 rfl
    simp only [List.cons_append, List.nil_append, List.eraseIdx_cons_zero, List.eraseIdx_cons_succ] at hs
    exact .inl ⟨_, rfl, rfl, (by show e2 = 0; omega), hs⟩
set_option maxRecDepth 100000 in
set_option maxHeartbeats 1000000 in
theorem bcatch_c (B w : World) (L : List Assn) (g2 ge bj : Nat) (p : Option Addr) (s : BSt) (Ab : Option Addr) (cb : Nat) (y : Value) (e0 : Int) (hs : Sat B w (Blk g2 [.pointer (some ⟨bj, 0, none⟩)] 47 :: Blk ge [y] 29 :: Blk bj (bcells p s Ab cb) 122 :: L)) :
    CallsD Try.prog 86 [.pointer (some ⟨g2, 0, none⟩), .pointer (some ⟨ge, 0, none⟩)].toArray (.panicking (pchain e0)) w (fun e u' w' => u' = .panicking [{ v := .iface 29 (.int .i64 e0), recovered := true }] ∧ (Ret (fun v' w' => v' = .tuple #[] ∧ Sat B w' (Blk g2 [.pointer (some ⟨bj, 0, none⟩)] 47 :: Blk ge [.int .i64 80] 29 :: Blk bj (bcells p { s with ended := true } Ab cb) 122 :: L))) e w') := by
  refine CallsD_rec Try.func86 rfl rfl rfl (envE_cons (i := 0) (v := .pointer (some ⟨g2, 0, none⟩)) rfl (envE_cons (i := 1) (v := .pointer (some ⟨ge, 0, none⟩)) rfl envE_nil)) rfl rfl ?_
  refine Ls_run (run_neq_iface_nil ⟨_, Try.underlying20⟩ rfl) rfl ?_
  refine Ls_nil ?_
  refine Jm_seq ?_
  refine St_ift rfl ?_
  refine St_seq ?_
  refine St_region ?_
  refine Ls_run (run_load sc47 rfl (hs.blk_at 0 rfl 0 rfl)) rfl ?_
  refine Ls_run (run_nilCheck rfl) rfl ?_
  refine Ls_run (run_as (run_field Try.underlying122 rfl inf4 (by decide) rfl) (show _ = Value.pointer (some ⟨bj, 4, none⟩) from rfl)) rfl ?_
  replace hs := hs.front 2 rfl
  simp only [List.cons_append, List.nil_append, List.eraseIdx_cons_zero, List.eraseIdx_cons_succ] at hs
  refine Ls_store hs inf4 rfl rfl rfl rfl ?_
  intro w2 hs
  try simp only [List.set_cons_zero, List.set_cons_succ] at hs
  refine Ls_nil ?_
  refine Jm_seq ?_
  refine St_region ?_
  replace hs := hs.front 2 rfl
  simp only [List.cons_append, List.nil_append, List.eraseIdx_cons_zero, List.eraseIdx_cons_succ] at hs
  refine Ls_store hs inf29 rfl rfl rfl rfl ?_
  intro w3 hs
  try simp only [List.set_cons_zero, List.set_cons_succ] at hs
  refine Ls_nil ?_
  refine Jm_end0 rfl ?_
  replace hs := hs.front 1 rfl
  simp only [List.cons_append, List.nil_append, List.eraseIdx_cons_zero, List.eraseIdx_cons_succ] at hs
  replace hs := hs.front 1 rfl
  simp only [List.cons_append, List.nil_append, List.eraseIdx_cons_zero, List.eraseIdx_cons_succ] at hs
  replace hs := hs.front 2 rfl
  simp only [List.cons_append, List.nil_append, List.eraseIdx_cons_zero, List.eraseIdx_cons_succ] at hs
  exact ⟨_, rfl, rfl, hs⟩
set_option maxRecDepth 100000 in
set_option maxHeartbeats 1000000 in
theorem bidle_c (B w : World) (L : List Assn) (p1 p2 : Value) (hs : Sat B w L) :
    CallsD Try.prog 86 [p1, p2].toArray (.returning) w (fun e u' w' => u' = .returning ∧ (Ret (fun v' w' => v' = .tuple #[] ∧ Sat B w' L)) e w') := by
  refine CallsD_rec Try.func86 rfl rfl rfl (envE_cons (i := 0) (v := p1) rfl (envE_cons (i := 1) (v := p2) rfl envE_nil)) rfl rfl ?_
  refine Ls_run (run_neq_nil_nil ⟨_, Try.underlying20⟩ rfl) rfl ?_
  refine Ls_nil ?_
  refine Jm_seq ?_
  refine St_iff rfl ?_
  refine St_skip ?_
  refine Jm_end0 rfl ?_
  exact ⟨_, rfl, rfl, hs⟩
end Go.Proofs.Ytipkfdeiallifaa.Lg
