/-
  Both Loads, the reference's copies and Image, what a disk that is none answers. By program (gen/disk9.py).
-/
import Derived.Test.YtipkfdeiallifaaDisk8
import Derived.Test.YtipkfdeiallifaaDisk5
import Derived.Test.YtipkfdeiallifaaFv
set_option linter.unusedVariables false
set_option linter.unusedSimpArgs false
namespace Go.Proofs.Ytipkfdeiallifaa.Lg
open Go Go.RowKit
/-- Whether a block is too long. -/
def dlong (bl : List (List Int)) : Bool := bl.any (fun r => decide (1024 < r.length))
theorem dlong_snoc {bl : List (List Int)} {i : Nat} (h : i < bl.length) : dlong (bl.take (i + 1)) = (dlong (bl.take i) || decide (1024 < (bl.getD i []).length)) := by
  rw [take_snoc4 (d := []) h]; simp [dlong]
theorem dlong_take {bl : List (List Int)} {i : Nat} (h : i < bl.length) (h1 : 1024 < (bl.getD i []).length) : dlong bl = true :=
  List.any_eq_true.2 ⟨_, getD_mem_bl h, decide_eq_true h1⟩
theorem dlong_all {bl : List (List Int)} {i : Nat} (h : bl.length ≤ i) (h1 : dlong (bl.take i) = false) : dlong bl = false := by rwa [List.take_of_length_le h] at h1
theorem dlong_ok {bl : List (List Int)} (h : dlong bl = false) : ∀ r ∈ bl, r.length ≤ 1024 := fun r hr => by
  have := List.any_eq_false.1 h r hr
  simpa using this
def dload (bl : List (List Int)) : DSt := ⟨bl, false, false, 0, 0, 0⟩
def rload (bl : List (List Int)) : RSt := ⟨bl, false, -1, 0, 0⟩
theorem alike_load (bl : List (List Int)) : Alike (dload bl) (rload bl) := ⟨rfl, rfl, rfl, rfl, by simp [rload], by simp [rload, dload], by simp [rload]⟩
set_option maxRecDepth 100000 in
set_option maxHeartbeats 1000000 in
theorem Load1_c (w : World) (A : Option Addr) (n c : Nat) :
    Calls Try.prog 108 [.slice A n c].toArray w (Ret (fun v' w' => w = w' ∧ v' = .bool (decide (1024 < n)))) := by
  refine Calls_body Try.func108 rfl rfl rfl (envE_cons (i := 0) (v := .slice A n c) rfl envE_nil) ?_
  refine St_seq ?_
  refine St_region ?_
  refine Ls_run (run_assign rfl) rfl ?_
  refine Ls_nil ?_
  refine Jm_seq ?_
  refine St_seq ?_
  refine St_region ?_
  refine Ls_run (run_move rfl) rfl ?_
  refine Ls_run (run_len Try.underlying28 rfl) rfl ?_
  refine Ls_run (run_gtr rfl rfl) rfl ?_
  refine Ls_run (run_assign rfl) rfl ?_
  refine Ls_nil ?_
  refine Jm_seq ?_
  refine St_ret ?_
  refine Jm_ret1 rfl rfl ?_
  exact ⟨_, rfl, rfl, by rw [decide_eq_decide.2 (show 1024 < (n : Int) ↔ 1024 < n by omega)]⟩
set_option maxRecDepth 100000 in
set_option maxHeartbeats 1000000 in
theorem IndexFunc_c (w : World) (A : Option Addr) (n c : Nat) (vs : List Value) (bl : List (List Int)) (hr : Rd w A n c 1 (El.val.flat vs)) (hp : PartsK (El.int .u8) w vs bl) (hn : n ≤ 9223372036854775807) :
    Calls Try.prog 122 [.slice A n c, .func (.func 108) #[] #[]].toArray w (Ret (fun v' w' => ∃ k : Int, v' = .int .i64 k ∧ decide (0 ≤ k) = dlong bl ∧ Sat w w' [])) := by
  have hs := Sat.start w
  have hvl : vs.length = n := by have := hr.len; rw [El.flat_length] at this; simpa [El.val] using this
  have hbl : bl.length = n := by have := hp.1; omega
  refine Calls_body Try.func122 rfl rfl rfl (envE_cons (i := 0) (v := .slice A n c) rfl (envE_cons (i := 1) (v := .func (.func 108) #[] #[]) rfl envE_nil)) ?_
  refine St_seq ?_
  refine St_region ?_
  refine Ls_run (run_assign rfl) rfl ?_
  refine Ls_nil ?_
  refine Jm_seq ?_
  refine St_seq ?_
  refine St_seq ?_
  refine St_region ?_
  refine Ls_run (run_move rfl) rfl ?_
  refine Ls_run (run_len Try.underlying55 rfl) rfl ?_
  refine Ls_run (run_move rfl) rfl ?_
  refine Ls_nil ?_
  refine Jm_seq ?_
  refine St_block ?_
  obtain ⟨En1, hEn1⟩ : ∃ F : Nat → Env, ∀ (i : Nat), F i = [(0, .slice A n c), (1, .func (.func 108) #[] #[]), (7, .int .i64 (n : Int)), (8, .int .i64 (i : Int))] := ⟨(fun (i : Nat) => [(0, .slice A n c), (1, .func (.func 108) #[] #[]), (7, .int .i64 (n : Int)), (8, .int .i64 (i : Int))]), fun _ => rfl⟩
  obtain ⟨Iv2, hIv2⟩ : ∃ F : Nat → World → Prop, ∀ (i : Nat) (wr : World), F i wr = (Sat w wr [] ∧ i ≤ n ∧ dlong (bl.take i) = false) := ⟨(fun (i : Nat) => fun (wr : World) => Sat w wr [] ∧ i ≤ n ∧ dlong (bl.take i) = false), fun _ _ => rfl⟩
  obtain ⟨ms3, hms3⟩ : ∃ F : Nat → Nat, ∀ (i : Nat), F i = (n - i) := ⟨(fun (i : Nat) => n - i), fun _ => rfl⟩
  refine St_loop En1 Iv2 ms3 (0) ?_ ?_ ?_
  · skip
    rw [hIv2]
    exact ⟨hs, by omega, rfl⟩
  · rw [hEn1]; exact (subE_cons rfl (subE_cons rfl (subE_cons rfl (subE_cons rfl subE_nil))))
  rintro i wr hI4
  rw [hIv2] at hI4
  obtain ⟨hs, hi, hlo⟩ := hI4
  refine St_eqE (hEn1 _) ?_
  refine St_seq ?_
  refine St_region ?_
  refine Ls_run (run_lss rfl rfl) rfl ?_
  refine Ls_nil ?_
  refine Jm_seq ?_
  refine St_seq ?_
  refine St_ifP rfl (fun h5 => ?_) (fun h5 => ?_)
  · skip
    refine St_skip ?_
    refine Jm_seq ?_
    refine St_seq ?_
    refine St_block ?_
    refine St_seq ?_
    refine St_region ?_
    refine Ls_run (run_move rfl) rfl ?_
    refine Ls_run (run_assign rfl) rfl ?_
    refine Ls_nil ?_
    refine Jm_seq ?_
    refine St_seq ?_
    refine St_region ?_
    refine Ls_run (run_move rfl) rfl ?_
    refine Ls_run (run_move rfl) rfl ?_
    refine Ls_run (run_move rfl) rfl ?_
    obtain ⟨Ai, ni, ci, hvi, hri⟩ := hp.2 i (by omega)
    rw [← bytesV_flat] at hri
    have hmi := rdB_len hri
    refine Ls_index (El.val) (hr.inB hs) Try.underlying55 inf28 rfl rfl (by omega) (by omega) hvi rfl ?_
    intro b6 o7 hc8
    refine Ls_run (run_load sc28 rfl (hc8 0 _ rfl)) rfl ?_
    refine Ls_callv (cap := []) Try.func108 nm108 rfl rfl rfl (Load1_c wr Ai ni ci) rfl ?_
    rintro v9 w10 ⟨rfl, rfl⟩
    refine Ls_nil ?_
    refine Jm_seq ?_
    refine St_ifP rfl (fun h11 => ?_) (fun h11 => ?_)
    · skip
      refine St_seq ?_
      refine St_region ?_
      refine Ls_run (run_move rfl) rfl ?_
      refine Ls_run (run_assign rfl) rfl ?_
      refine Ls_nil ?_
      refine Jm_seq ?_
      refine St_ret ?_
      refine Jm_block_ret (Jm_then_ret (Jm_then_ret (Jm_block_ret (Jm_then_ret  ?_))))
      refine Jm_ret1 rfl rfl ?_
      exact ⟨_, rfl, _, rfl, by rw [decide_eq_true (by omega), dlong_take (i := i) (by omega) (by omega)], hs⟩
    · skip
      refine St_skip ?_
      refine Jm_block_normal (Jm_seq ?_)
      refine St_region ?_
      refine Ls_run (run_add rfl rfl (w64 (by omega))) rfl ?_
      refine Ls_run (run_move rfl) rfl ?_
      refine Ls_nil ?_
      refine Jm_round (i + 1) ?_ ?_ ?_
      · rw [hEn1]; exact (subE_cons rfl (subE_cons rfl (subE_cons rfl (subE_cons rfl subE_nil))))
      · skip
        rw [hIv2]
        refine ⟨hs, by omega, ?_⟩
        rw [dlong_snoc (by omega), hlo, decide_eq_false (by omega)]; rfl
      · skip
        rw [hms3, hms3]
        omega
  · skip
    refine St_exit ?_
    refine Jm_then_exit (Jm_then_exit (Jm_block_same (Jm_seq ?_)))
    refine St_seq ?_
    refine St_region ?_
    refine Ls_run (run_assign rfl) rfl ?_
    refine Ls_nil ?_
    refine Jm_seq ?_
    refine St_ret ?_
    refine Jm_ret1 rfl rfl ?_
    exact ⟨_, rfl, _, rfl, by rw [decide_eq_false (by omega), dlong_all (by omega) hlo], hs⟩
set_option maxRecDepth 100000 in
set_option maxHeartbeats 1000000 in
theorem ContainsFunc_c (w : World) (A : Option Addr) (n c : Nat) (vs : List Value) (bl : List (List Int)) (hr : Rd w A n c 1 (El.val.flat vs)) (hp : PartsK (El.int .u8) w vs bl) (hn : n ≤ 9223372036854775807) :
    Calls Try.prog 107 [.slice A n c, .func (.func 108) #[] #[]].toArray w (Ret (fun v' w' => v' = .bool (dlong bl) ∧ Sat w w' [])) := by
  have hs := Sat.start w
  have hvl : vs.length = n := by have := hr.len; rw [El.flat_length] at this; simpa [El.val] using this
  have hbl : bl.length = n := by have := hp.1; omega
  refine Calls_body Try.func107 rfl rfl rfl (envE_cons (i := 0) (v := .slice A n c) rfl (envE_cons (i := 1) (v := .func (.func 108) #[] #[]) rfl envE_nil)) ?_
  refine St_seq ?_
  refine St_region ?_
  refine Ls_run (run_assign rfl) rfl ?_
  refine Ls_nil ?_
  refine Jm_seq ?_
  refine St_seq ?_
  refine St_region ?_
  refine Ls_run (run_move rfl) rfl ?_
  refine Ls_run (run_move rfl) rfl ?_
  refine Ls_call Try.func122 nm122 rfl rfl (IndexFunc_c w A n c vs bl (hr.inB hs) (hp.inB hs) hn) rfl ?_
  rintro v1 w2 ⟨k, rfl, hk, hsI⟩
  replace hs := hs.trans hsI
  simp only [List.nil_append] at hs
  refine Ls_run (run_geq rfl rfl) rfl ?_
  refine Ls_run (run_assign rfl) rfl ?_
  refine Ls_nil ?_
  refine Jm_seq ?_
  refine St_ret ?_
  refine Jm_ret1 rfl rfl ?_
  exact ⟨_, rfl, by rw [← hk], hs⟩
set_option maxRecDepth 100000 in
set_option maxHeartbeats 1000000 in
theorem Load_c (w : World) (A : Option Addr) (n c : Nat) (vs : List Value) (bl : List (List Int)) (hr : Rd w A n c 1 (El.val.flat vs)) (hp : PartsK (El.int .u8) w vs bl) (hn1 : 1 ≤ n) (hn2 : n ≤ 64) (hlo : dlong bl = false) :
    Calls Try.prog 59 [.slice A n c].toArray w (Ret (fun v' w' => ∃ b, v' = .tuple #[.pointer (some ⟨b, 0, none⟩), .int .i64 0] ∧ Sat w w' [DiskA 129 28 5 b (dload bl)])) := by
  have hs := Sat.start w
  have hvl : vs.length = n := by have := hr.len; rw [El.flat_length] at this; simpa [El.val] using this
  have hbl : bl.length = n := by have := hp.1; omega
  refine Calls_body Try.func59 rfl rfl rfl (envE_cons (i := 0) (v := .slice A n c) rfl envE_nil) ?_
  refine St_seq ?_
  refine St_region ?_
  refine Ls_run (run_assign rfl) rfl ?_
  refine Ls_run (run_assign rfl) rfl ?_
  refine Ls_nil ?_
  refine Jm_seq ?_
  refine St_seq ?_
  refine St_region ?_
  refine Ls_run (run_move rfl) rfl ?_
  refine Ls_run (run_len Try.underlying55 rfl) rfl ?_
  refine Ls_call Try.func38 nm38 rfl rfl (New_c w n hn1 hn2) rfl ?_
  rintro v1 w2 ⟨b, rfl, hsD⟩
  replace hs := hs.trans hsD
  simp only [List.cons_append, List.nil_append] at hs
  refine Ls_run (run_move rfl) rfl ?_
  refine Ls_run (run_extract rfl rfl) rfl ?_
  refine Ls_run (run_extract rfl rfl) rfl ?_
  refine Ls_run (run_assign rfl) rfl ?_
  refine Ls_run (run_assign rfl) rfl ?_
  refine Ls_nil ?_
  refine Jm_seq ?_
  refine St_seq ?_
  refine St_seq ?_
  refine St_region ?_
  refine Ls_run (run_move rfl) rfl ?_
  refine Ls_run (run_asB (c := false) (run_neq rfl rfl) (by decide)) rfl ?_
  refine Ls_nil ?_
  refine Jm_seq ?_
  refine St_iff rfl ?_
  refine St_skip ?_
  refine Jm_seq ?_
  refine St_seq ?_
  refine St_seq ?_
  refine St_region ?_
  refine Ls_run (run_move rfl) rfl ?_
  refine Ls_call Try.func107 nm107 rfl rfl (ContainsFunc_c w2 A n c vs bl (hr.inB hs) (hp.inB hs) (by omega)) rfl ?_
  rintro v4 w5 ⟨rfl, hsI⟩
  replace hs := hs.trans hsI
  simp only [List.nil_append] at hs
  rw [hlo]
  refine Ls_nil ?_
  refine Jm_seq ?_
  refine St_iff rfl ?_
  refine St_skip ?_
  refine Jm_seq ?_
  refine St_seq ?_
  refine St_region ?_
  refine Ls_run (run_move rfl) rfl ?_
  refine Ls_run (run_move rfl) rfl ?_
  refine Ls_call Try.func91 nm91 rfl rfl (copies_c w5 A n c vs bl (hr.inB hs) (hp.inB hs) (dlong_ok hlo) hn2) rfl ?_
  rintro v7 w9 ⟨Ac, cc, vc, rfl, hvc, hsC⟩
  replace hs := hs.trans hsC
  replace hs := hs.rotL
  simp only [List.cons_append, List.nil_append] at hs
  replace hs := hs.front 1 rfl
  simp only [List.eraseIdx_cons_zero, List.eraseIdx_cons_succ] at hs
  obtain ⟨vs0, A0, c0, hv0, hs⟩ := hs.dopen
  replace hs := hs.erase 1
  simp only [List.cons_append, List.eraseIdx_cons_zero, List.eraseIdx_cons_succ] at hs
  replace hs := Sat.pre (L1 := _ :: _ :: rowsA _ _ _ _) hs
  refine Ls_run (run_nilCheck rfl) rfl ?_
  refine Ls_run (run_as (run_field Try.underlying129 rfl inf55 (by decide) rfl) (show _ = Value.pointer (some ⟨b, 0, none⟩) from rfl)) rfl ?_
  refine Ls_store hs inf55 rfl rfl rfl rfl ?_
  intro w10 hs
  try simp only [List.set_cons_zero, List.set_cons_succ] at hs
  refine Ls_nil ?_
  refine Jm_seq ?_
  refine St_seq ?_
  refine St_region ?_
  refine Ls_run (run_move rfl) rfl ?_
  refine Ls_run (run_assign rfl) rfl ?_
  refine Ls_run (run_assign rfl) rfl ?_
  refine Ls_nil ?_
  refine Jm_seq ?_
  refine St_ret ?_
  refine Jm_ret2 rfl rfl rfl ?_
  exact ⟨_, rfl, b, rfl, Sat.dshut (s := dload bl) (vs := vc) (A := Ac) (c := cc) (L := []) (by simp [dload]; omega) (by simp only [dload, hbl, dcells] at hs ⊢; exact hs)⟩
set_option maxRecDepth 100000 in
set_option maxHeartbeats 1000000 in
theorem Load_long (w : World) (A : Option Addr) (n c : Nat) (vs : List Value) (bl : List (List Int)) (hr : Rd w A n c 1 (El.val.flat vs)) (hp : PartsK (El.int .u8) w vs bl) (hn1 : 1 ≤ n) (hn2 : n ≤ 64) (hlo : dlong bl = true) :
    Calls Try.prog 59 [.slice A n c].toArray w (Ret (fun v' w' => v' = .tuple #[.pointer none, .int .i64 6] ∧ Sat w w' [])) := by
  have hs := Sat.start w
  have hvl : vs.length = n := by have := hr.len; rw [El.flat_length] at this; simpa [El.val] using this
  have hbl : bl.length = n := by have := hp.1; omega
  refine Calls_body Try.func59 rfl rfl rfl (envE_cons (i := 0) (v := .slice A n c) rfl envE_nil) ?_
  refine St_seq ?_
  refine St_region ?_
  refine Ls_run (run_assign rfl) rfl ?_
  refine Ls_run (run_assign rfl) rfl ?_
  refine Ls_nil ?_
  refine Jm_seq ?_
  refine St_seq ?_
  refine St_region ?_
  refine Ls_run (run_move rfl) rfl ?_
  refine Ls_run (run_len Try.underlying55 rfl) rfl ?_
  refine Ls_call Try.func38 nm38 rfl rfl (New_c w n hn1 hn2) rfl ?_
  rintro v1 w2 ⟨b, rfl, hsD⟩
  replace hs := hs.trans hsD
  simp only [List.cons_append, List.nil_append] at hs
  refine Ls_run (run_move rfl) rfl ?_
  refine Ls_run (run_extract rfl rfl) rfl ?_
  refine Ls_run (run_extract rfl rfl) rfl ?_
  refine Ls_run (run_assign rfl) rfl ?_
  refine Ls_run (run_assign rfl) rfl ?_
  refine Ls_nil ?_
  refine Jm_seq ?_
  refine St_seq ?_
  refine St_seq ?_
  refine St_region ?_
  refine Ls_run (run_move rfl) rfl ?_
  refine Ls_run (run_asB (c := false) (run_neq rfl rfl) (by decide)) rfl ?_
  refine Ls_nil ?_
  refine Jm_seq ?_
  refine St_iff rfl ?_
  refine St_skip ?_
  refine Jm_seq ?_
  refine St_seq ?_
  refine St_seq ?_
  refine St_region ?_
  refine Ls_run (run_move rfl) rfl ?_
  refine Ls_call Try.func107 nm107 rfl rfl (ContainsFunc_c w2 A n c vs bl (hr.inB hs) (hp.inB hs) (by omega)) rfl ?_
  rintro v4 w5 ⟨rfl, hsI⟩
  replace hs := hs.trans hsI
  simp only [List.nil_append] at hs
  rw [hlo]
  refine Ls_nil ?_
  refine Jm_seq ?_
  refine St_ift rfl ?_
  refine St_seq ?_
  refine St_region ?_
  refine Ls_run (run_assign rfl) rfl ?_
  refine Ls_run (run_assign rfl) rfl ?_
  refine Ls_nil ?_
  refine Jm_seq ?_
  refine St_ret ?_
  refine Jm_then_ret  ?_
  refine Jm_ret2 rfl rfl rfl ?_
  exact ⟨_, rfl, rfl, hs.tail⟩
set_option maxRecDepth 100000 in
set_option maxHeartbeats 1000000 in
theorem Load_arg (w : World) (A : Option Addr) (n c : Nat) (h : n < 1 ∨ 64 < n) (hn : n ≤ 9223372036854775807) :
    Calls Try.prog 59 [.slice A n c].toArray w (Ret (fun v' w' => w = w' ∧ v' = .tuple #[.pointer none, .int .i64 1])) := by
  refine Calls_body Try.func59 rfl rfl rfl (envE_cons (i := 0) (v := .slice A n c) rfl envE_nil) ?_
  refine St_seq ?_
  refine St_region ?_
  refine Ls_run (run_assign rfl) rfl ?_
  refine Ls_run (run_assign rfl) rfl ?_
  refine Ls_nil ?_
  refine Jm_seq ?_
  refine St_seq ?_
  refine St_region ?_
  refine Ls_run (run_move rfl) rfl ?_
  refine Ls_run (run_len Try.underlying55 rfl) rfl ?_
  refine Ls_call Try.func38 nm38 rfl rfl (New_bad w (n : Int) (by omega)) rfl ?_
  rintro v1 w2 ⟨rfl, rfl⟩
  refine Ls_run (run_move rfl) rfl ?_
  refine Ls_run (run_extract rfl rfl) rfl ?_
  refine Ls_run (run_extract rfl rfl) rfl ?_
  refine Ls_run (run_assign rfl) rfl ?_
  refine Ls_run (run_assign rfl) rfl ?_
  refine Ls_nil ?_
  refine Jm_seq ?_
  refine St_seq ?_
  refine St_seq ?_
  refine St_region ?_
  refine Ls_run (run_move rfl) rfl ?_
  refine Ls_run (run_asB (c := true) (run_neq rfl rfl) (by decide)) rfl ?_
  refine Ls_nil ?_
  refine Jm_seq ?_
  refine St_ift rfl ?_
  refine St_seq ?_
  refine St_region ?_
  refine Ls_run (run_move rfl) rfl ?_
  refine Ls_run (run_assign rfl) rfl ?_
  refine Ls_run (run_assign rfl) rfl ?_
  refine Ls_nil ?_
  refine Jm_seq ?_
  refine St_ret ?_
  refine Jm_then_ret  ?_
  refine Jm_ret2 rfl rfl rfl ?_
  exact ⟨_, rfl, rfl, rfl⟩
set_option maxRecDepth 100000 in
set_option maxHeartbeats 1000000 in
theorem rcopies_c (w : World) (A : Option Addr) (n c : Nat) (vs : List Value) (bl : List (List Int)) (hr : Rd w A n c 1 (El.val.flat vs)) (hp : PartsK (El.int .u8) w vs bl) (hx : ∀ r ∈ bl, r.length ≤ 1024) (hn : n ≤ 64) :
    Calls Try.prog 106 [.slice A n c].toArray w (Ret (fun v' w' => ∃ A' c' vs', v' = .slice A' n c' ∧ vs'.length = n ∧ Sat w w' (Own 28 1 (.slice A' n c') n (El.val.flat vs') :: rowsA 5 (El.int .u8) vs' bl))) := by
  have hs := Sat.start w
  have hvl : vs.length = n := by have := hr.len; rw [El.flat_length] at this; simpa [El.val] using this
  have hbl : bl.length = n := by have := hp.1; omega
  refine Calls_body Try.func106 rfl rfl rfl (envE_cons (i := 0) (v := .slice A n c) rfl envE_nil) ?_
  refine St_seq ?_
  refine St_region ?_
  refine Ls_run (run_assign rfl) rfl ?_
  refine Ls_nil ?_
  refine Jm_seq ?_
  refine St_seq ?_
  refine St_region ?_
  refine Ls_literal [] hs Try.underlying55 inf28 rfl rfl rfl rfl rfl rfl ?_
  intro b1 w2 hs
  simp only [List.flatMap_cons, List.flatMap_nil, Value.cells, List.cons_append, List.nil_append] at hs
  replace hs := Sat.own_block hs 1 0 rfl (by decide)
  refine Ls_run (run_assign rfl) rfl ?_
  refine Ls_nil ?_
  refine Jm_seq ?_
  refine St_seq ?_
  refine St_seq ?_
  refine St_region ?_
  refine Ls_run (run_assign rfl) rfl ?_
  refine Ls_nil ?_
  refine Jm_seq ?_
  refine St_block ?_
  obtain ⟨En3, hEn3⟩ : ∃ F : Nat × List Value × Value → Env, ∀ (i : Nat) (ws : List Value) (ov : Value), F (i, ws, ov) = [(0, .slice A n c), (3, ov), (4, .int .i64 (i : Int))] := ⟨(fun (s : Nat × List Value × Value) => match s with | (i, ws, ov) => [(0, .slice A n c), (3, ov), (4, .int .i64 (i : Int))]), fun _ _ _ => rfl⟩
  obtain ⟨Iv4, hIv4⟩ : ∃ F : Nat × List Value × Value → World → Prop, ∀ (i : Nat) (ws : List Value) (ov : Value) (wr : World), F (i, ws, ov) wr = (Sat w wr (Own 28 1 ov i (El.val.flat ws) :: rowsA 5 (El.int .u8) ws (bl.take i)) ∧ i ≤ n ∧ ws.length = i ∧ ∃ A c, ov = .slice A i c) := ⟨(fun (s : Nat × List Value × Value) => match s with | (i, ws, ov) => fun (wr : World) => Sat w wr (Own 28 1 ov i (El.val.flat ws) :: rowsA 5 (El.int .u8) ws (bl.take i)) ∧ i ≤ n ∧ ws.length = i ∧ ∃ A c, ov = .slice A i c), fun _ _ _ _ => rfl⟩
  obtain ⟨ms5, hms5⟩ : ∃ F : Nat × List Value × Value → Nat, ∀ (i : Nat) (ws : List Value) (ov : Value), F (i, ws, ov) = (n - i) := ⟨(fun (s : Nat × List Value × Value) => match s with | (i, ws, ov) => n - i), fun _ _ _ => rfl⟩
  refine St_loop En3 Iv4 ms5 (0, [], (Value.slice (some ⟨b1, 0, none⟩) 0 0)) ?_ ?_ ?_
  · skip
    rw [hIv4]
    exact ⟨hs, by omega, rfl, _, _, rfl⟩
  · rw [hEn3]; exact (subE_cons rfl (subE_cons rfl (subE_cons rfl subE_nil)))
  rintro ⟨i, ws, ov⟩ wr hI6
  rw [hIv4] at hI6
  obtain ⟨hs, hi, hws, Ao, co, hov⟩ := hI6
  refine St_eqE (hEn3 _ _ _) ?_
  subst hov
  refine St_seq ?_
  refine St_seq ?_
  refine St_region ?_
  refine Ls_run (run_move rfl) rfl ?_
  refine Ls_run (run_move rfl) rfl ?_
  refine Ls_run (run_len Try.underlying55 rfl) rfl ?_
  refine Ls_run (run_lss rfl rfl) rfl ?_
  refine Ls_nil ?_
  refine Jm_seq ?_
  refine St_ifP rfl (fun h7 => ?_) (fun h7 => ?_)
  · skip
    refine St_skip ?_
    refine Jm_seq ?_
    refine St_seq ?_
    refine St_block ?_
    refine St_region ?_
    refine Ls_run (run_move rfl) rfl ?_
    refine Ls_run (run_move rfl) rfl ?_
    refine Ls_run (run_move rfl) rfl ?_
    obtain ⟨Ai, ni, ci, hvi, hri⟩ := hp.2 i (by omega)
    rw [← bytesV_flat] at hri
    have hmi := rdB_len hri
    have hxi := hx _ (getD_mem_bl (i := i) (ls := bl) (by omega))
    refine Ls_index (El.val) (hr.inB hs) Try.underlying55 inf28 rfl rfl (by omega) (by omega) hvi rfl ?_
    intro b8 o9 hc10
    refine Ls_run (run_load sc28 rfl (hc10 0 _ rfl)) rfl ?_
    refine Ls_call Try.func120 nm120 rfl rfl (copied_c wr Ai ni ci (bl.getD i []) (hri.inB hs) (by omega)) rfl ?_
    rintro v11 w12 ⟨Ac, cc, rfl, hsC⟩
    replace hs := hs.trans hsC
    simp only [List.cons_append, List.nil_append] at hs
    refine Ls_literal [_] hs Try.underlying55 inf28 rfl rfl rfl rfl rfl rfl ?_
    intro b13 w14 hs
    simp only [List.flatMap_cons, List.flatMap_nil, Value.cells, List.cons_append, List.nil_append] at hs
    replace hs := hs.front 2 rfl
    simp only [List.cons_append, List.nil_append, List.eraseIdx_cons_zero, List.eraseIdx_cons_succ] at hs
    refine Ls_append hs Try.underlying55 inf28 rfl (by decide) (by decide) rfl rfl (rd_block (hs.is_at 1 rfl).2 1 1 rfl) (by simp [El.val, El.flat, Value.oneCell']) (by omega) rfl ?_
    intro A15 c16 w17 hs
    replace hs := hs.erase 1
    simp only [List.cons_append, List.nil_append, List.eraseIdx_cons_zero, List.eraseIdx_cons_succ] at hs
    replace hs := hs.front 1 rfl
    simp only [List.cons_append, List.nil_append, List.eraseIdx_cons_zero, List.eraseIdx_cons_succ] at hs
    replace hs := hs.front 1 rfl
    simp only [List.cons_append, List.nil_append, List.eraseIdx_cons_zero, List.eraseIdx_cons_succ] at hs
    replace hs := hs.front 1 rfl
    simp only [List.cons_append, List.eraseIdx_cons_zero, List.eraseIdx_cons_succ] at hs
    have hs5 := Sat.row_add (pre := [_]) (bl.getD i []) hs hmi.symm (bytesV_flat _) (by rw [List.length_take]; omega)
    replace hs := hs5
    simp only [List.cons_append, List.nil_append] at hs
    have eF : El.val.flat ws ++ [Value.slice Ac ni cc] = El.val.flat (ws ++ [Value.slice Ac ni cc]) := by rw [El.val_flat, El.val_flat]
    rw [eF] at hs
    refine Ls_run (run_assign rfl) rfl ?_
    refine Ls_nil ?_
    refine Jm_block_normal (Jm_seq ?_)
    refine St_region ?_
    refine Ls_run (run_move rfl) rfl ?_
    refine Ls_run (run_add rfl rfl (w64 (by omega))) rfl ?_
    refine Ls_run (run_assign rfl) rfl ?_
    refine Ls_nil ?_
    refine Jm_round (i + 1, ws ++ [Value.slice Ac ni cc], (.slice A15 (i + 1) c16)) ?_ ?_ ?_
    · rw [hEn3]; exact (subE_cons rfl (subE_cons rfl (subE_cons rfl subE_nil)))
    · skip
      rw [hIv4]
      refine ⟨?_, by omega, by simp [hws], _, _, rfl⟩
      rw [take_snoc4 (d := []) (by omega)]
      exact hs
    · skip
      rw [hms5, hms5]
      omega
  · skip
    refine St_exit ?_
    refine Jm_then_exit (Jm_then_exit (Jm_block_same (Jm_seq ?_)))
    refine St_seq ?_
    refine St_region ?_
    refine Ls_run (run_move rfl) rfl ?_
    refine Ls_run (run_assign rfl) rfl ?_
    refine Ls_nil ?_
    refine Jm_seq ?_
    refine St_ret ?_
    refine Jm_ret1 rfl rfl ?_
    have hi9 : i = n := by omega
    rw [hi9, ← hbl, List.take_length, hbl] at hs
    exact ⟨_, by rw [hi9], _, _, ws, rfl, by omega, hs⟩
set_option maxRecDepth 100000 in
set_option maxHeartbeats 1000000 in
theorem rImage_c (B w : World) (L : List Assn) (b : Nat) (s : RSt) (hs : Sat B w (RefA 135 28 5 b s :: L)) (hok : ∀ r ∈ s.bl, r.length ≤ 1024) (hln : s.bl.length ≤ 64) :
    Calls Try.prog 58 [.pointer (some ⟨b, 0, none⟩)].toArray w (Ret (fun v' w' => ∃ A c vs, v' = .slice A s.bl.length c ∧ vs.length = s.bl.length ∧ Sat B w' ((Own 28 1 (.slice A s.bl.length c) s.bl.length (El.val.flat vs) :: rowsA 5 (El.int .u8) vs s.bl) ++ (RefA 135 28 5 b s :: L)))) := by
  obtain ⟨vs, Ao, co, hvs, hs⟩ := hs.ropen
  refine Calls_body Try.func58 rfl rfl rfl (envE_cons (i := 0) (v := .pointer (some ⟨b, 0, none⟩)) rfl envE_nil) ?_
  refine St_seq ?_
  refine St_region ?_
  refine Ls_run (run_assign rfl) rfl ?_
  refine Ls_nil ?_
  refine Jm_seq ?_
  refine St_seq ?_
  refine St_seq ?_
  refine St_region ?_
  refine Ls_run (run_move rfl) rfl ?_
  refine Ls_run (run_asB (c := false) (run_eql_ptr_nil Try.underlying71 rfl rfl) rfl) rfl ?_
  refine Ls_nil ?_
  refine Jm_seq ?_
  refine St_iff rfl ?_
  refine St_skip ?_
  refine Jm_seq ?_
  refine St_seq ?_
  refine St_region ?_
  refine Ls_run (run_move rfl) rfl ?_
  refine Ls_run (run_nilCheck rfl) rfl ?_
  refine Ls_run (run_as (run_field Try.underlying135 rfl inf55 (by decide) rfl) (show _ = Value.pointer (some ⟨b, 0, none⟩) from rfl)) rfl ?_
  refine Ls_run (run_load sc55 rfl (hs.blk_at 0 rfl 0 rfl)) rfl ?_
  refine Ls_call Try.func106 nm106 rfl rfl (rcopies_c w Ao s.bl.length co vs s.bl (hs.rd_at 1 rfl) (Sat.parts (pre := _ :: _ :: L) hs hvs) hok hln) rfl ?_
  rintro v2 w3 ⟨Ac, cc, vc, rfl, hvc, hsC⟩
  have hs5 := (hs.rshut hvs).trans hsC
  refine Ls_run (run_assign rfl) rfl ?_
  refine Ls_nil ?_
  refine Jm_seq ?_
  refine St_ret ?_
  refine Jm_ret1 rfl rfl ?_
  exact ⟨_, rfl, Ac, cc, vc, rfl, hvc, hs5⟩
set_option maxRecDepth 100000 in
set_option maxHeartbeats 1000000 in
theorem rLoad_c (w : World) (A : Option Addr) (n c : Nat) (vs : List Value) (bl : List (List Int)) (hr : Rd w A n c 1 (El.val.flat vs)) (hp : PartsK (El.int .u8) w vs bl) (hn1 : 1 ≤ n) (hn2 : n ≤ 64) (hlo : dlong bl = false) :
    Calls Try.prog 60 [.slice A n c].toArray w (Ret (fun v' w' => ∃ b, v' = .tuple #[.pointer (some ⟨b, 0, none⟩), .int .i64 0] ∧ Sat w w' [RefA 135 28 5 b (rload bl)])) := by
  have hs := Sat.start w
  have hvl : vs.length = n := by have := hr.len; rw [El.flat_length] at this; simpa [El.val] using this
  have hbl : bl.length = n := by have := hp.1; omega
  refine Calls_body Try.func60 rfl rfl rfl (envE_cons (i := 0) (v := .slice A n c) rfl envE_nil) ?_
  refine St_seq ?_
  refine St_region ?_
  refine Ls_run (run_assign rfl) rfl ?_
  refine Ls_run (run_assign rfl) rfl ?_
  refine Ls_nil ?_
  refine Jm_seq ?_
  refine St_seq ?_
  refine St_seq ?_
  refine St_region ?_
  refine Ls_run (run_move rfl) rfl ?_
  refine Ls_run (run_len Try.underlying55 rfl) rfl ?_
  refine Ls_run (run_lss rfl rfl) rfl ?_
  refine Ls_run (run_move rfl) rfl ?_
  refine Ls_partP (t := 8) rfl (fun h1 => ?_) (fun h1 => ?_)
  · skip
    exfalso; omega
  · skip
    refine Ls_on rfl rfl ?_
    refine Ls_run (run_move rfl) rfl ?_
    refine Ls_on rfl rfl ?_
    refine Ls_run (run_len Try.underlying55 rfl) rfl ?_
    refine Ls_on rfl rfl ?_
    refine Ls_run (run_gtr rfl rfl) rfl ?_
    refine Ls_run (run_pick_f rfl rfl) rfl ?_
    refine Ls_nil ?_
    refine Jm_seq ?_
    refine St_ifP rfl (fun h2 => ?_) (fun h2 => ?_)
    · skip
      exfalso; omega
    · skip
      refine St_skip ?_
      refine Jm_seq ?_
      refine St_seq ?_
      refine St_seq ?_
      refine St_region ?_
      refine Ls_run (run_assign rfl) rfl ?_
      refine Ls_nil ?_
      refine Jm_seq ?_
      refine St_block ?_
      obtain ⟨En3, hEn3⟩ : ∃ F : Nat → Env, ∀ (i : Nat), F i = [(0, .slice A n c), (4, .int .i64 (i : Int))] := ⟨(fun (i : Nat) => [(0, .slice A n c), (4, .int .i64 (i : Int))]), fun _ => rfl⟩
      obtain ⟨Iv4, hIv4⟩ : ∃ F : Nat → World → Prop, ∀ (i : Nat) (wr : World), F i wr = (Sat w wr [] ∧ i ≤ n ∧ dlong (bl.take i) = false) := ⟨(fun (i : Nat) => fun (wr : World) => Sat w wr [] ∧ i ≤ n ∧ dlong (bl.take i) = false), fun _ _ => rfl⟩
      obtain ⟨ms5, hms5⟩ : ∃ F : Nat → Nat, ∀ (i : Nat), F i = (n - i) := ⟨(fun (i : Nat) => n - i), fun _ => rfl⟩
      refine St_loop En3 Iv4 ms5 (0) ?_ ?_ ?_
      · skip
        rw [hIv4]
        exact ⟨hs, by omega, rfl⟩
      · rw [hEn3]; exact (subE_cons rfl (subE_cons rfl subE_nil))
      rintro i wr hI6
      rw [hIv4] at hI6
      obtain ⟨hs, hi, hlt⟩ := hI6
      refine St_eqE (hEn3 _) ?_
      refine St_seq ?_
      refine St_seq ?_
      refine St_region ?_
      refine Ls_run (run_move rfl) rfl ?_
      refine Ls_run (run_move rfl) rfl ?_
      refine Ls_run (run_len Try.underlying55 rfl) rfl ?_
      refine Ls_run (run_lss rfl rfl) rfl ?_
      refine Ls_nil ?_
      refine Jm_seq ?_
      refine St_ifP rfl (fun h7 => ?_) (fun h7 => ?_)
      · skip
        refine St_skip ?_
        refine Jm_seq ?_
        refine St_seq ?_
        refine St_block ?_
        refine St_seq ?_
        refine St_region ?_
        refine Ls_run (run_move rfl) rfl ?_
        refine Ls_run (run_move rfl) rfl ?_
        obtain ⟨Ai, ni, ci, hvi, hri⟩ := hp.2 i (by omega)
        rw [← bytesV_flat] at hri
        have hmi := rdB_len hri
        refine Ls_index (El.val) (hr.inB hs) Try.underlying55 inf28 rfl rfl (by omega) (by omega) hvi rfl ?_
        intro b8 o9 hc10
        refine Ls_run (run_load sc28 rfl (hc10 0 _ rfl)) rfl ?_
        refine Ls_run (run_len Try.underlying28 rfl) rfl ?_
        refine Ls_run (run_gtr rfl rfl) rfl ?_
        refine Ls_nil ?_
        refine Jm_seq ?_
        refine St_ifP rfl (fun h11 => ?_) (fun h11 => ?_)
        · skip
          have hlx := dlong_take (i := i) (bl := bl) (by omega) (by omega)
          rw [hlo] at hlx; cases hlx
        · skip
          refine St_skip ?_
          refine Jm_block_normal (Jm_seq ?_)
          refine St_region ?_
          refine Ls_run (run_move rfl) rfl ?_
          refine Ls_run (run_add rfl rfl (w64 (by omega))) rfl ?_
          refine Ls_run (run_assign rfl) rfl ?_
          refine Ls_nil ?_
          refine Jm_round (i + 1) ?_ ?_ ?_
          · rw [hEn3]; exact (subE_cons rfl (subE_cons rfl subE_nil))
          · skip
            rw [hIv4]
            refine ⟨hs, by omega, ?_⟩
            rw [dlong_snoc (by omega), hlt, decide_eq_false (by omega)]; rfl
          · skip
            rw [hms5, hms5]
            omega
      · skip
        refine St_exit ?_
        refine Jm_then_exit (Jm_then_exit (Jm_block_same (Jm_seq ?_)))
        refine St_seq ?_
        refine St_region ?_
        refine Ls_run (run_move rfl) rfl ?_
        refine Ls_call Try.func106 nm106 rfl rfl (rcopies_c wr A n c vs bl (hr.inB hs) (hp.inB hs) (dlong_ok hlo) hn2) rfl ?_
        rintro v12 w13 ⟨Ac, cc, vc, rfl, hvc, hsC⟩
        replace hs := hs.trans hsC
        refine Ls_run (run_buildO (pv := [(0, _), (2, _)]) rfl (bld135_0_2 _ _ _ _)) rfl ?_
        refine Ls_box hs rfl rfl ?_
        intro b15 w14 hs
        refine Ls_run (run_assign rfl) rfl ?_
        refine Ls_run (run_assign rfl) rfl ?_
        refine Ls_nil ?_
        refine Jm_seq ?_
        refine St_ret ?_
        refine Jm_ret2 rfl rfl rfl ?_
        simp only [List.append_nil] at hs
        exact ⟨_, rfl, _, rfl, Sat.rshut (s := rload bl) (vs := vc) (A := Ac) (c := cc) (L := []) (by simp [rload]; omega) (by simp only [rload, hbl, rcells] at hs ⊢; exact hs)⟩
set_option maxRecDepth 100000 in
set_option maxHeartbeats 1000000 in
theorem rLoad_long (w : World) (A : Option Addr) (n c : Nat) (vs : List Value) (bl : List (List Int)) (hr : Rd w A n c 1 (El.val.flat vs)) (hp : PartsK (El.int .u8) w vs bl) (hn1 : 1 ≤ n) (hn2 : n ≤ 64) (hlo : dlong bl = true) :
    Calls Try.prog 60 [.slice A n c].toArray w (Ret (fun v' w' => v' = .tuple #[.pointer none, .int .i64 6] ∧ Sat w w' [])) := by
  have hs := Sat.start w
  have hvl : vs.length = n := by have := hr.len; rw [El.flat_length] at this; simpa [El.val] using this
  have hbl : bl.length = n := by have := hp.1; omega
  refine Calls_body Try.func60 rfl rfl rfl (envE_cons (i := 0) (v := .slice A n c) rfl envE_nil) ?_
  refine St_seq ?_
  refine St_region ?_
  refine Ls_run (run_assign rfl) rfl ?_
  refine Ls_run (run_assign rfl) rfl ?_
  refine Ls_nil ?_
  refine Jm_seq ?_
  refine St_seq ?_
  refine St_seq ?_
  refine St_region ?_
  refine Ls_run (run_move rfl) rfl ?_
  refine Ls_run (run_len Try.underlying55 rfl) rfl ?_
  refine Ls_run (run_lss rfl rfl) rfl ?_
  refine Ls_run (run_move rfl) rfl ?_
  refine Ls_partP (t := 8) rfl (fun h1 => ?_) (fun h1 => ?_)
  · skip
    exfalso; omega
  · skip
    refine Ls_on rfl rfl ?_
    refine Ls_run (run_move rfl) rfl ?_
    refine Ls_on rfl rfl ?_
    refine Ls_run (run_len Try.underlying55 rfl) rfl ?_
    refine Ls_on rfl rfl ?_
    refine Ls_run (run_gtr rfl rfl) rfl ?_
    refine Ls_run (run_pick_f rfl rfl) rfl ?_
    refine Ls_nil ?_
    refine Jm_seq ?_
    refine St_ifP rfl (fun h2 => ?_) (fun h2 => ?_)
    · skip
      exfalso; omega
    · skip
      refine St_skip ?_
      refine Jm_seq ?_
      refine St_seq ?_
      refine St_seq ?_
      refine St_region ?_
      refine Ls_run (run_assign rfl) rfl ?_
      refine Ls_nil ?_
      refine Jm_seq ?_
      refine St_block ?_
      obtain ⟨En3, hEn3⟩ : ∃ F : Nat → Env, ∀ (i : Nat), F i = [(0, .slice A n c), (4, .int .i64 (i : Int))] := ⟨(fun (i : Nat) => [(0, .slice A n c), (4, .int .i64 (i : Int))]), fun _ => rfl⟩
      obtain ⟨Iv4, hIv4⟩ : ∃ F : Nat → World → Prop, ∀ (i : Nat) (wr : World), F i wr = (Sat w wr [] ∧ i ≤ n ∧ dlong (bl.take i) = false) := ⟨(fun (i : Nat) => fun (wr : World) => Sat w wr [] ∧ i ≤ n ∧ dlong (bl.take i) = false), fun _ _ => rfl⟩
      obtain ⟨ms5, hms5⟩ : ∃ F : Nat → Nat, ∀ (i : Nat), F i = (n - i) := ⟨(fun (i : Nat) => n - i), fun _ => rfl⟩
      refine St_loop En3 Iv4 ms5 (0) ?_ ?_ ?_
      · skip
        rw [hIv4]
        exact ⟨hs, by omega, rfl⟩
      · rw [hEn3]; exact (subE_cons rfl (subE_cons rfl subE_nil))
      rintro i wr hI6
      rw [hIv4] at hI6
      obtain ⟨hs, hi, hlt⟩ := hI6
      refine St_eqE (hEn3 _) ?_
      refine St_seq ?_
      refine St_seq ?_
      refine St_region ?_
      refine Ls_run (run_move rfl) rfl ?_
      refine Ls_run (run_move rfl) rfl ?_
      refine Ls_run (run_len Try.underlying55 rfl) rfl ?_
      refine Ls_run (run_lss rfl rfl) rfl ?_
      refine Ls_nil ?_
      refine Jm_seq ?_
      refine St_ifP rfl (fun h7 => ?_) (fun h7 => ?_)
      · skip
        refine St_skip ?_
        refine Jm_seq ?_
        refine St_seq ?_
        refine St_block ?_
        refine St_seq ?_
        refine St_region ?_
        refine Ls_run (run_move rfl) rfl ?_
        refine Ls_run (run_move rfl) rfl ?_
        obtain ⟨Ai, ni, ci, hvi, hri⟩ := hp.2 i (by omega)
        rw [← bytesV_flat] at hri
        have hmi := rdB_len hri
        refine Ls_index (El.val) (hr.inB hs) Try.underlying55 inf28 rfl rfl (by omega) (by omega) hvi rfl ?_
        intro b8 o9 hc10
        refine Ls_run (run_load sc28 rfl (hc10 0 _ rfl)) rfl ?_
        refine Ls_run (run_len Try.underlying28 rfl) rfl ?_
        refine Ls_run (run_gtr rfl rfl) rfl ?_
        refine Ls_nil ?_
        refine Jm_seq ?_
        refine St_ifP rfl (fun h11 => ?_) (fun h11 => ?_)
        · skip
          refine St_seq ?_
          refine St_region ?_
          refine Ls_run (run_assign rfl) rfl ?_
          refine Ls_run (run_assign rfl) rfl ?_
          refine Ls_nil ?_
          refine Jm_seq ?_
          refine St_ret ?_
          refine Jm_block_ret (Jm_then_ret (Jm_then_ret (Jm_block_ret (Jm_then_ret  ?_))))
          refine Jm_ret2 rfl rfl rfl ?_
          exact ⟨_, rfl, rfl, hs⟩
        · skip
          refine St_skip ?_
          refine Jm_block_normal (Jm_seq ?_)
          refine St_region ?_
          refine Ls_run (run_move rfl) rfl ?_
          refine Ls_run (run_add rfl rfl (w64 (by omega))) rfl ?_
          refine Ls_run (run_assign rfl) rfl ?_
          refine Ls_nil ?_
          refine Jm_round (i + 1) ?_ ?_ ?_
          · rw [hEn3]; exact (subE_cons rfl (subE_cons rfl subE_nil))
          · skip
            rw [hIv4]
            refine ⟨hs, by omega, ?_⟩
            rw [dlong_snoc (by omega), hlt, decide_eq_false (by omega)]; rfl
          · skip
            rw [hms5, hms5]
            omega
      · skip
        refine St_exit ?_
        refine Jm_then_exit (Jm_then_exit (Jm_block_same (Jm_seq ?_)))
        refine St_seq ?_
        exfalso
        have hlx := dlong_all (bl := bl) (by omega) hlt
        rw [hlo] at hlx; cases hlx
set_option maxRecDepth 100000 in
set_option maxHeartbeats 1000000 in
theorem rLoad_arg (w : World) (A : Option Addr) (n c : Nat) (h : n < 1 ∨ 64 < n) (hn : n ≤ 9223372036854775807) :
    Calls Try.prog 60 [.slice A n c].toArray w (Ret (fun v' w' => w = w' ∧ v' = .tuple #[.pointer none, .int .i64 1])) := by
  refine Calls_body Try.func60 rfl rfl rfl (envE_cons (i := 0) (v := .slice A n c) rfl envE_nil) ?_
  refine St_seq ?_
  refine St_region ?_
  refine Ls_run (run_assign rfl) rfl ?_
  refine Ls_run (run_assign rfl) rfl ?_
  refine Ls_nil ?_
  refine Jm_seq ?_
  refine St_seq ?_
  refine St_seq ?_
  refine St_region ?_
  refine Ls_run (run_move rfl) rfl ?_
  refine Ls_run (run_len Try.underlying55 rfl) rfl ?_
  refine Ls_run (run_lss rfl rfl) rfl ?_
  refine Ls_run (run_move rfl) rfl ?_
  refine Ls_partP (t := 8) rfl (fun h1 => ?_) (fun h1 => ?_)
  · skip
    refine Ls_off rfl rfl rfl rfl ?_
    refine Ls_off rfl rfl rfl rfl ?_
    refine Ls_off rfl rfl rfl rfl ?_
    refine Ls_run (run_pick_t rfl rfl) rfl ?_
    refine Ls_nil ?_
    refine Jm_seq ?_
    refine St_ift rfl ?_
    refine St_seq ?_
    refine St_region ?_
    refine Ls_run (run_assign rfl) rfl ?_
    refine Ls_run (run_assign rfl) rfl ?_
    refine Ls_nil ?_
    refine Jm_seq ?_
    refine St_ret ?_
    refine Jm_then_ret  ?_
    refine Jm_ret2 rfl rfl rfl ?_
    exact ⟨_, rfl, rfl, rfl⟩
  · skip
    refine Ls_on rfl rfl ?_
    refine Ls_run (run_move rfl) rfl ?_
    refine Ls_on rfl rfl ?_
    refine Ls_run (run_len Try.underlying55 rfl) rfl ?_
    refine Ls_on rfl rfl ?_
    refine Ls_run (run_gtr rfl rfl) rfl ?_
    refine Ls_run (run_pick_f rfl rfl) rfl ?_
    refine Ls_nil ?_
    refine Jm_seq ?_
    refine St_ifP rfl (fun h3 => ?_) (fun h3 => ?_)
    · skip
      refine St_seq ?_
      refine St_region ?_
      refine Ls_run (run_assign rfl) rfl ?_
      refine Ls_run (run_assign rfl) rfl ?_
      refine Ls_nil ?_
      refine Jm_seq ?_
      refine St_ret ?_
      refine Jm_then_ret  ?_
      refine Jm_ret2 rfl rfl rfl ?_
      exact ⟨_, rfl, rfl, rfl⟩
    · skip
      exfalso; omega
set_option maxRecDepth 100000 in
set_option maxHeartbeats 1000000 in
theorem Writes_nil (w : World) :
    Calls Try.prog 54 [.pointer none].toArray w (Ret (fun v' w' => w = w' ∧ v' = .int .i64 0)) := by
  refine Calls_body Try.func54 rfl rfl rfl (envE_cons (i := 0) (v := .pointer none) rfl envE_nil) ?_
  refine St_seq ?_
  refine St_region ?_
  refine Ls_run (run_assign rfl) rfl ?_
  refine Ls_nil ?_
  refine Jm_seq ?_
  refine St_seq ?_
  refine St_seq ?_
  refine St_region ?_
  refine Ls_run (run_move rfl) rfl ?_
  refine Ls_run (run_asB (c := true) (run_eql_ptr_nil Try.underlying46 rfl rfl) rfl) rfl ?_
  refine Ls_nil ?_
  refine Jm_seq ?_
  refine St_ift rfl ?_
  refine St_seq ?_
  refine St_region ?_
  refine Ls_run (run_assign rfl) rfl ?_
  refine Ls_nil ?_
  refine Jm_seq ?_
  refine St_ret ?_
  refine Jm_then_ret  ?_
  refine Jm_ret1 rfl rfl ?_
  exact ⟨_, rfl, rfl, rfl⟩
set_option maxRecDepth 100000 in
set_option maxHeartbeats 1000000 in
theorem Reads_nil (w : World) :
    Calls Try.prog 56 [.pointer none].toArray w (Ret (fun v' w' => w = w' ∧ v' = .int .i64 0)) := by
  refine Calls_body Try.func56 rfl rfl rfl (envE_cons (i := 0) (v := .pointer none) rfl envE_nil) ?_
  refine St_seq ?_
  refine St_region ?_
  refine Ls_run (run_assign rfl) rfl ?_
  refine Ls_nil ?_
  refine Jm_seq ?_
  refine St_seq ?_
  refine St_seq ?_
  refine St_region ?_
  refine Ls_run (run_move rfl) rfl ?_
  refine Ls_run (run_asB (c := true) (run_eql_ptr_nil Try.underlying46 rfl rfl) rfl) rfl ?_
  refine Ls_nil ?_
  refine Jm_seq ?_
  refine St_ift rfl ?_
  refine St_seq ?_
  refine St_region ?_
  refine Ls_run (run_assign rfl) rfl ?_
  refine Ls_nil ?_
  refine Jm_seq ?_
  refine St_ret ?_
  refine Jm_then_ret  ?_
  refine Jm_ret1 rfl rfl ?_
  exact ⟨_, rfl, rfl, rfl⟩
set_option maxRecDepth 100000 in
set_option maxHeartbeats 1000000 in
theorem Blocks_nil (w : World) :
    Calls Try.prog 94 [.pointer none].toArray w (Ret (fun v' w' => w = w' ∧ v' = .int .i64 0)) := by
  refine Calls_body Try.func94 rfl rfl rfl (envE_cons (i := 0) (v := .pointer none) rfl envE_nil) ?_
  refine St_seq ?_
  refine St_region ?_
  refine Ls_run (run_assign rfl) rfl ?_
  refine Ls_nil ?_
  refine Jm_seq ?_
  refine St_seq ?_
  refine St_seq ?_
  refine St_region ?_
  refine Ls_run (run_move rfl) rfl ?_
  refine Ls_run (run_asB (c := true) (run_eql_ptr_nil Try.underlying46 rfl rfl) rfl) rfl ?_
  refine Ls_nil ?_
  refine Jm_seq ?_
  refine St_ift rfl ?_
  refine St_seq ?_
  refine St_region ?_
  refine Ls_run (run_assign rfl) rfl ?_
  refine Ls_nil ?_
  refine Jm_seq ?_
  refine St_ret ?_
  refine Jm_then_ret  ?_
  refine Jm_ret1 rfl rfl ?_
  exact ⟨_, rfl, rfl, rfl⟩
set_option maxRecDepth 100000 in
set_option maxHeartbeats 1000000 in
theorem Down_nil (w : World) :
    Calls Try.prog 34 [.pointer none].toArray w (Ret (fun v' w' => w = w' ∧ v' = .bool false)) := by
  refine Calls_body Try.func34 rfl rfl rfl (envE_cons (i := 0) (v := .pointer none) rfl envE_nil) ?_
  refine St_seq ?_
  refine St_region ?_
  refine Ls_run (run_assign rfl) rfl ?_
  refine Ls_nil ?_
  refine Jm_seq ?_
  refine St_seq ?_
  refine St_region ?_
  refine Ls_run (run_move rfl) rfl ?_
  refine Ls_run (run_asB (c := false) (run_neq_ptr_nil Try.underlying46 rfl rfl) rfl) rfl ?_
  refine Ls_run (run_move rfl) rfl ?_
  refine Ls_off rfl rfl rfl rfl ?_
  refine Ls_off rfl rfl rfl rfl ?_
  refine Ls_off rfl rfl rfl rfl ?_
  refine Ls_off rfl rfl rfl rfl ?_
  refine Ls_run (run_pick_f rfl rfl) rfl ?_
  refine Ls_run (run_assign rfl) rfl ?_
  refine Ls_nil ?_
  refine Jm_seq ?_
  refine St_ret ?_
  refine Jm_ret1 rfl rfl ?_
  exact ⟨_, rfl, rfl, rfl⟩
set_option maxRecDepth 100000 in
set_option maxHeartbeats 1000000 in
theorem set_nil (w : World) (dn : Bool) (n : Int) :
    Calls Try.prog 93 [.pointer none, .bool dn, .int .i64 n].toArray w (Ret (fun v' w' => w = w' ∧ v' = .tuple #[])) := by
  refine Calls_body Try.func93 rfl rfl rfl (envE_cons (i := 0) (v := .pointer none) rfl (envE_cons (i := 1) (v := .bool dn) rfl (envE_cons (i := 2) (v := .int .i64 n) rfl envE_nil))) ?_
  refine St_seq ?_
  refine St_region ?_
  refine Ls_run (run_move rfl) rfl ?_
  refine Ls_run (run_asB (c := false) (run_neq_ptr_nil Try.underlying46 rfl rfl) rfl) rfl ?_
  refine Ls_nil ?_
  refine Jm_seq ?_
  refine St_iff rfl ?_
  refine St_skip ?_
  refine Jm_end0 rfl ?_
  exact ⟨_, rfl, rfl, rfl⟩
set_option maxRecDepth 100000 in
set_option maxHeartbeats 1000000 in
theorem Off_nil (w : World) :
    Calls Try.prog 45 [.pointer none].toArray w (Ret (fun v' w' => w = w' ∧ v' = .tuple #[])) := by
  refine Calls_body Try.func45 rfl rfl rfl (envE_cons (i := 0) (v := .pointer none) rfl envE_nil) ?_
  refine St_region ?_
  refine Ls_run (run_move rfl) rfl ?_
  refine Ls_call Try.func93 nm93 rfl rfl (set_nil w _ _) rfl ?_
  rintro v1 w2 ⟨rfl, rfl⟩
  refine Ls_nil ?_
  refine Jm_end0 rfl ?_
  exact ⟨_, rfl, rfl, rfl⟩
set_option maxRecDepth 100000 in
set_option maxHeartbeats 1000000 in
theorem On_nil (w : World) :
    Calls Try.prog 35 [.pointer none].toArray w (Ret (fun v' w' => w = w' ∧ v' = .tuple #[])) := by
  refine Calls_body Try.func35 rfl rfl rfl (envE_cons (i := 0) (v := .pointer none) rfl envE_nil) ?_
  refine St_region ?_
  refine Ls_run (run_move rfl) rfl ?_
  refine Ls_call Try.func93 nm93 rfl rfl (set_nil w _ _) rfl ?_
  rintro v1 w2 ⟨rfl, rfl⟩
  refine Ls_nil ?_
  refine Jm_end0 rfl ?_
  exact ⟨_, rfl, rfl, rfl⟩
set_option maxRecDepth 100000 in
set_option maxHeartbeats 1000000 in
theorem Cut_nil (w : World) (n : Int) :
    Calls Try.prog 32 [.pointer none, .int .i64 n].toArray w (Ret (fun v' w' => w = w' ∧ v' = .tuple #[])) := by
  refine Calls_body Try.func32 rfl rfl rfl (envE_cons (i := 0) (v := .pointer none) rfl (envE_cons (i := 1) (v := .int .i64 n) rfl envE_nil)) ?_
  refine St_region ?_
  refine Ls_run (run_move rfl) rfl ?_
  refine Ls_run (run_move rfl) rfl ?_
  refine Ls_call Try.func34 nm34 rfl rfl (Down_nil w) rfl ?_
  rintro v1 w2 ⟨rfl, rfl⟩
  refine Ls_run (run_move rfl) rfl ?_
  refine Ls_call Try.func93 nm93 rfl rfl (set_nil w _ _) rfl ?_
  rintro v3 w4 ⟨rfl, rfl⟩
  refine Ls_nil ?_
  refine Jm_end0 rfl ?_
  exact ⟨_, rfl, rfl, rfl⟩
set_option maxRecDepth 100000 in
set_option maxHeartbeats 1000000 in
theorem Image_nil (w : World) :
    Calls Try.prog 28 [.pointer none].toArray w (Ret (fun v' w' => w = w' ∧ v' = .slice none 0 0)) := by
  refine Calls_body Try.func28 rfl rfl rfl (envE_cons (i := 0) (v := .pointer none) rfl envE_nil) ?_
  refine St_seq ?_
  refine St_region ?_
  refine Ls_run (run_assign rfl) rfl ?_
  refine Ls_nil ?_
  refine Jm_seq ?_
  refine St_seq ?_
  refine St_seq ?_
  refine St_region ?_
  refine Ls_run (run_move rfl) rfl ?_
  refine Ls_run (run_asB (c := true) (run_eql_ptr_nil Try.underlying46 rfl rfl) rfl) rfl ?_
  refine Ls_nil ?_
  refine Jm_seq ?_
  refine St_ift rfl ?_
  refine St_seq ?_
  refine St_region ?_
  refine Ls_run (run_assign rfl) rfl ?_
  refine Ls_nil ?_
  refine Jm_seq ?_
  refine St_ret ?_
  refine Jm_then_ret  ?_
  refine Jm_ret1 rfl rfl ?_
  exact ⟨_, rfl, rfl, rfl⟩
set_option maxRecDepth 100000 in
set_option maxHeartbeats 1000000 in
theorem check_nil (w : World) (n : Int) :
    Calls Try.prog 119 [.pointer none, .int .i64 n].toArray w (Ret (fun v' w' => w = w' ∧ v' = .int .i64 2)) := by
  refine Calls_body Try.func119 rfl rfl rfl (envE_cons (i := 0) (v := .pointer none) rfl (envE_cons (i := 1) (v := .int .i64 n) rfl envE_nil)) ?_
  refine St_seq ?_
  refine St_region ?_
  refine Ls_run (run_assign rfl) rfl ?_
  refine Ls_nil ?_
  refine Jm_seq ?_
  refine St_seq ?_
  refine St_block ?_
  refine St_seq ?_
  refine St_region ?_
  refine Ls_run (run_move rfl) rfl ?_
  refine Ls_run (run_asB (c := true) (run_eql_ptr_nil Try.underlying46 rfl rfl) rfl) rfl ?_
  refine Ls_run (run_assign rfl) rfl ?_
  refine Ls_nil ?_
  refine Jm_seq ?_
  refine St_ift rfl ?_
  refine St_seq ?_
  refine St_region ?_
  refine Ls_run (run_assign rfl) rfl ?_
  refine Ls_nil ?_
  refine Jm_seq ?_
  refine St_ret ?_
  refine Jm_block_ret (Jm_then_ret  ?_)
  refine Jm_ret1 rfl rfl ?_
  exact ⟨_, rfl, rfl, rfl⟩
set_option maxRecDepth 100000 in
set_option maxHeartbeats 1000000 in
theorem Read_nil (w : World) (n : Int) :
    Calls Try.prog 92 [.pointer none, .int .i64 n].toArray w (Ret (fun v' w' => w = w' ∧ v' = .tuple #[.slice none 0 0, .int .i64 2])) := by
  refine Calls_body Try.func92 rfl rfl rfl (envE_cons (i := 0) (v := .pointer none) rfl (envE_cons (i := 1) (v := .int .i64 n) rfl envE_nil)) ?_
  refine St_seq ?_
  refine St_region ?_
  refine Ls_run (run_assign rfl) rfl ?_
  refine Ls_run (run_assign rfl) rfl ?_
  refine Ls_nil ?_
  refine Jm_seq ?_
  refine St_seq ?_
  refine St_seq ?_
  refine St_region ?_
  refine Ls_run (run_move rfl) rfl ?_
  refine Ls_run (run_move rfl) rfl ?_
  refine Ls_call Try.func119 nm119 rfl rfl (check_nil w n) rfl ?_
  rintro v1 w2 ⟨rfl, rfl⟩
  refine Ls_run (run_assign rfl) rfl ?_
  refine Ls_nil ?_
  refine Jm_seq ?_
  refine St_seq ?_
  refine St_region ?_
  refine Ls_run (run_move rfl) rfl ?_
  refine Ls_run (run_asB (c := true) (run_neq rfl rfl) (by decide)) rfl ?_
  refine Ls_nil ?_
  refine Jm_seq ?_
  refine St_ift rfl ?_
  refine St_seq ?_
  refine St_region ?_
  refine Ls_run (run_move rfl) rfl ?_
  refine Ls_run (run_assign rfl) rfl ?_
  refine Ls_run (run_assign rfl) rfl ?_
  refine Ls_nil ?_
  refine Jm_seq ?_
  refine St_ret ?_
  refine Jm_then_ret  ?_
  refine Jm_ret2 rfl rfl rfl ?_
  exact ⟨_, rfl, rfl, rfl⟩
set_option maxRecDepth 100000 in
set_option maxHeartbeats 1000000 in
theorem Write_nil (w : World) (n : Int) (A : Option Addr) (m c : Nat) :
    Calls Try.prog 96 [.pointer none, .int .i64 n, .slice A m c].toArray w (Ret (fun v' w' => w = w' ∧ v' = .int .i64 2)) := by
  refine Calls_body Try.func96 rfl rfl rfl (envE_cons (i := 0) (v := .pointer none) rfl (envE_cons (i := 1) (v := .int .i64 n) rfl (envE_cons (i := 2) (v := .slice A m c) rfl envE_nil))) ?_
  refine St_seq ?_
  refine St_region ?_
  refine Ls_run (run_assign rfl) rfl ?_
  refine Ls_nil ?_
  refine Jm_seq ?_
  refine St_seq ?_
  refine St_region ?_
  refine Ls_run (run_move rfl) rfl ?_
  refine Ls_run (run_move rfl) rfl ?_
  refine Ls_call Try.func119 nm119 rfl rfl (check_nil w n) rfl ?_
  rintro v1 w2 ⟨rfl, rfl⟩
  refine Ls_run (run_assign rfl) rfl ?_
  refine Ls_nil ?_
  refine Jm_seq ?_
  refine St_seq ?_
  refine St_block ?_
  refine St_seq ?_
  refine St_region ?_
  refine Ls_run (run_move rfl) rfl ?_
  refine Ls_run (run_asB (c := true) (run_neq rfl rfl) (by decide)) rfl ?_
  refine Ls_run (run_assign rfl) rfl ?_
  refine Ls_nil ?_
  refine Jm_seq ?_
  refine St_ift rfl ?_
  refine St_seq ?_
  refine St_region ?_
  refine Ls_run (run_move rfl) rfl ?_
  refine Ls_run (run_assign rfl) rfl ?_
  refine Ls_nil ?_
  refine Jm_seq ?_
  refine St_ret ?_
  refine Jm_block_ret (Jm_then_ret  ?_)
  refine Jm_ret1 rfl rfl ?_
  exact ⟨_, rfl, rfl, rfl⟩
set_option maxRecDepth 100000 in
set_option maxHeartbeats 1000000 in
theorem rWrites_nil (w : World) :
    Calls Try.prog 55 [.pointer none].toArray w (Ret (fun v' w' => w = w' ∧ v' = .int .i64 0)) := by
  refine Calls_body Try.func55 rfl rfl rfl (envE_cons (i := 0) (v := .pointer none) rfl envE_nil) ?_
  refine St_seq ?_
  refine St_region ?_
  refine Ls_run (run_assign rfl) rfl ?_
  refine Ls_nil ?_
  refine Jm_seq ?_
  refine St_seq ?_
  refine St_seq ?_
  refine St_region ?_
  refine Ls_run (run_move rfl) rfl ?_
  refine Ls_run (run_asB (c := true) (run_eql_ptr_nil Try.underlying71 rfl rfl) rfl) rfl ?_
  refine Ls_nil ?_
  refine Jm_seq ?_
  refine St_ift rfl ?_
  refine St_seq ?_
  refine St_region ?_
  refine Ls_run (run_assign rfl) rfl ?_
  refine Ls_nil ?_
  refine Jm_seq ?_
  refine St_ret ?_
  refine Jm_then_ret  ?_
  refine Jm_ret1 rfl rfl ?_
  exact ⟨_, rfl, rfl, rfl⟩
set_option maxRecDepth 100000 in
set_option maxHeartbeats 1000000 in
theorem rReads_nil (w : World) :
    Calls Try.prog 57 [.pointer none].toArray w (Ret (fun v' w' => w = w' ∧ v' = .int .i64 0)) := by
  refine Calls_body Try.func57 rfl rfl rfl (envE_cons (i := 0) (v := .pointer none) rfl envE_nil) ?_
  refine St_seq ?_
  refine St_region ?_
  refine Ls_run (run_assign rfl) rfl ?_
  refine Ls_nil ?_
  refine Jm_seq ?_
  refine St_seq ?_
  refine St_seq ?_
  refine St_region ?_
  refine Ls_run (run_move rfl) rfl ?_
  refine Ls_run (run_asB (c := true) (run_eql_ptr_nil Try.underlying71 rfl rfl) rfl) rfl ?_
  refine Ls_nil ?_
  refine Jm_seq ?_
  refine St_ift rfl ?_
  refine St_seq ?_
  refine St_region ?_
  refine Ls_run (run_assign rfl) rfl ?_
  refine Ls_nil ?_
  refine Jm_seq ?_
  refine St_ret ?_
  refine Jm_then_ret  ?_
  refine Jm_ret1 rfl rfl ?_
  exact ⟨_, rfl, rfl, rfl⟩
set_option maxRecDepth 100000 in
set_option maxHeartbeats 1000000 in
theorem rBlocks_nil (w : World) :
    Calls Try.prog 97 [.pointer none].toArray w (Ret (fun v' w' => w = w' ∧ v' = .int .i64 0)) := by
  refine Calls_body Try.func97 rfl rfl rfl (envE_cons (i := 0) (v := .pointer none) rfl envE_nil) ?_
  refine St_seq ?_
  refine St_region ?_
  refine Ls_run (run_assign rfl) rfl ?_
  refine Ls_nil ?_
  refine Jm_seq ?_
  refine St_seq ?_
  refine St_seq ?_
  refine St_region ?_
  refine Ls_run (run_move rfl) rfl ?_
  refine Ls_run (run_asB (c := true) (run_eql_ptr_nil Try.underlying71 rfl rfl) rfl) rfl ?_
  refine Ls_nil ?_
  refine Jm_seq ?_
  refine St_ift rfl ?_
  refine St_seq ?_
  refine St_region ?_
  refine Ls_run (run_assign rfl) rfl ?_
  refine Ls_nil ?_
  refine Jm_seq ?_
  refine St_ret ?_
  refine Jm_then_ret  ?_
  refine Jm_ret1 rfl rfl ?_
  exact ⟨_, rfl, rfl, rfl⟩
set_option maxRecDepth 100000 in
set_option maxHeartbeats 1000000 in
theorem rDown_nil (w : World) :
    Calls Try.prog 104 [.pointer none].toArray w (Ret (fun v' w' => w = w' ∧ v' = .bool false)) := by
  refine Calls_body Try.func104 rfl rfl rfl (envE_cons (i := 0) (v := .pointer none) rfl envE_nil) ?_
  refine St_seq ?_
  refine St_region ?_
  refine Ls_run (run_assign rfl) rfl ?_
  refine Ls_nil ?_
  refine Jm_seq ?_
  refine St_seq ?_
  refine St_region ?_
  refine Ls_run (run_move rfl) rfl ?_
  refine Ls_run (run_asB (c := false) (run_neq_ptr_nil Try.underlying71 rfl rfl) rfl) rfl ?_
  refine Ls_run (run_move rfl) rfl ?_
  refine Ls_off rfl rfl rfl rfl ?_
  refine Ls_off rfl rfl rfl rfl ?_
  refine Ls_off rfl rfl rfl rfl ?_
  refine Ls_off rfl rfl rfl rfl ?_
  refine Ls_run (run_pick_f rfl rfl) rfl ?_
  refine Ls_run (run_assign rfl) rfl ?_
  refine Ls_nil ?_
  refine Jm_seq ?_
  refine St_ret ?_
  refine Jm_ret1 rfl rfl ?_
  exact ⟨_, rfl, rfl, rfl⟩
set_option maxRecDepth 100000 in
set_option maxHeartbeats 1000000 in
theorem rOff_nil (w : World) :
    Calls Try.prog 46 [.pointer none].toArray w (Ret (fun v' w' => w = w' ∧ v' = .tuple #[])) := by
  refine Calls_body Try.func46 rfl rfl rfl (envE_cons (i := 0) (v := .pointer none) rfl envE_nil) ?_
  refine St_seq ?_
  refine St_region ?_
  refine Ls_run (run_move rfl) rfl ?_
  refine Ls_run (run_asB (c := false) (run_neq_ptr_nil Try.underlying71 rfl rfl) rfl) rfl ?_
  refine Ls_nil ?_
  refine Jm_seq ?_
  refine St_iff rfl ?_
  refine St_skip ?_
  refine Jm_end0 rfl ?_
  exact ⟨_, rfl, rfl, rfl⟩
set_option maxRecDepth 100000 in
set_option maxHeartbeats 1000000 in
theorem rOn_nil (w : World) :
    Calls Try.prog 47 [.pointer none].toArray w (Ret (fun v' w' => w = w' ∧ v' = .tuple #[])) := by
  refine Calls_body Try.func47 rfl rfl rfl (envE_cons (i := 0) (v := .pointer none) rfl envE_nil) ?_
  refine St_seq ?_
  refine St_region ?_
  refine Ls_run (run_move rfl) rfl ?_
  refine Ls_run (run_asB (c := false) (run_neq_ptr_nil Try.underlying71 rfl rfl) rfl) rfl ?_
  refine Ls_nil ?_
  refine Jm_seq ?_
  refine St_iff rfl ?_
  refine St_skip ?_
  refine Jm_end0 rfl ?_
  exact ⟨_, rfl, rfl, rfl⟩
set_option maxRecDepth 100000 in
set_option maxHeartbeats 1000000 in
theorem rCut_nil (w : World) (n : Int) :
    Calls Try.prog 44 [.pointer none, .int .i64 n].toArray w (Ret (fun v' w' => w = w' ∧ v' = .tuple #[])) := by
  refine Calls_body Try.func44 rfl rfl rfl (envE_cons (i := 0) (v := .pointer none) rfl (envE_cons (i := 1) (v := .int .i64 n) rfl envE_nil)) ?_
  refine St_seq ?_
  refine St_seq ?_
  refine St_region ?_
  refine Ls_run (run_move rfl) rfl ?_
  refine Ls_run (run_asB (c := true) (run_eql_ptr_nil Try.underlying71 rfl rfl) rfl) rfl ?_
  refine Ls_nil ?_
  refine Jm_seq ?_
  refine St_ift rfl ?_
  refine St_ret ?_
  refine Jm_then_ret  ?_
  refine Jm_ret0 rfl ?_
  exact ⟨_, rfl, rfl, rfl⟩
set_option maxRecDepth 100000 in
set_option maxHeartbeats 1000000 in
theorem rImage_nil (w : World) :
    Calls Try.prog 58 [.pointer none].toArray w (Ret (fun v' w' => w = w' ∧ v' = .slice none 0 0)) := by
  refine Calls_body Try.func58 rfl rfl rfl (envE_cons (i := 0) (v := .pointer none) rfl envE_nil) ?_
  refine St_seq ?_
  refine St_region ?_
  refine Ls_run (run_assign rfl) rfl ?_
  refine Ls_nil ?_
  refine Jm_seq ?_
  refine St_seq ?_
  refine St_seq ?_
  refine St_region ?_
  refine Ls_run (run_move rfl) rfl ?_
  refine Ls_run (run_asB (c := true) (run_eql_ptr_nil Try.underlying71 rfl rfl) rfl) rfl ?_
  refine Ls_nil ?_
  refine Jm_seq ?_
  refine St_ift rfl ?_
  refine St_seq ?_
  refine St_region ?_
  refine Ls_run (run_assign rfl) rfl ?_
  refine Ls_nil ?_
  refine Jm_seq ?_
  refine St_ret ?_
  refine Jm_then_ret  ?_
  refine Jm_ret1 rfl rfl ?_
  exact ⟨_, rfl, rfl, rfl⟩
set_option maxRecDepth 100000 in
set_option maxHeartbeats 1000000 in
theorem rRead_nil (w : World) (n : Int) :
    Calls Try.prog 103 [.pointer none, .int .i64 n].toArray w (Ret (fun v' w' => w = w' ∧ v' = .tuple #[.slice none 0 0, .int .i64 2])) := by
  refine Calls_body Try.func103 rfl rfl rfl (envE_cons (i := 0) (v := .pointer none) rfl (envE_cons (i := 1) (v := .int .i64 n) rfl envE_nil)) ?_
  refine St_seq ?_
  refine St_region ?_
  refine Ls_run (run_assign rfl) rfl ?_
  refine Ls_run (run_assign rfl) rfl ?_
  refine Ls_nil ?_
  refine Jm_seq ?_
  refine St_seq ?_
  refine St_seq ?_
  refine St_region ?_
  refine Ls_run (run_move rfl) rfl ?_
  refine Ls_run (run_asB (c := true) (run_eql_ptr_nil Try.underlying71 rfl rfl) rfl) rfl ?_
  refine Ls_nil ?_
  refine Jm_seq ?_
  refine St_ift rfl ?_
  refine St_seq ?_
  refine St_region ?_
  refine Ls_run (run_assign rfl) rfl ?_
  refine Ls_run (run_assign rfl) rfl ?_
  refine Ls_nil ?_
  refine Jm_seq ?_
  refine St_ret ?_
  refine Jm_then_ret  ?_
  refine Jm_ret2 rfl rfl rfl ?_
  exact ⟨_, rfl, rfl, rfl⟩
set_option maxRecDepth 100000 in
set_option maxHeartbeats 1000000 in
theorem rWrite_nil (w : World) (n : Int) (A : Option Addr) (m c : Nat) :
    Calls Try.prog 98 [.pointer none, .int .i64 n, .slice A m c].toArray w (Ret (fun v' w' => w = w' ∧ v' = .int .i64 2)) := by
  refine Calls_body Try.func98 rfl rfl rfl (envE_cons (i := 0) (v := .pointer none) rfl (envE_cons (i := 1) (v := .int .i64 n) rfl (envE_cons (i := 2) (v := .slice A m c) rfl envE_nil))) ?_
  refine St_seq ?_
  refine St_region ?_
  refine Ls_run (run_assign rfl) rfl ?_
  refine Ls_nil ?_
  refine Jm_seq ?_
  refine St_seq ?_
  refine St_seq ?_
  refine St_region ?_
  refine Ls_run (run_move rfl) rfl ?_
  refine Ls_run (run_asB (c := true) (run_eql_ptr_nil Try.underlying71 rfl rfl) rfl) rfl ?_
  refine Ls_nil ?_
  refine Jm_seq ?_
  refine St_ift rfl ?_
  refine St_seq ?_
  refine St_region ?_
  refine Ls_run (run_assign rfl) rfl ?_
  refine Ls_nil ?_
  refine Jm_seq ?_
  refine St_ret ?_
  refine Jm_then_ret  ?_
  refine Jm_ret1 rfl rfl ?_
  exact ⟨_, rfl, rfl, rfl⟩
end Go.Proofs.Ytipkfdeiallifaa.Lg
