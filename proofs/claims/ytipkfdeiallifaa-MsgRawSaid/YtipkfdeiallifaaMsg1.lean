/-
  What a kind asks for, what a message is, whether two are the same; the reference's likewise. By program (gen/msg1.py).
-/
import Derived.Test.YtipkfdeiallifaaBl
import Derived.Test.YtipkfdeiallifaaDf
import Derived.Test.YtipkfdeiallifaaMsgPure
set_option linter.unusedVariables false
set_option linter.unusedSimpArgs false
namespace Go.Proofs.Ytipkfdeiallifaa.Lg
open Go Go.RowKit Go.Proofs.Ytipkfdeiallifaa.WirePure
theorem take_snoc3 {α : Type} {l : List α} {i : Nat} {d : α} (h : i < l.length) : l.take (i + 1) = l.take i ++ [l.getD i d] := by
  rw [List.take_succ_eq_append_getElem h, List.getD_eq_getElem?_getD, List.getElem?_eq_getElem h]; rfl
theorem getD_mem3 {α : Type} {l : List α} {i : Nat} {d : α} (h : i < l.length) : l.getD i d ∈ l := by
  rw [List.getD_eq_getElem?_getD, List.getElem?_eq_getElem h]; exact List.getElem_mem h
theorem take_all {α : Type} {l l2 : List α} {i : Nat} (h : l.take i = l2.take i) (h1 : l.length = i) (h2 : l2.length = i) : l = l2 := by
  rwa [List.take_of_length_le (by omega), List.take_of_length_le (by omega)] at h
theorem rises_no {l : List Int} {i : Nat} (h1 : 1 ≤ i) (h2 : i < l.length) (h : l.getD i 0 ≤ l.getD (i - 1) 0) : ¬ risesOk l := fun q => by
  have := q (i - 1) (by omega)
  have e : i - 1 + 1 = i := by omega
  rw [e] at this; omega
theorem rises_ok {l : List Int} {n : Nat} (hn : n = l.length) (h : ∀ j, 1 ≤ j → j < n → l.getD (j - 1) 0 < l.getD j 0) : risesOk l := fun i hi => by
  have := h (i + 1) (by omega) (by omega)
  simpa using this
theorem pairs_no {l : List Pr} {i : Nat} (h1 : 1 ≤ i) (h2 : i < l.length) (h : (l.getD i (0, false, 0)).1 ≤ (l.getD (i - 1) (0, false, 0)).1) : ¬ pairsOk l := fun q => by
  have := q.2 (i - 1) (by omega)
  have e : i - 1 + 1 = i := by omega
  rw [e] at this; omega
theorem pairs_ok {l : List Pr} {n : Nat} (hn : n = l.length) (h0 : ∀ y ∈ l, y.2.1 = true) (h : ∀ j, 1 ≤ j → j < n → (l.getD (j - 1) (0, false, 0)).1 < (l.getD j (0, false, 0)).1) : pairsOk l := ⟨h0, fun i hi => by
  have := h (i + 1) (by omega) (by omega)
  simpa using this⟩
set_option maxRecDepth 100000 in
set_option maxHeartbeats 1000000 in
theorem of_c (w : World) (k : Int) :
    Calls Try.prog 63 [.int .i64 k].toArray w (Ret (fun v' w' => w = w' ∧ v' = .int .i64 (mof k))) := by
  refine Calls_body Try.func63 rfl rfl rfl (envE_cons (i := 0) (v := .int .i64 k) rfl envE_nil) ?_
  refine St_seq ?_
  refine St_region ?_
  refine Ls_run (run_assign rfl) rfl ?_
  refine Ls_nil ?_
  refine Jm_seq ?_
  refine St_seq ?_
  refine St_seq ?_
  refine St_region ?_
  refine Ls_run (run_move rfl) rfl ?_
  refine Ls_nil ?_
  refine Jm_seq ?_
  refine St_block ?_
  refine St_seq ?_
  refine St_seq ?_
  refine St_region ?_
  refine Ls_run (run_eql rfl rfl) rfl ?_
  refine Ls_run (run_assign rfl) rfl ?_
  refine Ls_nil ?_
  refine Jm_seq ?_
  refine St_ifPK rfl (fun h1 => ?_) (fun h1 => ?_)
  · skip
    refine St_skip ?_
    refine Jm_seq ?_
    refine St_ift rfl ?_
    refine St_seq ?_
    refine St_region ?_
    refine Ls_run (run_assign rfl) rfl ?_
    refine Ls_nil ?_
    refine Jm_seq ?_
    refine St_ret ?_
    refine Jm_block_ret (Jm_then_ret  ?_)
    refine Jm_ret1 rfl rfl ?_
    refine ⟨_, rfl, rfl, ?_⟩
    congr 1
    unfold mof
    repeat' (first | omega | split)
  · skip
    refine St_seq ?_
    refine St_region ?_
    refine Ls_run (run_eql rfl rfl) rfl ?_
    refine Ls_run (run_assign rfl) rfl ?_
    refine Ls_nil ?_
    refine Jm_seq ?_
    refine St_ifPK rfl (fun h3 => ?_) (fun h3 => ?_)
    · skip
      refine St_skip ?_
      refine Jm_seq ?_
      refine St_ift rfl ?_
      refine St_seq ?_
      refine St_region ?_
      refine Ls_run (run_assign rfl) rfl ?_
      refine Ls_nil ?_
      refine Jm_seq ?_
      refine St_ret ?_
      refine Jm_block_ret (Jm_then_ret  ?_)
      refine Jm_ret1 rfl rfl ?_
      refine ⟨_, rfl, rfl, ?_⟩
      congr 1
      unfold mof
      repeat' (first | omega | split)
    · skip
      refine St_seq ?_
      refine St_region ?_
      refine Ls_run (run_eql rfl rfl) rfl ?_
      refine Ls_run (run_assign rfl) rfl ?_
      refine Ls_nil ?_
      refine Jm_seq ?_
      refine St_ifPK rfl (fun h5 => ?_) (fun h5 => ?_)
      · skip
        refine St_skip ?_
        refine Jm_seq ?_
        refine St_ift rfl ?_
        refine St_seq ?_
        refine St_region ?_
        refine Ls_run (run_assign rfl) rfl ?_
        refine Ls_nil ?_
        refine Jm_seq ?_
        refine St_ret ?_
        refine Jm_block_ret (Jm_then_ret  ?_)
        refine Jm_ret1 rfl rfl ?_
        refine ⟨_, rfl, rfl, ?_⟩
        congr 1
        unfold mof
        repeat' (first | omega | split)
      · skip
        refine St_region ?_
        refine Ls_run (run_eql rfl rfl) rfl ?_
        refine Ls_run (run_assign rfl) rfl ?_
        refine Ls_nil ?_
        refine Jm_seq ?_
        refine St_ifPK rfl (fun h7 => ?_) (fun h7 => ?_)
        · skip
          refine St_seq ?_
          refine St_region ?_
          refine Ls_run (run_assign rfl) rfl ?_
          refine Ls_nil ?_
          refine Jm_seq ?_
          refine St_ret ?_
          refine Jm_block_ret (Jm_then_ret  ?_)
          refine Jm_ret1 rfl rfl ?_
          refine ⟨_, rfl, rfl, ?_⟩
          congr 1
          unfold mof
          repeat' (first | omega | split)
        · skip
          refine St_seq ?_
          refine St_region ?_
          refine Ls_run (run_eql rfl rfl) rfl ?_
          refine Ls_run (run_assign rfl) rfl ?_
          refine Ls_nil ?_
          refine Jm_seq ?_
          refine St_ifPK rfl (fun h8 => ?_) (fun h8 => ?_)
          · skip
            refine St_seq ?_
            refine St_region ?_
            refine Ls_run (run_assign rfl) rfl ?_
            refine Ls_nil ?_
            refine Jm_seq ?_
            refine St_ret ?_
            refine Jm_block_ret (Jm_then_ret  ?_)
            refine Jm_ret1 rfl rfl ?_
            refine ⟨_, rfl, rfl, ?_⟩
            congr 1
            unfold mof
            repeat' (first | omega | split)
          · skip
            refine St_seq ?_
            refine St_region ?_
            refine Ls_run (run_eql rfl rfl) rfl ?_
            refine Ls_run (run_assign rfl) rfl ?_
            refine Ls_nil ?_
            refine Jm_seq ?_
            refine St_ifPK rfl (fun h9 => ?_) (fun h9 => ?_)
            · skip
              refine St_seq ?_
              refine St_region ?_
              refine Ls_run (run_assign rfl) rfl ?_
              refine Ls_nil ?_
              refine Jm_seq ?_
              refine St_ret ?_
              refine Jm_block_ret (Jm_then_ret  ?_)
              refine Jm_ret1 rfl rfl ?_
              refine ⟨_, rfl, rfl, ?_⟩
              congr 1
              unfold mof
              repeat' (first | omega | split)
            · skip
              refine St_seq ?_
              refine St_seq ?_
              refine St_region ?_
              refine Ls_run (run_eql rfl rfl) rfl ?_
              refine Ls_run (run_assign rfl) rfl ?_
              refine Ls_nil ?_
              refine Jm_seq ?_
              refine St_ifPK rfl (fun h10 => ?_) (fun h10 => ?_)
              · skip
                refine St_skip ?_
                refine Jm_seq ?_
                refine St_ift rfl ?_
                refine St_seq ?_
                refine St_region ?_
                refine Ls_run (run_assign rfl) rfl ?_
                refine Ls_nil ?_
                refine Jm_seq ?_
                refine St_ret ?_
                refine Jm_block_ret (Jm_then_ret  ?_)
                refine Jm_ret1 rfl rfl ?_
                refine ⟨_, rfl, rfl, ?_⟩
                congr 1
                unfold mof
                repeat' (first | omega | split)
              · skip
                refine St_region ?_
                refine Ls_run (run_eql rfl rfl) rfl ?_
                refine Ls_run (run_assign rfl) rfl ?_
                refine Ls_nil ?_
                refine Jm_seq ?_
                refine St_ifPK rfl (fun h12 => ?_) (fun h12 => ?_)
                · skip
                  refine St_seq ?_
                  refine St_region ?_
                  refine Ls_run (run_assign rfl) rfl ?_
                  refine Ls_nil ?_
                  refine Jm_seq ?_
                  refine St_ret ?_
                  refine Jm_block_ret (Jm_then_ret  ?_)
                  refine Jm_ret1 rfl rfl ?_
                  refine ⟨_, rfl, rfl, ?_⟩
                  congr 1
                  unfold mof
                  repeat' (first | omega | split)
                · skip
                  refine St_skip ?_
                  refine Jm_block_normal (Jm_seq ?_)
                  refine St_seq ?_
                  refine St_region ?_
                  refine Ls_run (run_assign rfl) rfl ?_
                  refine Ls_nil ?_
                  refine Jm_seq ?_
                  refine St_ret ?_
                  refine Jm_ret1 rfl rfl ?_
                  refine ⟨_, rfl, rfl, ?_⟩
                  congr 1
                  unfold mof
                  repeat' (first | omega | split)
set_option maxRecDepth 100000 in
set_option maxHeartbeats 1000000 in
theorem Field_c (w : World) (k : Int) :
    Calls Try.prog 68 [.int .i64 k].toArray w (Ret (fun v' w' => w = w' ∧ v' = .int .i64 (mof k))) := by
  refine Calls_body Try.func68 rfl rfl rfl (envE_cons (i := 0) (v := .int .i64 k) rfl envE_nil) ?_
  refine St_seq ?_
  refine St_region ?_
  refine Ls_run (run_assign rfl) rfl ?_
  refine Ls_nil ?_
  refine Jm_seq ?_
  refine St_seq ?_
  refine St_seq ?_
  refine St_region ?_
  refine Ls_run (run_move rfl) rfl ?_
  refine Ls_nil ?_
  refine Jm_seq ?_
  refine St_block ?_
  refine St_seq ?_
  refine St_seq ?_
  refine St_region ?_
  refine Ls_run (run_eql rfl rfl) rfl ?_
  refine Ls_run (run_assign rfl) rfl ?_
  refine Ls_nil ?_
  refine Jm_seq ?_
  refine St_ifPK rfl (fun h1 => ?_) (fun h1 => ?_)
  · skip
    refine St_skip ?_
    refine Jm_seq ?_
    refine St_ift rfl ?_
    refine St_seq ?_
    refine St_region ?_
    refine Ls_run (run_assign rfl) rfl ?_
    refine Ls_nil ?_
    refine Jm_seq ?_
    refine St_ret ?_
    refine Jm_block_ret (Jm_then_ret  ?_)
    refine Jm_ret1 rfl rfl ?_
    refine ⟨_, rfl, rfl, ?_⟩
    congr 1
    unfold mof
    repeat' (first | omega | split)
  · skip
    refine St_seq ?_
    refine St_region ?_
    refine Ls_run (run_eql rfl rfl) rfl ?_
    refine Ls_run (run_assign rfl) rfl ?_
    refine Ls_nil ?_
    refine Jm_seq ?_
    refine St_ifPK rfl (fun h3 => ?_) (fun h3 => ?_)
    · skip
      refine St_skip ?_
      refine Jm_seq ?_
      refine St_ift rfl ?_
      refine St_seq ?_
      refine St_region ?_
      refine Ls_run (run_assign rfl) rfl ?_
      refine Ls_nil ?_
      refine Jm_seq ?_
      refine St_ret ?_
      refine Jm_block_ret (Jm_then_ret  ?_)
      refine Jm_ret1 rfl rfl ?_
      refine ⟨_, rfl, rfl, ?_⟩
      congr 1
      unfold mof
      repeat' (first | omega | split)
    · skip
      refine St_seq ?_
      refine St_region ?_
      refine Ls_run (run_eql rfl rfl) rfl ?_
      refine Ls_run (run_assign rfl) rfl ?_
      refine Ls_nil ?_
      refine Jm_seq ?_
      refine St_ifPK rfl (fun h5 => ?_) (fun h5 => ?_)
      · skip
        refine St_skip ?_
        refine Jm_seq ?_
        refine St_ift rfl ?_
        refine St_seq ?_
        refine St_region ?_
        refine Ls_run (run_assign rfl) rfl ?_
        refine Ls_nil ?_
        refine Jm_seq ?_
        refine St_ret ?_
        refine Jm_block_ret (Jm_then_ret  ?_)
        refine Jm_ret1 rfl rfl ?_
        refine ⟨_, rfl, rfl, ?_⟩
        congr 1
        unfold mof
        repeat' (first | omega | split)
      · skip
        refine St_region ?_
        refine Ls_run (run_eql rfl rfl) rfl ?_
        refine Ls_run (run_assign rfl) rfl ?_
        refine Ls_nil ?_
        refine Jm_seq ?_
        refine St_ifPK rfl (fun h7 => ?_) (fun h7 => ?_)
        · skip
          refine St_seq ?_
          refine St_region ?_
          refine Ls_run (run_assign rfl) rfl ?_
          refine Ls_nil ?_
          refine Jm_seq ?_
          refine St_ret ?_
          refine Jm_block_ret (Jm_then_ret  ?_)
          refine Jm_ret1 rfl rfl ?_
          refine ⟨_, rfl, rfl, ?_⟩
          congr 1
          unfold mof
          repeat' (first | omega | split)
        · skip
          refine St_seq ?_
          refine St_region ?_
          refine Ls_run (run_eql rfl rfl) rfl ?_
          refine Ls_run (run_assign rfl) rfl ?_
          refine Ls_nil ?_
          refine Jm_seq ?_
          refine St_ifPK rfl (fun h8 => ?_) (fun h8 => ?_)
          · skip
            refine St_seq ?_
            refine St_region ?_
            refine Ls_run (run_assign rfl) rfl ?_
            refine Ls_nil ?_
            refine Jm_seq ?_
            refine St_ret ?_
            refine Jm_block_ret (Jm_then_ret  ?_)
            refine Jm_ret1 rfl rfl ?_
            refine ⟨_, rfl, rfl, ?_⟩
            congr 1
            unfold mof
            repeat' (first | omega | split)
          · skip
            refine St_seq ?_
            refine St_region ?_
            refine Ls_run (run_eql rfl rfl) rfl ?_
            refine Ls_run (run_assign rfl) rfl ?_
            refine Ls_nil ?_
            refine Jm_seq ?_
            refine St_ifPK rfl (fun h9 => ?_) (fun h9 => ?_)
            · skip
              refine St_seq ?_
              refine St_region ?_
              refine Ls_run (run_assign rfl) rfl ?_
              refine Ls_nil ?_
              refine Jm_seq ?_
              refine St_ret ?_
              refine Jm_block_ret (Jm_then_ret  ?_)
              refine Jm_ret1 rfl rfl ?_
              refine ⟨_, rfl, rfl, ?_⟩
              congr 1
              unfold mof
              repeat' (first | omega | split)
            · skip
              refine St_seq ?_
              refine St_seq ?_
              refine St_region ?_
              refine Ls_run (run_eql rfl rfl) rfl ?_
              refine Ls_run (run_assign rfl) rfl ?_
              refine Ls_nil ?_
              refine Jm_seq ?_
              refine St_ifPK rfl (fun h10 => ?_) (fun h10 => ?_)
              · skip
                refine St_skip ?_
                refine Jm_seq ?_
                refine St_ift rfl ?_
                refine St_seq ?_
                refine St_region ?_
                refine Ls_run (run_assign rfl) rfl ?_
                refine Ls_nil ?_
                refine Jm_seq ?_
                refine St_ret ?_
                refine Jm_block_ret (Jm_then_ret  ?_)
                refine Jm_ret1 rfl rfl ?_
                refine ⟨_, rfl, rfl, ?_⟩
                congr 1
                unfold mof
                repeat' (first | omega | split)
              · skip
                refine St_region ?_
                refine Ls_run (run_eql rfl rfl) rfl ?_
                refine Ls_run (run_assign rfl) rfl ?_
                refine Ls_nil ?_
                refine Jm_seq ?_
                refine St_ifPK rfl (fun h12 => ?_) (fun h12 => ?_)
                · skip
                  refine St_seq ?_
                  refine St_region ?_
                  refine Ls_run (run_assign rfl) rfl ?_
                  refine Ls_nil ?_
                  refine Jm_seq ?_
                  refine St_ret ?_
                  refine Jm_block_ret (Jm_then_ret  ?_)
                  refine Jm_ret1 rfl rfl ?_
                  refine ⟨_, rfl, rfl, ?_⟩
                  congr 1
                  unfold mof
                  repeat' (first | omega | split)
                · skip
                  refine St_skip ?_
                  refine Jm_block_normal (Jm_seq ?_)
                  refine St_seq ?_
                  refine St_region ?_
                  refine Ls_run (run_assign rfl) rfl ?_
                  refine Ls_nil ?_
                  refine Jm_seq ?_
                  refine St_ret ?_
                  refine Jm_ret1 rfl rfl ?_
                  refine ⟨_, rfl, rfl, ?_⟩
                  congr 1
                  unfold mof
                  repeat' (first | omega | split)
set_option maxRecDepth 100000 in
set_option maxHeartbeats 1000000 in
theorem within_c (w : World) (a b c : Int) :
    Calls Try.prog 71 [.int .i64 a, .int .i64 b, .int .i64 c].toArray w (Ret (fun v' w' => w = w' ∧ v' = .bool (decide (a ≤ b ∧ b ≤ c)))) := by
  refine Calls_body Try.func71 rfl rfl rfl (envE_cons (i := 0) (v := .int .i64 a) rfl (envE_cons (i := 1) (v := .int .i64 b) rfl (envE_cons (i := 2) (v := .int .i64 c) rfl envE_nil))) ?_
  refine St_seq ?_
  refine St_region ?_
  refine Ls_run (run_assign rfl) rfl ?_
  refine Ls_nil ?_
  refine Jm_seq ?_
  refine St_seq ?_
  refine St_region ?_
  refine Ls_run (run_move rfl) rfl ?_
  refine Ls_run (run_move rfl) rfl ?_
  refine Ls_run (run_leq rfl rfl) rfl ?_
  refine Ls_run (run_move rfl) rfl ?_
  refine Ls_partP (t := 10) rfl (fun h1 => ?_) (fun h1 => ?_)
  · skip
    refine Ls_on rfl rfl ?_
    refine Ls_run (run_move rfl) rfl ?_
    refine Ls_on rfl rfl ?_
    refine Ls_run (run_move rfl) rfl ?_
    refine Ls_on rfl rfl ?_
    refine Ls_run (run_leq rfl rfl) rfl ?_
    refine Ls_run (run_pick_t rfl rfl) rfl ?_
    refine Ls_run (run_assign rfl) rfl ?_
    refine Ls_nil ?_
    refine Jm_seq ?_
    refine St_ret ?_
    refine Jm_ret1 rfl rfl ?_
    refine ⟨_, rfl, rfl, ?_⟩
    congr 1
    first | exact decide_eq_decide.2 (by omega) | exact (decide_eq_true (by omega)).symm | exact (decide_eq_false (by omega)).symm
  · skip
    refine Ls_off rfl rfl rfl rfl ?_
    refine Ls_off rfl rfl rfl rfl ?_
    refine Ls_off rfl rfl rfl rfl ?_
    refine Ls_run (run_pick_f rfl rfl) rfl ?_
    refine Ls_run (run_assign rfl) rfl ?_
    refine Ls_nil ?_
    refine Jm_seq ?_
    refine St_ret ?_
    refine Jm_ret1 rfl rfl ?_
    refine ⟨_, rfl, rfl, ?_⟩
    congr 1
    first | exact decide_eq_decide.2 (by omega) | exact (decide_eq_true (by omega)).symm | exact (decide_eq_false (by omega)).symm
set_option maxRecDepth 100000 in
set_option maxHeartbeats 1000000 in
theorem isEnds_c (w : World) (A : Option Addr) (n c : Nat) (l : List Int) (hr : Rd w A n c 1 ((El.int .i64).flat l)) (hn : n ≤ 9223372036854775807) :
    Calls Try.prog 72 [.slice A n c].toArray w (Ret (fun v' w' => w = w' ∧ v' = .bool (decide (endsOk l)))) := by
  have hs := Sat.start w
  have hl : l.length = n := by have := hr.len; rw [El.flat_length] at this; exact Nat.eq_of_mul_eq_mul_right (by decide) this
  refine Calls_body Try.func72 rfl rfl rfl (envE_cons (i := 0) (v := .slice A n c) rfl envE_nil) ?_
  refine St_seq ?_
  refine St_region ?_
  refine Ls_run (run_assign rfl) rfl ?_
  refine Ls_nil ?_
  refine Jm_seq ?_
  refine St_seq ?_
  refine St_seq ?_
  refine St_region ?_
  refine Ls_run (run_move rfl) rfl ?_
  refine Ls_run (run_len Try.underlying22 rfl) rfl ?_
  refine Ls_run (run_move rfl) rfl ?_
  refine Ls_nil ?_
  refine Jm_seq ?_
  refine St_block ?_
  obtain ⟨En1, hEn1⟩ : ∃ F : Nat → Env, ∀ (i : Nat), F i = [(0, .slice A n c), (5, .slice A n c), (6, .int .i64 (n : Int)), (7, .int .i64 (i : Int))] := ⟨(fun (i : Nat) => [(0, .slice A n c), (5, .slice A n c), (6, .int .i64 (n : Int)), (7, .int .i64 (i : Int))]), fun _ => rfl⟩
  obtain ⟨Iv2, hIv2⟩ : ∃ F : Nat → World → Prop, ∀ (i : Nat) (wr : World), F i wr = (Sat w wr [] ∧ w = wr ∧ i ≤ n ∧ (∀ y ∈ l.take i, 0 ≤ y ∧ y ≤ 256)) := ⟨(fun (i : Nat) => fun (wr : World) => Sat w wr [] ∧ w = wr ∧ i ≤ n ∧ (∀ y ∈ l.take i, 0 ≤ y ∧ y ≤ 256)), fun _ _ => rfl⟩
  obtain ⟨ms3, hms3⟩ : ∃ F : Nat → Nat, ∀ (i : Nat), F i = (n - i) := ⟨(fun (i : Nat) => n - i), fun _ => rfl⟩
  refine St_loop En1 Iv2 ms3 (0) ?_ ?_ ?_
  · skip
    rw [hIv2]
    exact ⟨hs, rfl, by omega, by simp⟩
  · rw [hEn1]; exact (subE_cons rfl (subE_cons rfl (subE_cons rfl (subE_cons rfl subE_nil))))
  rintro i wr hI4
  rw [hIv2] at hI4
  obtain ⟨hs, hw, hi, hok⟩ := hI4
  refine St_eqE (hEn1 _) ?_
  refine St_seq ?_
  refine St_region ?_
  refine Ls_run (run_lss rfl rfl) rfl ?_
  refine Ls_nil ?_
  refine Jm_seq ?_
  refine St_seq ?_
  refine St_ifP rfl (fun h5 => ?_) (fun h5 => ?_)
  · skip
    refine St_skip ?_
    refine Jm_seq ?_
    refine St_seq ?_
    refine St_block ?_
    refine St_seq ?_
    refine St_region ?_
    have hmem : l.getD i 0 ∈ l := getD_mem3 (by omega)
    refine Ls_index (El.int .i64) (hr.inB hs) Try.underlying22 inf3 rfl rfl (by omega) (by omega) (show _ = l.getD i 0 from rfl) rfl ?_
    intro b6 o7 hc8
    refine Ls_run (run_load sc3 rfl (hc8 0 _ rfl)) rfl ?_
    refine Ls_run (run_assign rfl) rfl ?_
    refine Ls_nil ?_
    refine Jm_seq ?_
    refine St_seq ?_
    refine St_region ?_
    refine Ls_run (run_move rfl) rfl ?_
    refine Ls_call Try.func71 nm71 rfl rfl (within_c wr 0 (l.getD i 0) 256) rfl ?_
    rintro v9 w10 ⟨rfl, rfl⟩
    refine Ls_run (run_not rfl) rfl ?_
    refine Ls_nil ?_
    refine Jm_seq ?_
    refine St_ifN rfl (fun h11 => ?_) (fun h11 => ?_)
    · skip
      refine St_seq ?_
      refine St_region ?_
      refine Ls_run (run_assign rfl) rfl ?_
      refine Ls_nil ?_
      refine Jm_seq ?_
      refine St_ret ?_
      refine Jm_block_ret (Jm_then_ret (Jm_then_ret (Jm_block_ret (Jm_then_ret  ?_))))
      refine Jm_ret1 rfl rfl ?_
      refine ⟨_, rfl, hw, ?_⟩
      congr 1
      exact (decide_eq_false (fun q => by have := q.1 _ hmem; omega)).symm
    · skip
      refine St_skip ?_
      refine Jm_block_normal (Jm_seq ?_)
      refine St_region ?_
      refine Ls_run (run_add rfl rfl (w64 (by omega))) rfl ?_
      refine Ls_run (run_move rfl) rfl ?_
      refine Ls_nil ?_
      refine Jm_round (i + 1) ?_ ?_ ?_
      · rw [hEn1]; exact (subE_cons rfl (subE_cons rfl (subE_cons rfl (subE_cons rfl subE_nil))))
      · skip
        rw [hIv2]
        refine ⟨hs, hw, by omega, fun y hy => ?_⟩
        rw [take_snoc3 (d := 0) (by omega)] at hy
        rcases List.mem_append.1 hy with q | q
        · exact hok y q
        · simp only [List.mem_singleton] at q; subst q; omega
      · skip
        rw [hms3, hms3]
        omega
  · skip
    refine St_exit ?_
    refine Jm_then_exit (Jm_then_exit (Jm_block_same (Jm_seq ?_)))
    refine St_seq ?_
    refine St_region ?_
    refine Ls_run (run_move rfl) rfl ?_
    refine Ls_run (run_len Try.underlying22 rfl) rfl ?_
    refine Ls_call Try.func71 nm71 rfl rfl (within_c wr 1 (n : Int) 4) rfl ?_
    rintro v12 w13 ⟨rfl, rfl⟩
    refine Ls_run (run_assign rfl) rfl ?_
    refine Ls_nil ?_
    refine Jm_seq ?_
    refine St_ret ?_
    refine Jm_ret1 rfl rfl ?_
    refine ⟨_, rfl, hw, ?_⟩
    congr 1
    have hi9 : i = n := by omega
    rw [hi9, List.take_of_length_le (by omega)] at hok
    exact decide_eq_decide.2 ⟨fun q => ⟨hok, by omega, by omega⟩, fun q => ⟨by have := q.2.1; omega, by have := q.2.2; omega⟩⟩
set_option maxRecDepth 100000 in
set_option maxHeartbeats 1000000 in
theorem Rising_c (w : World) (A : Option Addr) (n c : Nat) (l : List Int) (hr : Rd w A n c 1 ((El.int .u64).flat l)) (hn : n ≤ 9223372036854775807) :
    Calls Try.prog 73 [.slice A n c].toArray w (Ret (fun v' w' => w = w' ∧ v' = .bool (decide (risesOk l)))) := by
  have hs := Sat.start w
  have hl : l.length = n := by have := hr.len; rw [El.flat_length] at this; exact Nat.eq_of_mul_eq_mul_right (by decide) this
  refine Calls_body Try.func73 rfl rfl rfl (envE_cons (i := 0) (v := .slice A n c) rfl envE_nil) ?_
  refine St_seq ?_
  refine St_region ?_
  refine Ls_run (run_assign rfl) rfl ?_
  refine Ls_nil ?_
  refine Jm_seq ?_
  refine St_seq ?_
  refine St_seq ?_
  refine St_region ?_
  refine Ls_run (run_move rfl) rfl ?_
  refine Ls_run (run_len Try.underlying23 rfl) rfl ?_
  refine Ls_run (run_move rfl) rfl ?_
  refine Ls_nil ?_
  refine Jm_seq ?_
  refine St_block ?_
  obtain ⟨En1, hEn1⟩ : ∃ F : Nat → Env, ∀ (i : Nat), F i = [(0, .slice A n c), (5, .slice A n c), (6, .int .i64 (n : Int)), (7, .int .i64 (i : Int))] := ⟨(fun (i : Nat) => [(0, .slice A n c), (5, .slice A n c), (6, .int .i64 (n : Int)), (7, .int .i64 (i : Int))]), fun _ => rfl⟩
  obtain ⟨Iv2, hIv2⟩ : ∃ F : Nat → World → Prop, ∀ (i : Nat) (wr : World), F i wr = (Sat w wr [] ∧ w = wr ∧ 0 ≤ i ∧ i ≤ n ∧ (∀ j, 1 ≤ j → j < i → l.getD (j - 1) 0 < l.getD j 0)) := ⟨(fun (i : Nat) => fun (wr : World) => Sat w wr [] ∧ w = wr ∧ 0 ≤ i ∧ i ≤ n ∧ (∀ j, 1 ≤ j → j < i → l.getD (j - 1) 0 < l.getD j 0)), fun _ _ => rfl⟩
  obtain ⟨ms3, hms3⟩ : ∃ F : Nat → Nat, ∀ (i : Nat), F i = (n - i) := ⟨(fun (i : Nat) => n - i), fun _ => rfl⟩
  refine St_loop En1 Iv2 ms3 (0) ?_ ?_ ?_
  · skip
    rw [hIv2]
    exact ⟨hs, rfl, by omega, by omega, fun j h1 h2 => by omega⟩
  · rw [hEn1]; exact (subE_cons rfl (subE_cons rfl (subE_cons rfl (subE_cons rfl subE_nil))))
  rintro i wr hI4
  rw [hIv2] at hI4
  obtain ⟨hs, hw, hlo, hi, hok⟩ := hI4
  refine St_eqE (hEn1 _) ?_
  refine St_seq ?_
  refine St_region ?_
  refine Ls_run (run_lss rfl rfl) rfl ?_
  refine Ls_nil ?_
  refine Jm_seq ?_
  refine St_seq ?_
  refine St_ifP rfl (fun h5 => ?_) (fun h5 => ?_)
  · skip
    refine St_skip ?_
    refine Jm_seq ?_
    refine St_seq ?_
    refine St_block ?_
    refine St_seq ?_
    refine St_region ?_
    refine Ls_run (run_move rfl) rfl ?_
    refine Ls_index (El.int .u64) (hr.inB hs) Try.underlying23 inf38 rfl rfl (by omega) (by omega) (show _ = l.getD i 0 from rfl) rfl ?_
    intro b6 o7 hc8
    refine Ls_run (run_load sc38 rfl (hc8 0 _ rfl)) rfl ?_
    refine Ls_run (run_assign rfl) rfl ?_
    refine Ls_run (run_assign rfl) rfl ?_
    refine Ls_nil ?_
    refine Jm_seq ?_
    refine St_seq ?_
    refine St_region ?_
    refine Ls_run (run_move rfl) rfl ?_
    refine Ls_run (run_gtr rfl rfl) rfl ?_
    refine Ls_run (run_move rfl) rfl ?_
    refine Ls_partP (t := 14) rfl (fun h9 => ?_) (fun h9 => ?_)
    · skip
      refine Ls_on rfl rfl ?_
      refine Ls_run (run_move rfl) rfl ?_
      refine Ls_on rfl rfl ?_
      refine Ls_run (run_move rfl) rfl ?_
      refine Ls_on rfl rfl ?_
      refine Ls_run (run_move rfl) rfl ?_
      refine Ls_on rfl rfl ?_
      refine Ls_run (run_sub rfl rfl (show _ = ((i - 1 : Nat) : Int) by rw [w64 (by omega)]; omega)) rfl ?_
      refine Ls_on rfl rfl ?_
      refine Ls_index (El.int .u64) (hr.inB hs) Try.underlying23 inf38 rfl rfl (by omega) (by omega) (show _ = l.getD (i - 1) 0 from rfl) rfl ?_
      intro b10 o11 hc12
      refine Ls_on rfl rfl ?_
      refine Ls_run (run_load sc38 rfl (hc12 0 _ rfl)) rfl ?_
      refine Ls_on rfl rfl ?_
      refine Ls_run (run_leq rfl rfl) rfl ?_
      refine Ls_run (run_pick_t rfl rfl) rfl ?_
      refine Ls_nil ?_
      refine Jm_seq ?_
      refine St_ifP rfl (fun h13 => ?_) (fun h13 => ?_)
      · skip
        refine St_seq ?_
        refine St_region ?_
        refine Ls_run (run_assign rfl) rfl ?_
        refine Ls_nil ?_
        refine Jm_seq ?_
        refine St_ret ?_
        refine Jm_block_ret (Jm_then_ret (Jm_then_ret (Jm_block_ret (Jm_then_ret  ?_))))
        refine Jm_ret1 rfl rfl ?_
        refine ⟨_, rfl, hw, ?_⟩
        congr 1
        exact (decide_eq_false (rises_no (i := i) (by omega) (by omega) (by omega))).symm
      · skip
        refine St_skip ?_
        refine Jm_block_normal (Jm_seq ?_)
        refine St_region ?_
        refine Ls_run (run_add rfl rfl (w64 (by omega))) rfl ?_
        refine Ls_run (run_move rfl) rfl ?_
        refine Ls_nil ?_
        refine Jm_round (i + 1) ?_ ?_ ?_
        · rw [hEn1]; exact (subE_cons rfl (subE_cons rfl (subE_cons rfl (subE_cons rfl subE_nil))))
        · skip
          rw [hIv2]
          refine ⟨hs, hw, by omega, by omega, fun j h1 h2 => ?_⟩
          rcases Nat.lt_or_ge j i with q | q
          · exact hok j h1 q
          · have e : j = i := by omega
            subst e; omega
        · skip
          rw [hms3, hms3]
          omega
    · skip
      refine Ls_off rfl rfl rfl rfl ?_
      refine Ls_off rfl rfl rfl rfl ?_
      refine Ls_off rfl rfl rfl rfl ?_
      refine Ls_off rfl rfl rfl rfl ?_
      refine Ls_off rfl rfl rfl rfl ?_
      refine Ls_off rfl rfl rfl rfl ?_
      refine Ls_off rfl rfl rfl rfl ?_
      refine Ls_run (run_pick_f rfl rfl) rfl ?_
      refine Ls_nil ?_
      refine Jm_seq ?_
      refine St_iff rfl ?_
      refine St_skip ?_
      refine Jm_block_normal (Jm_seq ?_)
      refine St_region ?_
      refine Ls_run (run_add rfl rfl (w64 (by omega))) rfl ?_
      refine Ls_run (run_move rfl) rfl ?_
      refine Ls_nil ?_
      refine Jm_round (i + 1) ?_ ?_ ?_
      · rw [hEn1]; exact (subE_cons rfl (subE_cons rfl (subE_cons rfl (subE_cons rfl subE_nil))))
      · skip
        rw [hIv2]
        refine ⟨hs, hw, by omega, by omega, fun j h1 h2 => ?_⟩
        rcases Nat.lt_or_ge j i with q | q
        · exact hok j h1 q
        · have e : j = i := by omega
          subst e; omega
      · skip
        rw [hms3, hms3]
        omega
  · skip
    refine St_exit ?_
    refine Jm_then_exit (Jm_then_exit (Jm_block_same (Jm_seq ?_)))
    refine St_seq ?_
    refine St_region ?_
    refine Ls_run (run_assign rfl) rfl ?_
    refine Ls_nil ?_
    refine Jm_seq ?_
    refine St_ret ?_
    refine Jm_ret1 rfl rfl ?_
    refine ⟨_, rfl, hw, ?_⟩
    congr 1
    exact (decide_eq_true (rises_ok (n := n) (by omega) (fun j h1 h2 => hok j h1 (by omega)))).symm
set_option maxRecDepth 100000 in
set_option maxHeartbeats 1000000 in
theorem rRising_c (w : World) (A : Option Addr) (n c : Nat) (l : List Int) (hr : Rd w A n c 1 ((El.int .u64).flat l)) (hn : n ≤ 9223372036854775807) :
    Calls Try.prog 75 [.slice A n c].toArray w (Ret (fun v' w' => v' = .bool (decide (risesOk l)) ∧ Sat w w' [])) := by
  have hs := Sat.start w
  have hl : l.length = n := by have := hr.len; rw [El.flat_length] at this; exact Nat.eq_of_mul_eq_mul_right (by decide) this
  refine Calls_body Try.func75 rfl rfl rfl (envE_cons (i := 0) (v := .slice A n c) rfl envE_nil) ?_
  refine St_seq ?_
  refine St_region ?_
  refine Ls_run (run_assign rfl) rfl ?_
  refine Ls_nil ?_
  refine Jm_seq ?_
  refine St_seq ?_
  refine St_seq ?_
  refine St_region ?_
  refine Ls_run (run_assign rfl) rfl ?_
  refine Ls_nil ?_
  refine Jm_seq ?_
  refine St_block ?_
  obtain ⟨En1, hEn1⟩ : ∃ F : Nat → Env, ∀ (i : Nat), F i = [(0, .slice A n c), (3, .int .i64 (i : Int))] := ⟨(fun (i : Nat) => [(0, .slice A n c), (3, .int .i64 (i : Int))]), fun _ => rfl⟩
  obtain ⟨Iv2, hIv2⟩ : ∃ F : Nat → World → Prop, ∀ (i : Nat) (wr : World), F i wr = (Sat w wr [] ∧ 1 ≤ i ∧ (i ≤ n ∨ i = 1) ∧ (∀ j, 1 ≤ j → j < i → l.getD (j - 1) 0 < l.getD j 0)) := ⟨(fun (i : Nat) => fun (wr : World) => Sat w wr [] ∧ 1 ≤ i ∧ (i ≤ n ∨ i = 1) ∧ (∀ j, 1 ≤ j → j < i → l.getD (j - 1) 0 < l.getD j 0)), fun _ _ => rfl⟩
  obtain ⟨ms3, hms3⟩ : ∃ F : Nat → Nat, ∀ (i : Nat), F i = (n - i) := ⟨(fun (i : Nat) => n - i), fun _ => rfl⟩
  refine St_loop En1 Iv2 ms3 (1) ?_ ?_ ?_
  · skip
    rw [hIv2]
    exact ⟨hs, by omega, by omega, fun j h1 h2 => by omega⟩
  · rw [hEn1]; exact (subE_cons rfl (subE_cons rfl subE_nil))
  rintro i wr hI4
  rw [hIv2] at hI4
  obtain ⟨hs, hlo, hi, hok⟩ := hI4
  refine St_eqE (hEn1 _) ?_
  refine St_seq ?_
  refine St_seq ?_
  refine St_region ?_
  refine Ls_run (run_move rfl) rfl ?_
  refine Ls_run (run_move rfl) rfl ?_
  refine Ls_run (run_len Try.underlying23 rfl) rfl ?_
  refine Ls_run (run_lss rfl rfl) rfl ?_
  refine Ls_nil ?_
  refine Jm_seq ?_
  refine St_ifP rfl (fun h5 => ?_) (fun h5 => ?_)
  · skip
    refine St_skip ?_
    refine Jm_seq ?_
    refine St_seq ?_
    refine St_block ?_
    refine St_seq ?_
    refine St_draw (fun x => Below wr.heap.size wr x) mixed ?_
    intro w6 q7
    have hH := q7.below
    replace hs := hs.quiet q7
    refine An_grow hH ?_
    replace hH := Below.refl w6.heap.size w6
    refine An_take 0 rfl (by kernel_rfl) (by kernel_rfl) (by kernel_rfl) (fun _ _ _ h => h) hH (fun x hx => run_move rfl) rfl ?_
    refine An_take 1 rfl (by kernel_rfl) (by kernel_rfl) (by kernel_rfl) (fun _ _ _ h => h) hH (fun x hx => run_move rfl) rfl ?_
    refine An_index 2  (El.int .u64) rfl (by kernel_rfl) (by kernel_rfl) (by kernel_rfl) (fun _ _ _ _ h => h) hH (fun x hx => ((hr.inB hs).grow hx)) Try.underlying23 inf38 rfl rfl (by omega) (by omega) (show _ = l.getD i 0 from rfl) rfl ?_
    intro b8 o9 hc10
    refine An_take 3 rfl (by kernel_rfl) (by kernel_rfl) (by kernel_rfl) (fun _ _ _ h => h) hH (fun x hx => run_load sc38 rfl ((hc10 x hx) 0 _ rfl)) rfl ?_
    refine An_take 4 rfl (by kernel_rfl) (by kernel_rfl) (by kernel_rfl) (fun _ _ _ h => h) hH (fun x hx => run_move rfl) rfl ?_
    refine An_take 5 rfl (by kernel_rfl) (by kernel_rfl) (by kernel_rfl) (fun _ _ _ h => h) hH (fun x hx => run_move rfl) rfl ?_
    refine An_take 6 rfl (by kernel_rfl) (by kernel_rfl) (by kernel_rfl) (fun _ _ _ h => h) hH (fun x hx => run_sub rfl rfl (show _ = ((i - 1 : Nat) : Int) by rw [w64 (by omega)]; omega)) rfl ?_
    refine An_index 7  (El.int .u64) rfl (by kernel_rfl) (by kernel_rfl) (by kernel_rfl) (fun _ _ _ _ h => h) hH (fun x hx => ((hr.inB hs).grow hx)) Try.underlying23 inf38 rfl rfl (by omega) (by omega) (show _ = l.getD (i - 1) 0 from rfl) rfl ?_
    intro b11 o12 hc13
    refine An_take 8 rfl (by kernel_rfl) (by kernel_rfl) (by kernel_rfl) (fun _ _ _ h => h) hH (fun x hx => run_load sc38 rfl ((hc13 x hx) 0 _ rfl)) rfl ?_
    refine An_take 9 rfl (by kernel_rfl) (by kernel_rfl) (by kernel_rfl) (fun _ _ _ h => h) hH (fun x hx => run_leq rfl rfl) rfl ?_
    refine An_done (by kernel_rfl) ?_
    refine Jm_seq ?_
    refine St_ifP rfl (fun h14 => ?_) (fun h14 => ?_)
    · skip
      refine St_seq ?_
      refine St_region ?_
      refine Ls_run (run_assign rfl) rfl ?_
      refine Ls_nil ?_
      refine Jm_seq ?_
      refine St_ret ?_
      refine Jm_block_ret (Jm_then_ret (Jm_then_ret (Jm_block_ret (Jm_then_ret  ?_))))
      refine Jm_ret1 rfl rfl ?_
      refine ⟨_, rfl, ?_, hs⟩
      congr 1
      exact (decide_eq_false (rises_no (i := i) (by omega) (by omega) (by omega))).symm
    · skip
      refine St_skip ?_
      refine Jm_block_normal (Jm_seq ?_)
      refine St_region ?_
      refine Ls_run (run_move rfl) rfl ?_
      refine Ls_run (run_add rfl rfl (w64 (by omega))) rfl ?_
      refine Ls_run (run_assign rfl) rfl ?_
      refine Ls_nil ?_
      refine Jm_round (i + 1) ?_ ?_ ?_
      · rw [hEn1]; exact (subE_cons rfl (subE_cons rfl subE_nil))
      · skip
        rw [hIv2]
        refine ⟨hs, by omega, by omega, fun j h1 h2 => ?_⟩
        rcases Nat.lt_or_ge j i with q | q
        · exact hok j h1 q
        · have e : j = i := by omega
          subst e; omega
      · skip
        rw [hms3, hms3]
        omega
  · skip
    refine St_exit ?_
    refine Jm_then_exit (Jm_then_exit (Jm_block_same (Jm_seq ?_)))
    refine St_seq ?_
    refine St_region ?_
    refine Ls_run (run_assign rfl) rfl ?_
    refine Ls_nil ?_
    refine Jm_seq ?_
    refine St_ret ?_
    refine Jm_ret1 rfl rfl ?_
    refine ⟨_, rfl, ?_, hs⟩
    congr 1
    exact (decide_eq_true (rises_ok (n := n) (by omega) (fun j h1 h2 => hok j h1 (by omega)))).symm
set_option maxRecDepth 100000 in
set_option maxHeartbeats 1000000 in
theorem fSound_c (w : World) (A : Option Addr) (n c : Nat) (l : List Pr) (hr : Rd w A n c 3 (KP.flat l)) (hn : n ≤ 9223372036854775807) :
    Calls Try.prog 74 [.slice A n c].toArray w (Ret (fun v' w' => v' = .bool (decide (pairsOk l)) ∧ Sat w w' [])) := by
  have hs := Sat.start w
  have hl : l.length = n := by have := hr.len; rw [El.flat_length] at this; exact Nat.eq_of_mul_eq_mul_right (by decide) this
  refine Calls_body Try.func74 rfl rfl rfl (envE_cons (i := 0) (v := .slice A n c) rfl envE_nil) ?_
  refine St_seq ?_
  refine St_region ?_
  refine Ls_run (run_assign rfl) rfl ?_
  refine Ls_nil ?_
  refine Jm_seq ?_
  refine St_seq ?_
  refine St_seq ?_
  refine St_region ?_
  refine Ls_run (run_move rfl) rfl ?_
  refine Ls_run (run_len Try.underlying24 rfl) rfl ?_
  refine Ls_run (run_move rfl) rfl ?_
  refine Ls_nil ?_
  refine Jm_seq ?_
  refine St_block ?_
  obtain ⟨En1, hEn1⟩ : ∃ F : Nat → Env, ∀ (i : Nat), F i = [(0, .slice A n c), (5, .slice A n c), (6, .int .i64 (n : Int)), (7, .int .i64 (i : Int))] := ⟨(fun (i : Nat) => [(0, .slice A n c), (5, .slice A n c), (6, .int .i64 (n : Int)), (7, .int .i64 (i : Int))]), fun _ => rfl⟩
  obtain ⟨Iv2, hIv2⟩ : ∃ F : Nat → World → Prop, ∀ (i : Nat) (wr : World), F i wr = (Sat w wr [] ∧ i ≤ n ∧ (∀ y ∈ l.take i, y.2.1 = true) ∧ (∀ j, 1 ≤ j → j < i → (l.getD (j - 1) (0, false, 0)).1 < (l.getD j (0, false, 0)).1)) := ⟨(fun (i : Nat) => fun (wr : World) => Sat w wr [] ∧ i ≤ n ∧ (∀ y ∈ l.take i, y.2.1 = true) ∧ (∀ j, 1 ≤ j → j < i → (l.getD (j - 1) (0, false, 0)).1 < (l.getD j (0, false, 0)).1)), fun _ _ => rfl⟩
  obtain ⟨ms3, hms3⟩ : ∃ F : Nat → Nat, ∀ (i : Nat), F i = (n - i) := ⟨(fun (i : Nat) => n - i), fun _ => rfl⟩
  refine St_loop En1 Iv2 ms3 (0) ?_ ?_ ?_
  · skip
    rw [hIv2]
    exact ⟨hs, by omega, by simp, fun j h1 h2 => by omega⟩
  · rw [hEn1]; exact (subE_cons rfl (subE_cons rfl (subE_cons rfl (subE_cons rfl subE_nil))))
  rintro i wr hI4
  rw [hIv2] at hI4
  obtain ⟨hs, hi, hok, hok2⟩ := hI4
  refine St_eqE (hEn1 _) ?_
  refine St_seq ?_
  refine St_region ?_
  refine Ls_run (run_lss rfl rfl) rfl ?_
  refine Ls_nil ?_
  refine Jm_seq ?_
  refine St_seq ?_
  refine St_ifP rfl (fun h5 => ?_) (fun h5 => ?_)
  · skip
    refine St_skip ?_
    refine Jm_seq ?_
    refine St_seq ?_
    refine St_block ?_
    refine St_seq ?_
    refine St_region ?_
    refine Ls_run (run_move rfl) rfl ?_
    obtain ⟨⟨ka, ha, ba⟩, ho⟩ : ∃ o, l.getD i (0, false, 0) = o := ⟨_, rfl⟩
    have hmem : (ka, ha, ba) ∈ l := by rw [← ho]; exact getD_mem3 (by omega)
    refine Ls_index (KP) (hr.inB hs) Try.underlying24 inf42 rfl rfl (by omega) (by omega) ho rfl ?_
    intro b6 o7 hc8
    refine Ls_run (run_load_agg agg42 inf42 rfl rfl hc8) rfl ?_
    refine Ls_alloc hs inf42 rfl ?_
    intro b10 w9 hs
    refine Ls_run (run_assign rfl) rfl ?_
    refine Ls_storeAgg hs inf42 rfl rfl rfl rfl (by simp [KP, Value.oneCell']) ?_
    intro w11 hs
    refine Ls_nil ?_
    refine Jm_seq ?_
    refine St_seq ?_
    refine St_draw (fun x => Below w11.heap.size w11 x) mixed ?_
    intro w12 q13
    have hH := q13.below
    replace hs := hs.quiet q13
    refine An_grow hH ?_
    replace hH := Below.refl w12.heap.size w12
    refine An_take 0 rfl (by kernel_rfl) (by kernel_rfl) (by kernel_rfl) (fun _ _ _ h => h) hH (fun x hx => run_as (run_field Try.underlying42 rfl inf40 (by decide) rfl) (show _ = Value.pointer (some ⟨b10, 1, none⟩) from rfl)) rfl ?_
    refine An_take 1 rfl (by kernel_rfl) (by kernel_rfl) (by kernel_rfl) (fun _ _ _ h => h) hH (fun x hx => run_as (run_field Try.underlying40 rfl inf4 (by decide) rfl) (show _ = Value.pointer (some ⟨b10, 1, none⟩) from rfl)) rfl ?_
    refine An_take 2 rfl (by kernel_rfl) (by kernel_rfl) (by kernel_rfl) (fun _ _ _ h => h) hH (fun x hx => run_load sc4 rfl ((hs.grow hx).blk_at 0 rfl 1 rfl)) rfl ?_
    refine An_take 3 rfl (by kernel_rfl) (by kernel_rfl) (by kernel_rfl) (fun _ _ _ h => h) hH (fun x hx => run_not rfl) rfl ?_
    refine An_take 4 rfl (by kernel_rfl) (by kernel_rfl) (by kernel_rfl) (fun _ _ _ h => h) hH (fun x hx => run_move rfl) rfl ?_
    refine An_part (t := 16) rfl (fun h14 => ?_) (fun h14 => ?_)
    · skip
      refine An_take_off 5 rfl (by kernel_rfl) (by kernel_rfl) (by kernel_rfl) rfl rfl rfl (fun _ _ _ h => h) hH rfl ?_
      refine An_take_off 6 rfl (by kernel_rfl) (by kernel_rfl) (by kernel_rfl) rfl rfl rfl (fun _ _ _ h => h) hH rfl ?_
      refine An_take_off 7 rfl (by kernel_rfl) (by kernel_rfl) (by kernel_rfl) rfl rfl rfl (fun _ _ _ h => h) hH rfl ?_
      refine An_take_off' 8 rfl (by kernel_rfl) (by kernel_rfl) (by kernel_rfl) rfl rfl (fun _ _ _ h => h) hH rfl ?_
      refine An_take_off' 9 rfl (by kernel_rfl) (by kernel_rfl) (by kernel_rfl) rfl rfl (fun _ _ _ h => h) hH rfl ?_
      refine An_take_off' 10 rfl (by kernel_rfl) (by kernel_rfl) (by kernel_rfl) rfl rfl (fun _ _ _ h => h) hH rfl ?_
      refine An_take_off' 11 rfl (by kernel_rfl) (by kernel_rfl) (by kernel_rfl) rfl rfl (fun _ _ _ h => h) hH rfl ?_
      refine An_take_off' 12 rfl (by kernel_rfl) (by kernel_rfl) (by kernel_rfl) rfl rfl (fun _ _ _ h => h) hH rfl ?_
      refine An_take_off' 13 rfl (by kernel_rfl) (by kernel_rfl) (by kernel_rfl) rfl rfl (fun _ _ _ h => h) hH rfl ?_
      refine An_take_off' 14 rfl (by kernel_rfl) (by kernel_rfl) (by kernel_rfl) rfl rfl (fun _ _ _ h => h) hH rfl ?_
      refine An_take_off' 15 rfl (by kernel_rfl) (by kernel_rfl) (by kernel_rfl) rfl rfl (fun _ _ _ h => h) hH rfl ?_
      refine An_take_off' 16 rfl (by kernel_rfl) (by kernel_rfl) (by kernel_rfl) rfl rfl (fun _ _ _ h => h) hH rfl ?_
      refine An_take_off 17 rfl (by kernel_rfl) (by kernel_rfl) (by kernel_rfl) rfl rfl rfl (fun _ _ _ h => h) hH rfl ?_
      refine An_take 18 rfl (by kernel_rfl) (by kernel_rfl) (by kernel_rfl) (fun _ _ _ h => h) hH (fun x hx => run_pick_t rfl rfl) rfl ?_
      refine An_done (by kernel_rfl) ?_
      refine Jm_seq ?_
      refine St_ift rfl ?_
      refine St_seq ?_
      refine St_region ?_
      refine Ls_run (run_assign rfl) rfl ?_
      refine Ls_nil ?_
      refine Jm_seq ?_
      refine St_ret ?_
      refine Jm_block_ret (Jm_then_ret (Jm_then_ret (Jm_block_ret (Jm_then_ret  ?_))))
      refine Jm_ret1 rfl rfl ?_
      refine ⟨_, rfl, ?_, hs.forget⟩
      congr 1
      first | (have hf : ha = false := (by simpa using ‹(!ha) = true›); exact (decide_eq_false (fun q => by have := q.1 _ hmem; rw [hf] at this; cases this)).symm) | exact (decide_eq_false (pairs_no (i := i) (by omega) (by omega) (by rw [ho, ho2]; show ka ≤ kb; omega))).symm
    · skip
      refine An_take_on 5 rfl (by kernel_rfl) (by kernel_rfl) (by kernel_rfl) rfl rfl (fun _ _ _ h => h) hH (fun x hx => run_move rfl) rfl ?_
      refine An_take_on 6 rfl (by kernel_rfl) (by kernel_rfl) (by kernel_rfl) rfl rfl (fun _ _ _ h => h) hH (fun x hx => run_gtr rfl rfl) rfl ?_
      refine An_take_on 7 rfl (by kernel_rfl) (by kernel_rfl) (by kernel_rfl) rfl rfl (fun _ _ _ h => h) hH (fun x hx => run_move rfl) rfl ?_
      refine An_partP (t := 19) rfl (fun h16 => ?_) (fun h16 => ?_)
      · skip
        refine An_take_on 8 rfl (by kernel_rfl) (by kernel_rfl) (by kernel_rfl) rfl rfl (fun _ _ _ h => h) hH (fun x hx => run_as (run_field Try.underlying42 rfl inf38 (by decide) rfl) (show _ = Value.pointer (some ⟨b10, 0, none⟩) from rfl)) rfl ?_
        refine An_take_on 9 rfl (by kernel_rfl) (by kernel_rfl) (by kernel_rfl) rfl rfl (fun _ _ _ h => h) hH (fun x hx => run_load sc38 rfl ((hs.grow hx).blk_at 0 rfl 0 rfl)) rfl ?_
        refine An_take_on 10 rfl (by kernel_rfl) (by kernel_rfl) (by kernel_rfl) rfl rfl (fun _ _ _ h => h) hH (fun x hx => run_move rfl) rfl ?_
        refine An_take_on 11 rfl (by kernel_rfl) (by kernel_rfl) (by kernel_rfl) rfl rfl (fun _ _ _ h => h) hH (fun x hx => run_move rfl) rfl ?_
        refine An_take_on 12 rfl (by kernel_rfl) (by kernel_rfl) (by kernel_rfl) rfl rfl (fun _ _ _ h => h) hH (fun x hx => run_sub rfl rfl (show _ = ((i - 1 : Nat) : Int) by rw [w64 (by omega)]; omega)) rfl ?_
        obtain ⟨⟨kb, hb, bb⟩, ho2⟩ : ∃ o, l.getD (i - 1) (0, false, 0) = o := ⟨_, rfl⟩
        refine An_index_on 13  (KP) rfl (by kernel_rfl) (by kernel_rfl) (by kernel_rfl) rfl rfl (fun _ _ _ _ h => h) hH (fun x hx => ((hr.inB hs).grow hx)) Try.underlying24 inf42 rfl rfl (by omega) (by omega) ho2 rfl ?_
        intro b17 o18 hc19
        refine An_take_on 14 rfl (by kernel_rfl) (by kernel_rfl) (by kernel_rfl) rfl rfl (fun _ _ _ h => h) hH (fun x hx => run_field Try.underlying42 rfl inf38 (by decide) rfl) rfl ?_
        refine An_take_on 15 rfl (by kernel_rfl) (by kernel_rfl) (by kernel_rfl) rfl rfl (fun _ _ _ h => h) hH (fun x hx => run_load sc38 rfl ((hc19 x hx) 0 _ rfl)) rfl ?_
        refine An_take_on 16 rfl (by kernel_rfl) (by kernel_rfl) (by kernel_rfl) rfl rfl (fun _ _ _ h => h) hH (fun x hx => run_leq rfl rfl) rfl ?_
        refine An_take_on 17 rfl (by kernel_rfl) (by kernel_rfl) (by kernel_rfl) rfl rfl (fun _ _ _ h => h) hH (fun x hx => run_pick_t rfl rfl) rfl ?_
        refine An_take 18 rfl (by kernel_rfl) (by kernel_rfl) (by kernel_rfl) (fun _ _ _ h => h) hH (fun x hx => run_pick_f rfl rfl) rfl ?_
        refine An_done (by kernel_rfl) ?_
        refine Jm_seq ?_
        refine St_ifP rfl (fun h20 => ?_) (fun h20 => ?_)
        · skip
          refine St_seq ?_
          refine St_region ?_
          refine Ls_run (run_assign rfl) rfl ?_
          refine Ls_nil ?_
          refine Jm_seq ?_
          refine St_ret ?_
          refine Jm_block_ret (Jm_then_ret (Jm_then_ret (Jm_block_ret (Jm_then_ret  ?_))))
          refine Jm_ret1 rfl rfl ?_
          refine ⟨_, rfl, ?_, hs.forget⟩
          congr 1
          first | (have hf : ha = false := (by simpa using ‹(!ha) = true›); exact (decide_eq_false (fun q => by have := q.1 _ hmem; rw [hf] at this; cases this)).symm) | exact (decide_eq_false (pairs_no (i := i) (by omega) (by omega) (by rw [ho, ho2]; show ka ≤ kb; omega))).symm
        · skip
          refine St_skip ?_
          refine Jm_block_normal (Jm_seq ?_)
          refine St_region ?_
          refine Ls_run (run_add rfl rfl (w64 (by omega))) rfl ?_
          refine Ls_run (run_move rfl) rfl ?_
          refine Ls_nil ?_
          refine Jm_round (i + 1) ?_ ?_ ?_
          · rw [hEn1]; exact (subE_cons rfl (subE_cons rfl (subE_cons rfl (subE_cons rfl subE_nil))))
          · skip
            rw [hIv2]
            refine ⟨hs.forget, by omega, fun y hy => ?_, fun j h1 h2 => ?_⟩
            · rw [take_snoc3 (d := (0, false, 0)) (by omega), ho] at hy
              rcases List.mem_append.1 hy with q | q
              · exact hok y q
              · simp only [List.mem_singleton] at q; subst q; first | assumption | simpa using ‹(!ha) = false›
            · rcases Nat.lt_or_ge j i with q | q
              · exact hok2 j h1 q
              · have e : j = i := by omega
                subst e; rw [ho]; first | (exfalso; omega) | (rw [ho2]; show kb < ka; omega)
          · skip
            rw [hms3, hms3]
            omega
      · skip
        refine An_take_off 8 rfl (by kernel_rfl) (by kernel_rfl) (by kernel_rfl) rfl rfl rfl (fun _ _ _ h => h) hH rfl ?_
        refine An_take_off 9 rfl (by kernel_rfl) (by kernel_rfl) (by kernel_rfl) rfl rfl rfl (fun _ _ _ h => h) hH rfl ?_
        refine An_take_off 10 rfl (by kernel_rfl) (by kernel_rfl) (by kernel_rfl) rfl rfl rfl (fun _ _ _ h => h) hH rfl ?_
        refine An_take_off 11 rfl (by kernel_rfl) (by kernel_rfl) (by kernel_rfl) rfl rfl rfl (fun _ _ _ h => h) hH rfl ?_
        refine An_take_off 12 rfl (by kernel_rfl) (by kernel_rfl) (by kernel_rfl) rfl rfl rfl (fun _ _ _ h => h) hH rfl ?_
        refine An_take_off 13 rfl (by kernel_rfl) (by kernel_rfl) (by kernel_rfl) rfl rfl rfl (fun _ _ _ h => h) hH rfl ?_
        refine An_take_off 14 rfl (by kernel_rfl) (by kernel_rfl) (by kernel_rfl) rfl rfl rfl (fun _ _ _ h => h) hH rfl ?_
        refine An_take_off 15 rfl (by kernel_rfl) (by kernel_rfl) (by kernel_rfl) rfl rfl rfl (fun _ _ _ h => h) hH rfl ?_
        refine An_take_off 16 rfl (by kernel_rfl) (by kernel_rfl) (by kernel_rfl) rfl rfl rfl (fun _ _ _ h => h) hH rfl ?_
        refine An_take_on 17 rfl (by kernel_rfl) (by kernel_rfl) (by kernel_rfl) rfl rfl (fun _ _ _ h => h) hH (fun x hx => run_pick_f rfl rfl) rfl ?_
        refine An_take 18 rfl (by kernel_rfl) (by kernel_rfl) (by kernel_rfl) (fun _ _ _ h => h) hH (fun x hx => run_pick_f rfl rfl) rfl ?_
        refine An_done (by kernel_rfl) ?_
        refine Jm_seq ?_
        refine St_iff rfl ?_
        refine St_skip ?_
        refine Jm_block_normal (Jm_seq ?_)
        refine St_region ?_
        refine Ls_run (run_add rfl rfl (w64 (by omega))) rfl ?_
        refine Ls_run (run_move rfl) rfl ?_
        refine Ls_nil ?_
        refine Jm_round (i + 1) ?_ ?_ ?_
        · rw [hEn1]; exact (subE_cons rfl (subE_cons rfl (subE_cons rfl (subE_cons rfl subE_nil))))
        · skip
          rw [hIv2]
          refine ⟨hs.forget, by omega, fun y hy => ?_, fun j h1 h2 => ?_⟩
          · rw [take_snoc3 (d := (0, false, 0)) (by omega), ho] at hy
            rcases List.mem_append.1 hy with q | q
            · exact hok y q
            · simp only [List.mem_singleton] at q; subst q; first | assumption | simpa using ‹(!ha) = false›
          · rcases Nat.lt_or_ge j i with q | q
            · exact hok2 j h1 q
            · have e : j = i := by omega
              subst e; rw [ho]; first | (exfalso; omega) | (rw [ho2]; show kb < ka; omega)
        · skip
          rw [hms3, hms3]
          omega
  · skip
    refine St_exit ?_
    refine Jm_then_exit (Jm_then_exit (Jm_block_same (Jm_seq ?_)))
    refine St_seq ?_
    refine St_region ?_
    refine Ls_run (run_assign rfl) rfl ?_
    refine Ls_nil ?_
    refine Jm_seq ?_
    refine St_ret ?_
    refine Jm_ret1 rfl rfl ?_
    refine ⟨_, rfl, ?_, hs.forget⟩
    congr 1
    have hi9 : i = n := by omega
    rw [hi9, List.take_of_length_le (by omega)] at hok
    exact (decide_eq_true (pairs_ok (n := n) (by omega) hok (fun j h1 h2 => hok2 j h1 (by omega)))).symm
set_option maxRecDepth 100000 in
set_option maxHeartbeats 1000000 in
theorem rfSound_c (w : World) (A : Option Addr) (n c : Nat) (l : List Pr) (hr : Rd w A n c 3 (KP.flat l)) (hn : n ≤ 9223372036854775807) :
    Calls Try.prog 76 [.slice A n c].toArray w (Ret (fun v' w' => v' = .bool (decide (pairsOk l)) ∧ Sat w w' [])) := by
  have hs := Sat.start w
  have hl : l.length = n := by have := hr.len; rw [El.flat_length] at this; exact Nat.eq_of_mul_eq_mul_right (by decide) this
  refine Calls_body Try.func76 rfl rfl rfl (envE_cons (i := 0) (v := .slice A n c) rfl envE_nil) ?_
  refine St_seq ?_
  refine St_region ?_
  refine Ls_run (run_assign rfl) rfl ?_
  refine Ls_nil ?_
  refine Jm_seq ?_
  refine St_seq ?_
  refine St_seq ?_
  refine St_region ?_
  refine Ls_run (run_assign rfl) rfl ?_
  refine Ls_nil ?_
  refine Jm_seq ?_
  refine St_block ?_
  obtain ⟨En1, hEn1⟩ : ∃ F : Nat → Env, ∀ (i : Nat), F i = [(0, .slice A n c), (3, .int .i64 (i : Int))] := ⟨(fun (i : Nat) => [(0, .slice A n c), (3, .int .i64 (i : Int))]), fun _ => rfl⟩
  obtain ⟨Iv2, hIv2⟩ : ∃ F : Nat → World → Prop, ∀ (i : Nat) (wr : World), F i wr = (Sat w wr [] ∧ i ≤ n ∧ (∀ y ∈ l.take i, y.2.1 = true) ∧ (∀ j, 1 ≤ j → j < i → (l.getD (j - 1) (0, false, 0)).1 < (l.getD j (0, false, 0)).1)) := ⟨(fun (i : Nat) => fun (wr : World) => Sat w wr [] ∧ i ≤ n ∧ (∀ y ∈ l.take i, y.2.1 = true) ∧ (∀ j, 1 ≤ j → j < i → (l.getD (j - 1) (0, false, 0)).1 < (l.getD j (0, false, 0)).1)), fun _ _ => rfl⟩
  obtain ⟨ms3, hms3⟩ : ∃ F : Nat → Nat, ∀ (i : Nat), F i = (n - i) := ⟨(fun (i : Nat) => n - i), fun _ => rfl⟩
  refine St_loop En1 Iv2 ms3 (0) ?_ ?_ ?_
  · skip
    rw [hIv2]
    exact ⟨hs, by omega, by simp, fun j h1 h2 => by omega⟩
  · rw [hEn1]; exact (subE_cons rfl (subE_cons rfl subE_nil))
  rintro i wr hI4
  rw [hIv2] at hI4
  obtain ⟨hs, hi, hok, hok2⟩ := hI4
  refine St_eqE (hEn1 _) ?_
  refine St_seq ?_
  refine St_seq ?_
  refine St_region ?_
  refine Ls_run (run_move rfl) rfl ?_
  refine Ls_run (run_move rfl) rfl ?_
  refine Ls_run (run_len Try.underlying24 rfl) rfl ?_
  refine Ls_run (run_lss rfl rfl) rfl ?_
  refine Ls_nil ?_
  refine Jm_seq ?_
  refine St_ifP rfl (fun h5 => ?_) (fun h5 => ?_)
  · skip
    refine St_skip ?_
    refine Jm_seq ?_
    refine St_seq ?_
    refine St_block ?_
    refine St_seq ?_
    refine St_draw (fun x => Below wr.heap.size wr x) mixed ?_
    intro w6 q7
    have hH := q7.below
    replace hs := hs.quiet q7
    refine An_grow hH ?_
    replace hH := Below.refl w6.heap.size w6
    refine An_take 0 rfl (by kernel_rfl) (by kernel_rfl) (by kernel_rfl) (fun _ _ _ h => h) hH (fun x hx => run_move rfl) rfl ?_
    refine An_take 1 rfl (by kernel_rfl) (by kernel_rfl) (by kernel_rfl) (fun _ _ _ h => h) hH (fun x hx => run_move rfl) rfl ?_
    obtain ⟨⟨ka, ha, ba⟩, ho⟩ : ∃ o, l.getD i (0, false, 0) = o := ⟨_, rfl⟩
    have hmem : (ka, ha, ba) ∈ l := by rw [← ho]; exact getD_mem3 (by omega)
    refine An_index 2  (KP) rfl (by kernel_rfl) (by kernel_rfl) (by kernel_rfl) (fun _ _ _ _ h => h) hH (fun x hx => ((hr.inB hs).grow hx)) Try.underlying24 inf42 rfl rfl (by omega) (by omega) ho rfl ?_
    intro b8 o9 hc10
    refine An_take 3 rfl (by kernel_rfl) (by kernel_rfl) (by kernel_rfl) (fun _ _ _ h => h) hH (fun x hx => run_field Try.underlying42 rfl inf40 (by decide) rfl) rfl ?_
    refine An_take 4 rfl (by kernel_rfl) (by kernel_rfl) (by kernel_rfl) (fun _ _ _ h => h) hH (fun x hx => run_field Try.underlying40 rfl inf4 (by decide) rfl) rfl ?_
    refine An_take 5 rfl (by kernel_rfl) (by kernel_rfl) (by kernel_rfl) (fun _ _ _ h => h) hH (fun x hx => run_load sc4 rfl ((hc10 x hx) 1 _ rfl)) rfl ?_
    refine An_take 6 rfl (by kernel_rfl) (by kernel_rfl) (by kernel_rfl) (fun _ _ _ h => h) hH (fun x hx => run_not rfl) rfl ?_
    refine An_take 7 rfl (by kernel_rfl) (by kernel_rfl) (by kernel_rfl) (fun _ _ _ h => h) hH (fun x hx => run_move rfl) rfl ?_
    refine An_part (t := 17) rfl (fun h11 => ?_) (fun h11 => ?_)
    · skip
      refine An_take_off 8 rfl (by kernel_rfl) (by kernel_rfl) (by kernel_rfl) rfl rfl rfl (fun _ _ _ h => h) hH rfl ?_
      refine An_take_off 9 rfl (by kernel_rfl) (by kernel_rfl) (by kernel_rfl) rfl rfl rfl (fun _ _ _ h => h) hH rfl ?_
      refine An_take_off 10 rfl (by kernel_rfl) (by kernel_rfl) (by kernel_rfl) rfl rfl rfl (fun _ _ _ h => h) hH rfl ?_
      refine An_take_off' 11 rfl (by kernel_rfl) (by kernel_rfl) (by kernel_rfl) rfl rfl (fun _ _ _ h => h) hH rfl ?_
      refine An_take_off' 12 rfl (by kernel_rfl) (by kernel_rfl) (by kernel_rfl) rfl rfl (fun _ _ _ h => h) hH rfl ?_
      refine An_take_off' 13 rfl (by kernel_rfl) (by kernel_rfl) (by kernel_rfl) rfl rfl (fun _ _ _ h => h) hH rfl ?_
      refine An_take_off' 14 rfl (by kernel_rfl) (by kernel_rfl) (by kernel_rfl) rfl rfl (fun _ _ _ h => h) hH rfl ?_
      refine An_take_off' 15 rfl (by kernel_rfl) (by kernel_rfl) (by kernel_rfl) rfl rfl (fun _ _ _ h => h) hH rfl ?_
      refine An_take_off' 16 rfl (by kernel_rfl) (by kernel_rfl) (by kernel_rfl) rfl rfl (fun _ _ _ h => h) hH rfl ?_
      refine An_take_off' 17 rfl (by kernel_rfl) (by kernel_rfl) (by kernel_rfl) rfl rfl (fun _ _ _ h => h) hH rfl ?_
      refine An_take_off' 18 rfl (by kernel_rfl) (by kernel_rfl) (by kernel_rfl) rfl rfl (fun _ _ _ h => h) hH rfl ?_
      refine An_take_off' 19 rfl (by kernel_rfl) (by kernel_rfl) (by kernel_rfl) rfl rfl (fun _ _ _ h => h) hH rfl ?_
      refine An_take_off' 20 rfl (by kernel_rfl) (by kernel_rfl) (by kernel_rfl) rfl rfl (fun _ _ _ h => h) hH rfl ?_
      refine An_take_off' 21 rfl (by kernel_rfl) (by kernel_rfl) (by kernel_rfl) rfl rfl (fun _ _ _ h => h) hH rfl ?_
      refine An_take_off' 22 rfl (by kernel_rfl) (by kernel_rfl) (by kernel_rfl) rfl rfl (fun _ _ _ h => h) hH rfl ?_
      refine An_take_off 23 rfl (by kernel_rfl) (by kernel_rfl) (by kernel_rfl) rfl rfl rfl (fun _ _ _ h => h) hH rfl ?_
      refine An_take 24 rfl (by kernel_rfl) (by kernel_rfl) (by kernel_rfl) (fun _ _ _ h => h) hH (fun x hx => run_pick_t rfl rfl) rfl ?_
      refine An_done (by kernel_rfl) ?_
      refine Jm_seq ?_
      refine St_ift rfl ?_
      refine St_seq ?_
      refine St_region ?_
      refine Ls_run (run_assign rfl) rfl ?_
      refine Ls_nil ?_
      refine Jm_seq ?_
      refine St_ret ?_
      refine Jm_block_ret (Jm_then_ret (Jm_then_ret (Jm_block_ret (Jm_then_ret  ?_))))
      refine Jm_ret1 rfl rfl ?_
      refine ⟨_, rfl, ?_, hs.forget⟩
      congr 1
      first | (have hf : ha = false := (by simpa using ‹(!ha) = true›); exact (decide_eq_false (fun q => by have := q.1 _ hmem; rw [hf] at this; cases this)).symm) | exact (decide_eq_false (pairs_no (i := i) (by omega) (by omega) (by rw [ho, ho2]; show ka ≤ kb; omega))).symm
    · skip
      refine An_take_on 8 rfl (by kernel_rfl) (by kernel_rfl) (by kernel_rfl) rfl rfl (fun _ _ _ h => h) hH (fun x hx => run_move rfl) rfl ?_
      refine An_take_on 9 rfl (by kernel_rfl) (by kernel_rfl) (by kernel_rfl) rfl rfl (fun _ _ _ h => h) hH (fun x hx => run_gtr rfl rfl) rfl ?_
      refine An_take_on 10 rfl (by kernel_rfl) (by kernel_rfl) (by kernel_rfl) rfl rfl (fun _ _ _ h => h) hH (fun x hx => run_move rfl) rfl ?_
      refine An_partP (t := 20) rfl (fun h13 => ?_) (fun h13 => ?_)
      · skip
        refine An_take_on 11 rfl (by kernel_rfl) (by kernel_rfl) (by kernel_rfl) rfl rfl (fun _ _ _ h => h) hH (fun x hx => run_move rfl) rfl ?_
        refine An_take_on 12 rfl (by kernel_rfl) (by kernel_rfl) (by kernel_rfl) rfl rfl (fun _ _ _ h => h) hH (fun x hx => run_move rfl) rfl ?_
        refine An_index_on 13  (KP) rfl (by kernel_rfl) (by kernel_rfl) (by kernel_rfl) rfl rfl (fun _ _ _ _ h => h) hH (fun x hx => ((hr.inB hs).grow hx)) Try.underlying24 inf42 rfl rfl (by omega) (by omega) ho rfl ?_
        intro b14 o15 hc16
        refine An_take_on 14 rfl (by kernel_rfl) (by kernel_rfl) (by kernel_rfl) rfl rfl (fun _ _ _ h => h) hH (fun x hx => run_field Try.underlying42 rfl inf38 (by decide) rfl) rfl ?_
        refine An_take_on 15 rfl (by kernel_rfl) (by kernel_rfl) (by kernel_rfl) rfl rfl (fun _ _ _ h => h) hH (fun x hx => run_load sc38 rfl ((hc16 x hx) 0 _ rfl)) rfl ?_
        refine An_take_on 16 rfl (by kernel_rfl) (by kernel_rfl) (by kernel_rfl) rfl rfl (fun _ _ _ h => h) hH (fun x hx => run_move rfl) rfl ?_
        refine An_take_on 17 rfl (by kernel_rfl) (by kernel_rfl) (by kernel_rfl) rfl rfl (fun _ _ _ h => h) hH (fun x hx => run_move rfl) rfl ?_
        refine An_take_on 18 rfl (by kernel_rfl) (by kernel_rfl) (by kernel_rfl) rfl rfl (fun _ _ _ h => h) hH (fun x hx => run_sub rfl rfl (show _ = ((i - 1 : Nat) : Int) by rw [w64 (by omega)]; omega)) rfl ?_
        obtain ⟨⟨kb, hb, bb⟩, ho2⟩ : ∃ o, l.getD (i - 1) (0, false, 0) = o := ⟨_, rfl⟩
        refine An_index_on 19  (KP) rfl (by kernel_rfl) (by kernel_rfl) (by kernel_rfl) rfl rfl (fun _ _ _ _ h => h) hH (fun x hx => ((hr.inB hs).grow hx)) Try.underlying24 inf42 rfl rfl (by omega) (by omega) ho2 rfl ?_
        intro b17 o18 hc19
        refine An_take_on 20 rfl (by kernel_rfl) (by kernel_rfl) (by kernel_rfl) rfl rfl (fun _ _ _ h => h) hH (fun x hx => run_field Try.underlying42 rfl inf38 (by decide) rfl) rfl ?_
        refine An_take_on 21 rfl (by kernel_rfl) (by kernel_rfl) (by kernel_rfl) rfl rfl (fun _ _ _ h => h) hH (fun x hx => run_load sc38 rfl ((hc19 x hx) 0 _ rfl)) rfl ?_
        refine An_take_on 22 rfl (by kernel_rfl) (by kernel_rfl) (by kernel_rfl) rfl rfl (fun _ _ _ h => h) hH (fun x hx => run_leq rfl rfl) rfl ?_
        refine An_take_on 23 rfl (by kernel_rfl) (by kernel_rfl) (by kernel_rfl) rfl rfl (fun _ _ _ h => h) hH (fun x hx => run_pick_t rfl rfl) rfl ?_
        refine An_take 24 rfl (by kernel_rfl) (by kernel_rfl) (by kernel_rfl) (fun _ _ _ h => h) hH (fun x hx => run_pick_f rfl rfl) rfl ?_
        refine An_done (by kernel_rfl) ?_
        refine Jm_seq ?_
        refine St_ifP rfl (fun h20 => ?_) (fun h20 => ?_)
        · skip
          refine St_seq ?_
          refine St_region ?_
          refine Ls_run (run_assign rfl) rfl ?_
          refine Ls_nil ?_
          refine Jm_seq ?_
          refine St_ret ?_
          refine Jm_block_ret (Jm_then_ret (Jm_then_ret (Jm_block_ret (Jm_then_ret  ?_))))
          refine Jm_ret1 rfl rfl ?_
          refine ⟨_, rfl, ?_, hs.forget⟩
          congr 1
          first | (have hf : ha = false := (by simpa using ‹(!ha) = true›); exact (decide_eq_false (fun q => by have := q.1 _ hmem; rw [hf] at this; cases this)).symm) | exact (decide_eq_false (pairs_no (i := i) (by omega) (by omega) (by rw [ho, ho2]; show ka ≤ kb; omega))).symm
        · skip
          refine St_skip ?_
          refine Jm_block_normal (Jm_seq ?_)
          refine St_region ?_
          refine Ls_run (run_move rfl) rfl ?_
          refine Ls_run (run_add rfl rfl (w64 (by omega))) rfl ?_
          refine Ls_run (run_assign rfl) rfl ?_
          refine Ls_nil ?_
          refine Jm_round (i + 1) ?_ ?_ ?_
          · rw [hEn1]; exact (subE_cons rfl (subE_cons rfl subE_nil))
          · skip
            rw [hIv2]
            refine ⟨hs.forget, by omega, fun y hy => ?_, fun j h1 h2 => ?_⟩
            · rw [take_snoc3 (d := (0, false, 0)) (by omega), ho] at hy
              rcases List.mem_append.1 hy with q | q
              · exact hok y q
              · simp only [List.mem_singleton] at q; subst q; first | assumption | simpa using ‹(!ha) = false›
            · rcases Nat.lt_or_ge j i with q | q
              · exact hok2 j h1 q
              · have e : j = i := by omega
                subst e; rw [ho]; first | (exfalso; omega) | (rw [ho2]; show kb < ka; omega)
          · skip
            rw [hms3, hms3]
            omega
      · skip
        refine An_take_off 11 rfl (by kernel_rfl) (by kernel_rfl) (by kernel_rfl) rfl rfl rfl (fun _ _ _ h => h) hH rfl ?_
        refine An_take_off 12 rfl (by kernel_rfl) (by kernel_rfl) (by kernel_rfl) rfl rfl rfl (fun _ _ _ h => h) hH rfl ?_
        refine An_take_off 13 rfl (by kernel_rfl) (by kernel_rfl) (by kernel_rfl) rfl rfl rfl (fun _ _ _ h => h) hH rfl ?_
        refine An_take_off 14 rfl (by kernel_rfl) (by kernel_rfl) (by kernel_rfl) rfl rfl rfl (fun _ _ _ h => h) hH rfl ?_
        refine An_take_off 15 rfl (by kernel_rfl) (by kernel_rfl) (by kernel_rfl) rfl rfl rfl (fun _ _ _ h => h) hH rfl ?_
        refine An_take_off 16 rfl (by kernel_rfl) (by kernel_rfl) (by kernel_rfl) rfl rfl rfl (fun _ _ _ h => h) hH rfl ?_
        refine An_take_off 17 rfl (by kernel_rfl) (by kernel_rfl) (by kernel_rfl) rfl rfl rfl (fun _ _ _ h => h) hH rfl ?_
        refine An_take_off 18 rfl (by kernel_rfl) (by kernel_rfl) (by kernel_rfl) rfl rfl rfl (fun _ _ _ h => h) hH rfl ?_
        refine An_take_off 19 rfl (by kernel_rfl) (by kernel_rfl) (by kernel_rfl) rfl rfl rfl (fun _ _ _ h => h) hH rfl ?_
        refine An_take_off 20 rfl (by kernel_rfl) (by kernel_rfl) (by kernel_rfl) rfl rfl rfl (fun _ _ _ h => h) hH rfl ?_
        refine An_take_off 21 rfl (by kernel_rfl) (by kernel_rfl) (by kernel_rfl) rfl rfl rfl (fun _ _ _ h => h) hH rfl ?_
        refine An_take_off 22 rfl (by kernel_rfl) (by kernel_rfl) (by kernel_rfl) rfl rfl rfl (fun _ _ _ h => h) hH rfl ?_
        refine An_take_on 23 rfl (by kernel_rfl) (by kernel_rfl) (by kernel_rfl) rfl rfl (fun _ _ _ h => h) hH (fun x hx => run_pick_f rfl rfl) rfl ?_
        refine An_take 24 rfl (by kernel_rfl) (by kernel_rfl) (by kernel_rfl) (fun _ _ _ h => h) hH (fun x hx => run_pick_f rfl rfl) rfl ?_
        refine An_done (by kernel_rfl) ?_
        refine Jm_seq ?_
        refine St_iff rfl ?_
        refine St_skip ?_
        refine Jm_block_normal (Jm_seq ?_)
        refine St_region ?_
        refine Ls_run (run_move rfl) rfl ?_
        refine Ls_run (run_add rfl rfl (w64 (by omega))) rfl ?_
        refine Ls_run (run_assign rfl) rfl ?_
        refine Ls_nil ?_
        refine Jm_round (i + 1) ?_ ?_ ?_
        · rw [hEn1]; exact (subE_cons rfl (subE_cons rfl subE_nil))
        · skip
          rw [hIv2]
          refine ⟨hs.forget, by omega, fun y hy => ?_, fun j h1 h2 => ?_⟩
          · rw [take_snoc3 (d := (0, false, 0)) (by omega), ho] at hy
            rcases List.mem_append.1 hy with q | q
            · exact hok y q
            · simp only [List.mem_singleton] at q; subst q; first | assumption | simpa using ‹(!ha) = false›
          · rcases Nat.lt_or_ge j i with q | q
            · exact hok2 j h1 q
            · have e : j = i := by omega
              subst e; rw [ho]; first | (exfalso; omega) | (rw [ho2]; show kb < ka; omega)
        · skip
          rw [hms3, hms3]
          omega
  · skip
    refine St_exit ?_
    refine Jm_then_exit (Jm_then_exit (Jm_block_same (Jm_seq ?_)))
    refine St_seq ?_
    refine St_region ?_
    refine Ls_run (run_assign rfl) rfl ?_
    refine Ls_nil ?_
    refine Jm_seq ?_
    refine St_ret ?_
    refine Jm_ret1 rfl rfl ?_
    refine ⟨_, rfl, ?_, hs.forget⟩
    congr 1
    have hi9 : i = n := by omega
    rw [hi9, List.take_of_length_le (by omega)] at hok
    exact (decide_eq_true (pairs_ok (n := n) (by omega) hok (fun j h1 h2 => hok2 j h1 (by omega)))).symm
end Go.Proofs.Ytipkfdeiallifaa.Lg
