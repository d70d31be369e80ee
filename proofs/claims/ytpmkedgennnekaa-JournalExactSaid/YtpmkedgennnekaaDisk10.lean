/-
  The law DiskLoads, walked. By program (gen/disk10.py).
-/
import Derived.Test.YtpmkedgennnekaaDisk9
import Derived.Test.YtpmkedgennnekaaDisk6
set_option linter.unusedVariables false
set_option linter.unusedSimpArgs false
namespace Go.Proofs.Ytpmkedgennnekaa.Lg
open Go Go.RowKit
theorem Parts.toK {w : World} {vs : List Value} {bl : List (List Int)} (h : Parts w vs bl) : PartsK (El.int .u8) w vs bl := ⟨h.1, fun i hi => let ⟨A, n, c, e, r⟩ := h.2 i hi; ⟨A, n, c, e, by rw [← bytesV_flat]; exact r⟩⟩
theorem dlong_no {bl : List (List Int)} (h : ∀ r ∈ bl, r.length ≤ 1024) : dlong bl = false := List.any_eq_false.2 fun r hr => by have := h r hr; simp; omega
theorem dwrite_bl (s : DSt) (i : Int) (b : List Int) : (dwrite s i b).2.bl = s.bl ∨ (dwrite s i b).2.bl = s.bl.set i.toNat b ∧ b.length ≤ 1024 := by
  unfold dwrite
  split
  · exact .inl rfl
  · split
    · exact .inl rfl
    · split
      · exact .inl rfl
      · exact .inr ⟨rfl, by omega⟩
theorem dwrite_keeps (s : DSt) (i : Int) (b : List Int) {P : List Int → Prop} (h : ∀ r ∈ s.bl, P r) (hb : b.length ≤ 1024 → P b) : (∀ r ∈ (dwrite s i b).2.bl, P r) ∧ (dwrite s i b).2.bl.length = s.bl.length := by
  rcases dwrite_bl s i b with e | ⟨e, hl⟩
  · rw [e]; exact ⟨h, rfl⟩
  · rw [e]; exact ⟨set_mem h (hb hl), by rw [List.length_set]⟩
set_option maxRecDepth 100000 in
set_option maxHeartbeats 4000000 in
theorem DiskLoads_arg (w : World) (A : Option Addr) (n c : Nat) (vs : List Value) (bl : List (List Int)) (A2 : Option Addr) (n2 c2 : Nat) (pl : List (Int × Option Addr × Nat × Nat)) (hr : Rd w A n c 1 (El.val.flat vs)) (hp : PartsK (El.int .u8) w vs bl) (hba : ∀ r ∈ bl, IsBytes r) (hr2 : Rd w A2 n2 c2 2 (KPut.flat pl)) (hput : ∀ x ∈ pl, PutOk w x) (hn : n ≤ 9223372036854775807) (hn2 : n2 ≤ 9223372036854775807) (hna : n < 1 ∨ 64 < n) :
    Calls Try.prog 7 [.slice A n c, .slice A2 n2 c2].toArray w (Ret (fun v' w' => v' = .bool true ∧ Below w.heap.size w w')) := by
  have hs := Sat.start w
  have hl : pl.length = n2 := by have := hr2.len; rw [El.flat_length] at this; exact Nat.eq_of_mul_eq_mul_right (by decide) this
  have hvl : vs.length = n := by have := hr.len; rw [El.flat_length] at this; simpa [El.val] using this
  have hbl : bl.length = n := by have := hp.1; omega
  refine Calls_body Try.func7 rfl rfl rfl (envE_cons (i := 0) (v := .slice A n c) rfl (envE_cons (i := 1) (v := .slice A2 n2 c2) rfl envE_nil)) ?_
  refine St_seq ?_
  refine St_region ?_
  refine Ls_run (run_assign rfl) rfl ?_
  refine Ls_nil ?_
  refine Jm_seq ?_
  refine St_seq ?_
  refine St_seq ?_
  refine St_region ?_
  refine Ls_call Try.func12 nm12 rfl rfl (dawake_c w) rfl ?_
  rintro v1 w2 ⟨rfl, hsA3⟩
  replace hs := hs.trans hsA3
  simp only [List.nil_append] at hs
  refine Ls_run (run_not rfl) rfl ?_
  refine Ls_nil ?_
  refine Jm_seq ?_
  refine St_iff rfl ?_
  refine St_skip ?_
  refine Jm_seq ?_
  refine St_seq ?_
  refine St_region ?_
  refine Ls_run (run_move rfl) rfl ?_
  refine Ls_call Try.func24 nm24 rfl rfl (Load_arg w2 A n c hna hn) rfl ?_
  rintro v5 w6 ⟨rfl, rfl⟩
  refine Ls_run (run_move rfl) rfl ?_
  refine Ls_run (run_extract rfl rfl) rfl ?_
  refine Ls_run (run_extract rfl rfl) rfl ?_
  refine Ls_run (run_assign rfl) rfl ?_
  refine Ls_run (run_assign rfl) rfl ?_
  refine Ls_nil ?_
  refine Jm_seq ?_
  refine St_seq ?_
  refine St_seq ?_
  refine St_region ?_
  refine Ls_run (run_move rfl) rfl ?_
  refine Ls_run (run_asB (c := true) (run_neq rfl rfl) (by decide)) rfl ?_
  refine Ls_nil ?_
  refine Jm_seq ?_
  refine St_ift rfl ?_
  refine St_seq ?_
  refine St_region ?_
  refine Ls_run (run_move rfl) rfl ?_
  refine Ls_run (run_asB (c := true) (run_eql_ptr_nil Try.underlying24 rfl rfl) rfl) rfl ?_
  refine Ls_run (run_move rfl) rfl ?_
  refine Ls_on rfl rfl ?_
  refine Ls_run (run_move rfl) rfl ?_
  refine Ls_on rfl rfl ?_
  refine Ls_run (run_asB (c := true) (run_eql rfl rfl) (by decide)) rfl ?_
  refine Ls_on rfl rfl ?_
  refine Ls_run (run_move rfl) rfl ?_
  refine Ls_off rfl rfl rfl rfl ?_
  refine Ls_off rfl rfl rfl rfl ?_
  refine Ls_on rfl rfl ?_
  refine Ls_run (run_pick_t rfl rfl) rfl ?_
  refine Ls_run (run_pick_t rfl rfl) rfl ?_
  refine Ls_run (run_assign rfl) rfl ?_
  refine Ls_nil ?_
  refine Jm_seq ?_
  refine St_ret ?_
  refine Jm_then_ret  ?_
  refine Jm_ret1 rfl rfl ?_
  exact ⟨_, rfl, rfl, hs.below⟩
set_option maxRecDepth 100000 in
set_option maxHeartbeats 4000000 in
theorem DiskLoads_long (w : World) (A : Option Addr) (n c : Nat) (vs : List Value) (bl : List (List Int)) (A2 : Option Addr) (n2 c2 : Nat) (pl : List (Int × Option Addr × Nat × Nat)) (hr : Rd w A n c 1 (El.val.flat vs)) (hp : PartsK (El.int .u8) w vs bl) (hba : ∀ r ∈ bl, IsBytes r) (hr2 : Rd w A2 n2 c2 2 (KPut.flat pl)) (hput : ∀ x ∈ pl, PutOk w x) (hn : n ≤ 9223372036854775807) (hn2 : n2 ≤ 9223372036854775807) (hn1 : 1 ≤ n) (hn3 : n ≤ 64) (hlo : dlong bl = true) :
    Calls Try.prog 7 [.slice A n c, .slice A2 n2 c2].toArray w (Ret (fun v' w' => v' = .bool true ∧ Below w.heap.size w w')) := by
  have hs := Sat.start w
  have hl : pl.length = n2 := by have := hr2.len; rw [El.flat_length] at this; exact Nat.eq_of_mul_eq_mul_right (by decide) this
  have hvl : vs.length = n := by have := hr.len; rw [El.flat_length] at this; simpa [El.val] using this
  have hbl : bl.length = n := by have := hp.1; omega
  refine Calls_body Try.func7 rfl rfl rfl (envE_cons (i := 0) (v := .slice A n c) rfl (envE_cons (i := 1) (v := .slice A2 n2 c2) rfl envE_nil)) ?_
  refine St_seq ?_
  refine St_region ?_
  refine Ls_run (run_assign rfl) rfl ?_
  refine Ls_nil ?_
  refine Jm_seq ?_
  refine St_seq ?_
  refine St_seq ?_
  refine St_region ?_
  refine Ls_call Try.func12 nm12 rfl rfl (dawake_c w) rfl ?_
  rintro v1 w2 ⟨rfl, hsA3⟩
  replace hs := hs.trans hsA3
  simp only [List.nil_append] at hs
  refine Ls_run (run_not rfl) rfl ?_
  refine Ls_nil ?_
  refine Jm_seq ?_
  refine St_iff rfl ?_
  refine St_skip ?_
  refine Jm_seq ?_
  refine St_seq ?_
  refine St_region ?_
  refine Ls_run (run_move rfl) rfl ?_
  refine Ls_call Try.func24 nm24 rfl rfl (Load_long w2 A n c vs bl (hr.inB hs) (hp.inB hs) hn1 hn3 hlo) rfl ?_
  rintro v5 w6 ⟨rfl, hsL⟩
  replace hs := hs.trans hsL
  refine Ls_run (run_move rfl) rfl ?_
  refine Ls_run (run_extract rfl rfl) rfl ?_
  refine Ls_run (run_extract rfl rfl) rfl ?_
  refine Ls_run (run_assign rfl) rfl ?_
  refine Ls_run (run_assign rfl) rfl ?_
  refine Ls_nil ?_
  refine Jm_seq ?_
  refine St_seq ?_
  refine St_seq ?_
  refine St_region ?_
  refine Ls_run (run_move rfl) rfl ?_
  refine Ls_run (run_asB (c := true) (run_neq rfl rfl) (by decide)) rfl ?_
  refine Ls_nil ?_
  refine Jm_seq ?_
  refine St_ift rfl ?_
  refine St_seq ?_
  refine St_region ?_
  refine Ls_run (run_move rfl) rfl ?_
  refine Ls_run (run_asB (c := true) (run_eql_ptr_nil Try.underlying24 rfl rfl) rfl) rfl ?_
  refine Ls_run (run_move rfl) rfl ?_
  refine Ls_on rfl rfl ?_
  refine Ls_run (run_move rfl) rfl ?_
  refine Ls_on rfl rfl ?_
  refine Ls_run (run_asB (c := false) (run_eql rfl rfl) (by decide)) rfl ?_
  refine Ls_on rfl rfl ?_
  refine Ls_run (run_move rfl) rfl ?_
  refine Ls_on rfl rfl ?_
  refine Ls_run (run_move rfl) rfl ?_
  refine Ls_on rfl rfl ?_
  refine Ls_run (run_asB (c := true) (run_eql rfl rfl) (by decide)) rfl ?_
  refine Ls_on rfl rfl ?_
  refine Ls_run (run_pick_f rfl rfl) rfl ?_
  refine Ls_run (run_pick_t rfl rfl) rfl ?_
  refine Ls_run (run_assign rfl) rfl ?_
  refine Ls_nil ?_
  refine Jm_seq ?_
  refine St_ret ?_
  refine Jm_then_ret  ?_
  refine Jm_ret1 rfl rfl ?_
  exact ⟨_, rfl, rfl, hs.below⟩
set_option maxRecDepth 100000 in
set_option maxHeartbeats 4000000 in
theorem DiskLoads_ok (w : World) (A : Option Addr) (n c : Nat) (vs : List Value) (bl : List (List Int)) (A2 : Option Addr) (n2 c2 : Nat) (pl : List (Int × Option Addr × Nat × Nat)) (hr : Rd w A n c 1 (El.val.flat vs)) (hp : PartsK (El.int .u8) w vs bl) (hba : ∀ r ∈ bl, IsBytes r) (hr2 : Rd w A2 n2 c2 2 (KPut.flat pl)) (hput : ∀ x ∈ pl, PutOk w x) (hn : n ≤ 9223372036854775807) (hn2 : n2 ≤ 9223372036854775807) (hn1 : 1 ≤ n) (hn3 : n ≤ 64) (hlo : dlong bl = false) :
    Calls Try.prog 7 [.slice A n c, .slice A2 n2 c2].toArray w (Ret (fun v' w' => v' = .bool true ∧ Below w.heap.size w w')) := by
  have hs := Sat.start w
  have hl : pl.length = n2 := by have := hr2.len; rw [El.flat_length] at this; exact Nat.eq_of_mul_eq_mul_right (by decide) this
  have hvl : vs.length = n := by have := hr.len; rw [El.flat_length] at this; simpa [El.val] using this
  have hbl : bl.length = n := by have := hp.1; omega
  refine Calls_body Try.func7 rfl rfl rfl (envE_cons (i := 0) (v := .slice A n c) rfl (envE_cons (i := 1) (v := .slice A2 n2 c2) rfl envE_nil)) ?_
  refine St_seq ?_
  refine St_region ?_
  refine Ls_run (run_assign rfl) rfl ?_
  refine Ls_nil ?_
  refine Jm_seq ?_
  refine St_seq ?_
  refine St_seq ?_
  refine St_region ?_
  refine Ls_call Try.func12 nm12 rfl rfl (dawake_c w) rfl ?_
  rintro v1 w2 ⟨rfl, hsA3⟩
  replace hs := hs.trans hsA3
  simp only [List.nil_append] at hs
  refine Ls_run (run_not rfl) rfl ?_
  refine Ls_nil ?_
  refine Jm_seq ?_
  refine St_iff rfl ?_
  refine St_skip ?_
  refine Jm_seq ?_
  refine St_seq ?_
  refine St_region ?_
  refine Ls_run (run_move rfl) rfl ?_
  refine Ls_call Try.func24 nm24 rfl rfl (Load_c w2 A n c vs bl (hr.inB hs) (hp.inB hs) hn1 hn3 hlo) rfl ?_
  rintro v5 w6 ⟨b0, rfl, hsD⟩
  replace hs := hs.trans hsD
  simp only [List.cons_append, List.nil_append] at hs
  obtain ⟨st0, hst0⟩ : ∃ q, q = dload bl := ⟨_, rfl⟩
  rw [← hst0] at hs
  have h0bl : st0.bl = bl := by rw [hst0]; rfl
  have h0d : st0.down = false := by rw [hst0]; rfl
  have hbl2 : ∀ r ∈ bl, IsBytes r ∧ r.length ≤ 1024 := fun r hr => ⟨hba r hr, dlong_ok hlo r hr⟩
  refine Ls_run (run_move rfl) rfl ?_
  refine Ls_run (run_extract rfl rfl) rfl ?_
  refine Ls_run (run_extract rfl rfl) rfl ?_
  refine Ls_run (run_assign rfl) rfl ?_
  refine Ls_run (run_assign rfl) rfl ?_
  refine Ls_nil ?_
  refine Jm_seq ?_
  refine St_seq ?_
  refine St_seq ?_
  refine St_region ?_
  refine Ls_run (run_move rfl) rfl ?_
  refine Ls_run (run_asB (c := false) (run_neq rfl rfl) (by decide)) rfl ?_
  refine Ls_nil ?_
  refine Jm_seq ?_
  refine St_iff rfl ?_
  refine St_skip ?_
  refine Jm_seq ?_
  refine St_seq ?_
  refine St_seq ?_
  refine St_region ?_
  refine Ls_run (run_move rfl) rfl ?_
  refine Ls_run (run_asB (c := false) (run_eql_ptr_nil Try.underlying24 rfl rfl) rfl) rfl ?_
  refine Ls_run (run_move rfl) rfl ?_
  refine Ls_on rfl rfl ?_
  refine Ls_run (run_move rfl) rfl ?_
  refine Ls_on rfl rfl ?_
  refine Ls_call Try.func21 nm21 rfl rfl (Image_c w w6 _ b0 st0 hs (fun r hr => (hbl2 r (by rw [← h0bl]; exact hr)).2) (by rw [h0bl]; omega)) rfl ?_
  rintro v8 w9 ⟨Ai, ci, vi, rfl, hvi, hs⟩
  rw [h0bl] at hvi hs ⊢
  replace hs := Sat.toKeep (F := fun w => Rd w Ai bl.length ci 1 (El.val.flat vi) ∧ PartsK (El.int .u8) w vi bl) (fun B w q => ⟨q.rd_at 0 rfl, Sat.parts (pre := [_]) q hvi⟩) hs
  refine Ls_on rfl rfl ?_
  refine Ls_run (run_move rfl) rfl ?_
  refine Ls_on rfl rfl ?_
  refine Ls_call Try.func20 nm20 rfl rfl (images_c w9 _ _ _ vi bl _ _ _ vs bl ((hs.kept 0 rfl).1) (hr.inB hs) (hs.kept 0 rfl).2 (hp.inB hs) hba hba (by omega)) rfl ?_
  rintro v10 w11 ⟨rfl, hsI⟩
  replace hs := hs.trans hsI
  simp only [List.nil_append] at hs
  rw [decide_eq_true (rfl : bl = bl)]
  refine Ls_on rfl rfl ?_
  refine Ls_run (run_not rfl) rfl ?_
  refine Ls_run (run_pick_f rfl rfl) rfl ?_
  refine Ls_run (run_move rfl) rfl ?_
  refine Ls_on rfl rfl ?_
  refine Ls_run (run_move rfl) rfl ?_
  refine Ls_on rfl rfl ?_
  replace hs := hs.front 1 rfl
  simp only [List.cons_append, List.nil_append, List.eraseIdx_cons_zero, List.eraseIdx_cons_succ] at hs
  obtain ⟨A0, c0, hd0⟩ := hs.dhd
  refine Ls_call Try.func29 nm29 rfl rfl (Blocks_c w11 b0 _ A0 c0 hd0) rfl ?_
  rintro v12 w13 ⟨rfl, rfl⟩
  rw [h0bl]
  refine Ls_on rfl rfl ?_
  refine Ls_run (run_move rfl) rfl ?_
  refine Ls_on rfl rfl ?_
  refine Ls_run (run_len Try.underlying28 rfl) rfl ?_
  refine Ls_on rfl rfl ?_
  refine Ls_run (run_asB (c := false) (run_neq rfl rfl) (by rw [hbl]; simp)) rfl ?_
  refine Ls_run (run_pick_f rfl rfl) rfl ?_
  refine Ls_run (run_move rfl) rfl ?_
  refine Ls_on rfl rfl ?_
  refine Ls_run (run_move rfl) rfl ?_
  refine Ls_on rfl rfl ?_
  obtain ⟨A0, c0, hd0⟩ := hs.dhd
  refine Ls_call Try.func16 nm16 rfl rfl (Down_c w11 b0 _ A0 c0 hd0) rfl ?_
  rintro v14 w15 ⟨rfl, rfl⟩
  rw [h0d]
  refine Ls_run (run_pick_f rfl rfl) rfl ?_
  refine Ls_nil ?_
  refine Jm_seq ?_
  refine St_iff rfl ?_
  refine St_skip ?_
  refine Jm_seq ?_
  refine St_seq ?_
  refine St_seq ?_
  refine St_region ?_
  refine Ls_run (run_assign rfl) rfl ?_
  refine Ls_nil ?_
  refine Jm_seq ?_
  refine St_block ?_
  replace hs := hs.erase 1
  simp only [List.cons_append, List.nil_append, List.eraseIdx_cons_zero, List.eraseIdx_cons_succ] at hs
  obtain ⟨En17, hEn17⟩ : ∃ F : Nat × DSt → Env, ∀ (i : Nat) (st : DSt), F (i, st) = [(0, .slice A n c), (1, .slice A2 n2 c2), (5, .pointer (some ⟨b0, 0, none⟩)), (7, .int .i64 (i : Int))] := ⟨(fun (s : Nat × DSt) => match s with | (i, st) => [(0, .slice A n c), (1, .slice A2 n2 c2), (5, .pointer (some ⟨b0, 0, none⟩)), (7, .int .i64 (i : Int))]), fun _ _ => rfl⟩
  obtain ⟨Iv18, hIv18⟩ : ∃ F : Nat × DSt → World → Prop, ∀ (i : Nat) (st : DSt) (wr : World), F (i, st) wr = (Sat w wr [DiskA 85 31 5 b0 st] ∧ i ≤ n2 ∧ st.bl.length = n ∧ (∀ r ∈ st.bl, IsBytes r ∧ r.length ≤ 1024)) := ⟨(fun (s : Nat × DSt) => match s with | (i, st) => fun (wr : World) => Sat w wr [DiskA 85 31 5 b0 st] ∧ i ≤ n2 ∧ st.bl.length = n ∧ (∀ r ∈ st.bl, IsBytes r ∧ r.length ≤ 1024)), fun _ _ _ => rfl⟩
  obtain ⟨ms19, hms19⟩ : ∃ F : Nat × DSt → Nat, ∀ (i : Nat) (st : DSt), F (i, st) = (n2 - i) := ⟨(fun (s : Nat × DSt) => match s with | (i, st) => n2 - i), fun _ _ => rfl⟩
  refine St_loop En17 Iv18 ms19 (0, st0) ?_ ?_ ?_
  · skip
    rw [hIv18]
    exact ⟨hs, by omega, by rw [h0bl]; exact hbl, by rw [h0bl]; exact hbl2⟩
  · rw [hEn17]; exact (subE_cons rfl (subE_cons rfl (subE_cons rfl (subE_cons rfl subE_nil))))
  rintro ⟨i, st⟩ wr hI20
  rw [hIv18] at hI20
  obtain ⟨hs, hi, hln, hbl2⟩ := hI20
  refine St_eqE (hEn17 _ _) ?_
  refine St_seq ?_
  refine St_seq ?_
  refine St_region ?_
  refine Ls_run (run_move rfl) rfl ?_
  refine Ls_run (run_move rfl) rfl ?_
  refine Ls_run (run_len Try.underlying22 rfl) rfl ?_
  refine Ls_run (run_lss rfl rfl) rfl ?_
  refine Ls_run (run_move rfl) rfl ?_
  refine Ls_partP (t := 57) rfl (fun h21 => ?_) (fun h21 => ?_)
  · skip
    refine Ls_on rfl rfl ?_
    refine Ls_run (run_move rfl) rfl ?_
    refine Ls_on rfl rfl ?_
    refine Ls_run (run_lss rfl rfl) rfl ?_
    refine Ls_run (run_pick_t rfl rfl) rfl ?_
    refine Ls_nil ?_
    refine Jm_seq ?_
    refine St_ifP rfl (fun h22 => ?_) (fun h22 => ?_)
    · skip
      refine St_skip ?_
      refine Jm_seq ?_
      refine St_seq ?_
      refine St_block ?_
      refine St_drawC 12 (fun x => Below wr.heap.size wr x) mixed ?_
      intro w23 q24
      have hH := q24.below
      replace hs := hs.quiet q24
      refine AnC_grow hH ?_
      replace hH := Below.refl w23.heap.size w23
      refine AnC_takeP 0 (by kernel_rfl) rfl (by kernel_rfl) (by kernel_rfl) (by kernel_rfl) (fun _ _ _ h => h) (fun _ => hH) (fun x => run_move rfl) rfl ?_
      refine AnC_takeP 1 (by kernel_rfl) rfl (by kernel_rfl) (by kernel_rfl) (by kernel_rfl) (fun _ _ _ h => h) (fun _ => hH) (fun x => run_move rfl) rfl ?_
      refine AnC_takeP 2 (by kernel_rfl) rfl (by kernel_rfl) (by kernel_rfl) (by kernel_rfl) (fun _ _ _ h => h) (fun _ => hH) (fun x => run_move rfl) rfl ?_
      obtain ⟨⟨pi, Ai, ni, ci⟩, ho⟩ : ∃ o, pl.getD i (0, none, 0, 0) = o := ⟨_, rfl⟩
      have hmem : (pi, Ai, ni, ci) ∈ pl := by rw [← ho]; exact getElem_mem3 (by omega)
      obtain ⟨hpi, l, hri, hbs⟩ := hput _ hmem
      simp only at hpi hri
      have hll := rdB_len hri
      have hcapi := hri.cap
      obtain ⟨m, hm0⟩ : ∃ q, q = min ni 1024 := ⟨_, rfl⟩
      have hmn : m ≤ ni := by omega
      refine AnC_index 3 [12, 5, 4, 3] (KPut) rfl (by kernel_rfl) (by kernel_rfl) (by kernel_rfl) (by kernel_rfl) (fun _ _ _ _ h => h) hH (fun x hx => ((hr2.inB hs).grow hx)) Try.underlying22 inf33 rfl rfl (by omega) (by omega) ho rfl ?_
      intro b25 o26 hc27
      refine AnC_takeP 4 (by kernel_rfl) rfl (by kernel_rfl) (by kernel_rfl) (by kernel_rfl) (fun _ _ _ h => h) (fun _ => hH) (fun x => run_field Try.underlying33 rfl inf3 (by decide) rfl) rfl ?_
      refine AnC_take 5 [12, 5] rfl (by kernel_rfl) (by kernel_rfl) (by kernel_rfl) (by kernel_rfl) (fun _ _ _ h => h) hH (fun x hx => run_as (run_load sc3 rfl ((hc27 x hx) 0 _ rfl)) (show _ = Value.int .i64 pi from rfl)) rfl ?_
      refine AnC_takeP 6 (by kernel_rfl) rfl (by kernel_rfl) (by kernel_rfl) (by kernel_rfl) (fun _ _ _ h => h) (fun _ => hH) (fun x => run_move rfl) rfl ?_
      refine AnC_takeP 7 (by kernel_rfl) rfl (by kernel_rfl) (by kernel_rfl) (by kernel_rfl) (fun _ _ _ h => h) (fun _ => hH) (fun x => run_move rfl) rfl ?_
      refine AnC_index 8 [12, 11, 10, 9, 8] (KPut) rfl (by kernel_rfl) (by kernel_rfl) (by kernel_rfl) (by kernel_rfl) (fun _ _ _ _ h => h) hH (fun x hx => ((hr2.inB hs).grow hx)) Try.underlying22 inf33 rfl rfl (by omega) (by omega) ho rfl ?_
      intro b28 o29 hc30
      refine AnC_takeP 9 (by kernel_rfl) rfl (by kernel_rfl) (by kernel_rfl) (by kernel_rfl) (fun _ _ _ h => h) (fun _ => hH) (fun x => run_field Try.underlying33 rfl inf31 (by decide) rfl) rfl ?_
      refine AnC_take 10 [12, 11, 10] rfl (by kernel_rfl) (by kernel_rfl) (by kernel_rfl) (by kernel_rfl) (fun _ _ _ h => h) hH (fun x hx => run_as (run_load sc31 rfl ((hc30 x hx) 1 _ rfl)) (show _ = Value.slice Ai ni ci from rfl)) rfl ?_
      refine AnC_only 11 (by kernel_rfl) rfl ?_
      refine Ls_call Try.func15 nm15 rfl rfl (laid_c w23 Ai ni ci hcapi) rfl ?_
      rintro v31 w32 ⟨rfl, rfl⟩
      rw [← hm0]
      refine Ls_nil (Jm_AnC (fun _ => hH) ?_)
      refine AnC_only 12 (by kernel_rfl) rfl ?_
      refine Ls_call Try.func17 nm17 rfl rfl (Write_c w w23 _ b0 st hs (fun r hr => (hbl2 r hr).2) pi Ai m ci (l.take m) (fun w' X q => (rdB_take hri m hmn).inB q) (by omega)) rfl ?_
      rintro v33 w34 ⟨rfl, hs⟩
      obtain ⟨⟨rv, s2⟩, hw⟩ : ∃ q, dwrite st pi (l.take m) = q := ⟨_, rfl⟩
      have hkp := dwrite_keeps st pi (l.take m) (P := fun r => IsBytes r ∧ r.length ≤ 1024) hbl2 (fun hle => ⟨fun q hq => hbs q (List.mem_of_mem_take hq), hle⟩)
      simp only [hw] at hs ⊢ hkp
      refine Ls_nil (Jm_AnC_closed (by kernel_rfl) ?_)
      refine AnC_switch (H' := fun x => Below w34.heap.size w34 x) 13 (by kernel_rfl) ?_
      replace hH := Below.refl w34.heap.size w34
      refine AnC_done (by kernel_rfl) ?_
      refine Jm_block_normal (Jm_seq ?_)
      refine St_region ?_
      refine Ls_run (run_move rfl) rfl ?_
      refine Ls_run (run_add rfl rfl (w64 (by omega))) rfl ?_
      refine Ls_run (run_assign rfl) rfl ?_
      refine Ls_nil ?_
      refine Jm_round (i + 1, s2) ?_ ?_ ?_
      · rw [hEn17]; exact (subE_cons rfl (subE_cons rfl (subE_cons rfl (subE_cons rfl subE_nil))))
      · skip
        rw [hIv18]
        exact ⟨hs, by omega, by rw [hkp.2]; exact hln, hkp.1⟩
      · skip
        rw [hms19, hms19]
        omega
    · skip
      refine St_exit ?_
      refine Jm_then_exit (Jm_then_exit (Jm_block_same (Jm_seq ?_)))
      refine St_seq ?_
      refine St_region ?_
      refine Ls_run (run_move rfl) rfl ?_
      obtain ⟨vs0, A0, c0, hv0, hs⟩ := hs.dopen
      refine Ls_call Try.func23 nm23 rfl rfl (Off_c w wr _ b0 _ A0 c0 hs) rfl ?_
      rintro v35 w36 ⟨rfl, hs⟩
      replace hs := Sat.dshut (s := doff st) hv0 hs
      obtain ⟨s3, hs3⟩ : ∃ q, q = doff st := ⟨_, rfl⟩
      rw [← hs3] at hs
      refine Ls_nil ?_
      refine Jm_seq ?_
      refine St_seq ?_
      refine St_region ?_
      refine Ls_run (run_move rfl) rfl ?_
      have h3bl : s3.bl = st.bl := by rw [hs3]; rfl
      refine Ls_call Try.func21 nm21 rfl rfl (Image_c w w36 _ b0 s3 hs (fun r hr => (hbl2 r (by rw [← h3bl]; exact hr)).2) (by rw [h3bl]; omega)) rfl ?_
      rintro v37 w38 ⟨Ai, ci, vi, rfl, hvi, hs⟩
      rw [h3bl] at hvi hs ⊢
      replace hs := Sat.toKeep (F := fun w => Rd w Ai st.bl.length ci 1 (El.val.flat vi) ∧ PartsK (El.int .u8) w vi st.bl) (fun B w q => ⟨q.rd_at 0 rfl, Sat.parts (pre := [_]) q hvi⟩) hs
      refine Ls_call Try.func24 nm24 rfl rfl (Load_c w38 Ai st.bl.length ci vi st.bl (hs.kept 0 rfl).1 (hs.kept 0 rfl).2 (by omega) (by omega) (dlong_no (fun r hr => (hbl2 r hr).2))) rfl ?_
      rintro v39 w40 ⟨b1, rfl, hsD⟩
      replace hs := hs.trans hsD
      simp only [List.cons_append, List.nil_append] at hs
      obtain ⟨sy0, hsy0⟩ : ∃ q, q = dload st.bl := ⟨_, rfl⟩
      rw [← hsy0] at hs
      have hy0 : sy0.bl = st.bl ∧ sy0.down = false ∧ sy0.writes = 0 ∧ sy0.reads = 0 := by rw [hsy0]; exact ⟨rfl, rfl, rfl, rfl⟩
      refine Ls_run (run_move rfl) rfl ?_
      refine Ls_run (run_extract rfl rfl) rfl ?_
      refine Ls_run (run_extract rfl rfl) rfl ?_
      refine Ls_run (run_assign rfl) rfl ?_
      refine Ls_run (run_assign rfl) rfl ?_
      refine Ls_nil ?_
      refine Jm_seq ?_
      refine St_seq ?_
      refine St_seq ?_
      refine St_region ?_
      refine Ls_run (run_move rfl) rfl ?_
      refine Ls_run (run_asB (c := false) (run_neq rfl rfl) (by decide)) rfl ?_
      refine Ls_run (run_move rfl) rfl ?_
      refine Ls_on rfl rfl ?_
      refine Ls_run (run_move rfl) rfl ?_
      refine Ls_on rfl rfl ?_
      refine Ls_run (run_asB (c := false) (run_eql_ptr_nil Try.underlying24 rfl rfl) rfl) rfl ?_
      refine Ls_run (run_pick_f rfl rfl) rfl ?_
      refine Ls_run (run_move rfl) rfl ?_
      refine Ls_on rfl rfl ?_
      refine Ls_run (run_move rfl) rfl ?_
      refine Ls_on rfl rfl ?_
      obtain ⟨A0, c0, hd0⟩ := hs.dhd
      refine Ls_call Try.func16 nm16 rfl rfl (Down_c w40 b1 _ A0 c0 hd0) rfl ?_
      rintro v41 w42 ⟨rfl, rfl⟩
      rw [hy0.2.1]
      refine Ls_run (run_pick_f rfl rfl) rfl ?_
      refine Ls_run (run_move rfl) rfl ?_
      refine Ls_on rfl rfl ?_
      refine Ls_run (run_move rfl) rfl ?_
      refine Ls_on rfl rfl ?_
      obtain ⟨A0, c0, hd0⟩ := hs.dhd
      refine Ls_call Try.func19 nm19 rfl rfl (Writes_c w40 b1 _ A0 c0 hd0) rfl ?_
      rintro v43 w44 ⟨rfl, rfl⟩
      rw [hy0.2.2.1]
      refine Ls_on rfl rfl ?_
      refine Ls_run (run_asB (c := false) (run_neq rfl rfl) (by decide)) rfl ?_
      refine Ls_run (run_pick_f rfl rfl) rfl ?_
      refine Ls_run (run_move rfl) rfl ?_
      refine Ls_on rfl rfl ?_
      refine Ls_run (run_move rfl) rfl ?_
      refine Ls_on rfl rfl ?_
      obtain ⟨A0, c0, hd0⟩ := hs.dhd
      refine Ls_call Try.func30 nm30 rfl rfl (Reads_c w40 b1 _ A0 c0 hd0) rfl ?_
      rintro v45 w46 ⟨rfl, rfl⟩
      rw [hy0.2.2.2]
      refine Ls_on rfl rfl ?_
      refine Ls_run (run_asB (c := false) (run_neq rfl rfl) (by decide)) rfl ?_
      refine Ls_run (run_pick_f rfl rfl) rfl ?_
      refine Ls_nil ?_
      refine Jm_seq ?_
      refine St_iff rfl ?_
      refine St_skip ?_
      refine Jm_seq ?_
      refine St_seq ?_
      refine St_region ?_
      refine Ls_run (run_move rfl) rfl ?_
      replace hs := hs.front 2 rfl
      simp only [List.cons_append, List.nil_append, List.eraseIdx_cons_zero, List.eraseIdx_cons_succ] at hs
      obtain ⟨vs0, A0, c0, hv0, hs⟩ := hs.dopen
      refine Ls_call Try.func22 nm22 rfl rfl (On_c w w40 _ b0 _ A0 c0 hs) rfl ?_
      rintro v48 w49 ⟨rfl, hs⟩
      replace hs := Sat.dshut (s := don s3) hv0 hs
      obtain ⟨s4, hs4⟩ : ∃ q, q = don s3 := ⟨_, rfl⟩
      rw [← hs4] at hs
      refine Ls_nil ?_
      refine Jm_seq ?_
      refine St_seq ?_
      refine St_seq ?_
      refine St_region ?_
      refine Ls_run (run_assign rfl) rfl ?_
      refine Ls_nil ?_
      refine Jm_seq ?_
      refine St_block ?_
      replace hs := hs.erase 2
      simp only [List.cons_append, List.nil_append, List.eraseIdx_cons_zero, List.eraseIdx_cons_succ] at hs
      obtain ⟨En50, hEn50⟩ : ∃ F : Nat × DSt × DSt → Env, ∀ (q : Nat) (sx : DSt) (sy : DSt), F (q, sx, sy) = [(5, .pointer (some ⟨b0, 0, none⟩)), (8, .pointer (some ⟨b1, 0, none⟩)), (9, .int .i64 (q : Int))] := ⟨(fun (s : Nat × DSt × DSt) => match s with | (q, sx, sy) => [(5, .pointer (some ⟨b0, 0, none⟩)), (8, .pointer (some ⟨b1, 0, none⟩)), (9, .int .i64 (q : Int))]), fun _ _ _ => rfl⟩
      obtain ⟨Iv51, hIv51⟩ : ∃ F : Nat × DSt × DSt → World → Prop, ∀ (q : Nat) (sx : DSt) (sy : DSt) (wr2 : World), F (q, sx, sy) wr2 = (Sat w wr2 [DiskA 85 31 5 b0 sx, DiskA 85 31 5 b1 sy] ∧ q ≤ n ∧ (sx.down = false ∧ sx.bl = st.bl) ∧ (sy.down = false ∧ sy.bl = st.bl)) := ⟨(fun (s : Nat × DSt × DSt) => match s with | (q, sx, sy) => fun (wr2 : World) => Sat w wr2 [DiskA 85 31 5 b0 sx, DiskA 85 31 5 b1 sy] ∧ q ≤ n ∧ (sx.down = false ∧ sx.bl = st.bl) ∧ (sy.down = false ∧ sy.bl = st.bl)), fun _ _ _ _ => rfl⟩
      obtain ⟨ms52, hms52⟩ : ∃ F : Nat × DSt × DSt → Nat, ∀ (q : Nat) (sx : DSt) (sy : DSt), F (q, sx, sy) = (n - q) := ⟨(fun (s : Nat × DSt × DSt) => match s with | (q, sx, sy) => n - q), fun _ _ _ => rfl⟩
      refine St_loop En50 Iv51 ms52 (0, s4, sy0) ?_ ?_ ?_
      · skip
        rw [hIv51]
        exact ⟨hs, by omega, ⟨by rw [hs4]; rfl, by rw [hs4, hs3]; rfl⟩, ⟨hy0.2.1, hy0.1⟩⟩
      · rw [hEn50]; exact (subE_cons rfl (subE_cons rfl (subE_cons rfl subE_nil)))
      rintro ⟨q, sx, sy⟩ wr2 hI53
      rw [hIv51] at hI53
      obtain ⟨hs, hq, hxd, hyd⟩ := hI53
      refine St_eqE (hEn50 _ _ _) ?_
      refine St_seq ?_
      refine St_seq ?_
      refine St_region ?_
      refine Ls_run (run_move rfl) rfl ?_
      refine Ls_run (run_move rfl) rfl ?_
      obtain ⟨A0, c0, hd0⟩ := hs.dhd
      refine Ls_call Try.func29 nm29 rfl rfl (Blocks_c wr2 b0 _ A0 c0 hd0) rfl ?_
      rintro v54 w55 ⟨rfl, rfl⟩
      rw [hxd.2]
      refine Ls_run (run_lss rfl rfl) rfl ?_
      refine Ls_nil ?_
      refine Jm_seq ?_
      refine St_ifP rfl (fun h56 => ?_) (fun h56 => ?_)
      · skip
        refine St_skip ?_
        refine Jm_seq ?_
        refine St_seq ?_
        refine St_block ?_
        refine St_seq ?_
        refine St_region ?_
        refine Ls_run (run_move rfl) rfl ?_
        refine Ls_run (run_move rfl) rfl ?_
        replace hs := hs.front 1 rfl
        simp only [List.cons_append, List.nil_append, List.eraseIdx_cons_zero, List.eraseIdx_cons_succ] at hs
        have hrs8 := dread_ok (s := sy) (k := q) hyd.1 (by rw [hyd.2]; omega)
        refine Ls_call Try.func18 nm18 rfl rfl (Read_c w wr2 _ b1 sy hs (fun r hr => (hbl2 r (by rw [← hyd.2]; exact hr)).2) (q : Int)) rfl ?_
        rintro v57 w58 ⟨Ara, cra, rfl, hs⟩
        rw [hyd.2] at hrs8
        rw [hrs8.1] at hs ⊢
        rw [hrs8.2.1]
        obtain ⟨s8, hs8⟩ : ∃ x, x = (dread sy (q : Int)).2.2 := ⟨_, rfl⟩
        rw [← hs8] at hs hrs8
        refine Ls_run (run_move rfl) rfl ?_
        refine Ls_run (run_extract rfl rfl) rfl ?_
        refine Ls_run (run_extract rfl rfl) rfl ?_
        refine Ls_run (run_assign rfl) rfl ?_
        refine Ls_run (run_assign rfl) rfl ?_
        refine Ls_nil ?_
        refine Jm_seq ?_
        refine St_seq ?_
        refine St_region ?_
        refine Ls_run (run_move rfl) rfl ?_
        refine Ls_run (run_move rfl) rfl ?_
        replace hs := hs.front 2 rfl
        simp only [List.cons_append, List.nil_append, List.eraseIdx_cons_zero, List.eraseIdx_cons_succ] at hs
        have hrs9 := dread_ok (s := sx) (k := q) hxd.1 (by rw [hxd.2]; omega)
        refine Ls_call Try.func18 nm18 rfl rfl (Read_c w w58 _ b0 sx hs (fun r hr => (hbl2 r (by rw [← hxd.2]; exact hr)).2) (q : Int)) rfl ?_
        rintro v59 w60 ⟨Arb, crb, rfl, hs⟩
        rw [hxd.2] at hrs9
        rw [hrs9.1] at hs ⊢
        rw [hrs9.2.1]
        obtain ⟨s9, hs9⟩ : ∃ x, x = (dread sx (q : Int)).2.2 := ⟨_, rfl⟩
        rw [← hs9] at hs hrs9
        refine Ls_run (run_move rfl) rfl ?_
        refine Ls_run (run_extract rfl rfl) rfl ?_
        refine Ls_run (run_extract rfl rfl) rfl ?_
        refine Ls_run (run_assign rfl) rfl ?_
        refine Ls_run (run_assign rfl) rfl ?_
        refine Ls_nil ?_
        refine Jm_seq ?_
        refine St_seq ?_
        refine St_region ?_
        refine Ls_run (run_move rfl) rfl ?_
        refine Ls_run (run_asB (c := false) (run_neq rfl rfl) (by decide)) rfl ?_
        refine Ls_run (run_move rfl) rfl ?_
        refine Ls_on rfl rfl ?_
        refine Ls_run (run_move rfl) rfl ?_
        refine Ls_on rfl rfl ?_
        refine Ls_run (run_asB (c := false) (run_neq rfl rfl) (by decide)) rfl ?_
        refine Ls_run (run_pick_f rfl rfl) rfl ?_
        refine Ls_run (run_move rfl) rfl ?_
        refine Ls_on rfl rfl ?_
        refine Ls_run (run_move rfl) rfl ?_
        refine Ls_on rfl rfl ?_
        refine Ls_run (run_string Try.underlying31 Try.underlying5 Try.underlying9 rfl (hs.rd_at 3 rfl)) rfl ?_
        refine Ls_on rfl rfl ?_
        refine Ls_run (run_move rfl) rfl ?_
        refine Ls_on rfl rfl ?_
        refine Ls_run (run_string Try.underlying31 Try.underlying5 Try.underlying9 rfl (hs.rd_at 1 rfl)) rfl ?_
        refine Ls_on rfl rfl ?_
        refine Ls_run (run_asB (c := false) (run_neq_str rfl rfl) (by simp)) rfl ?_
        refine Ls_run (run_pick_f rfl rfl) rfl ?_
        refine Ls_nil ?_
        refine Jm_seq ?_
        refine St_iff rfl ?_
        refine St_skip ?_
        refine Jm_block_normal (Jm_seq ?_)
        refine St_region ?_
        refine Ls_run (run_move rfl) rfl ?_
        refine Ls_run (run_add rfl rfl (w64 (by omega))) rfl ?_
        refine Ls_run (run_assign rfl) rfl ?_
        refine Ls_nil ?_
        replace hs := hs.erase 1
        simp only [List.cons_append, List.nil_append, List.eraseIdx_cons_zero, List.eraseIdx_cons_succ] at hs
        replace hs := hs.erase 2
        simp only [List.cons_append, List.nil_append, List.eraseIdx_cons_zero, List.eraseIdx_cons_succ] at hs
        refine Jm_round (q + 1, s9, s8) ?_ ?_ ?_
        · rw [hEn50]; exact (subE_cons rfl (subE_cons rfl (subE_cons rfl subE_nil)))
        · skip
          rw [hIv51]
          exact ⟨hs, by omega, ⟨by rw [hrs9.2.2.1]; exact hxd.1, hrs9.2.2.2.2⟩, ⟨by rw [hrs8.2.2.1]; exact hyd.1, hrs8.2.2.2.2⟩⟩
        · skip
          rw [hms52, hms52]
          omega
      · skip
        refine St_exit ?_
        refine Jm_then_exit (Jm_then_exit (Jm_block_same (Jm_seq ?_)))
        refine St_seq ?_
        refine St_region ?_
        refine Ls_run (run_assign rfl) rfl ?_
        refine Ls_nil ?_
        refine Jm_seq ?_
        refine St_ret ?_
        refine Jm_ret1 rfl rfl ?_
        exact ⟨_, rfl, rfl, hs.below⟩
  · skip
    refine Ls_off rfl rfl rfl rfl ?_
    refine Ls_off rfl rfl rfl rfl ?_
    refine Ls_run (run_pick_f rfl rfl) rfl ?_
    refine Ls_nil ?_
    refine Jm_seq ?_
    refine St_iff rfl ?_
    refine St_exit ?_
    refine Jm_then_exit (Jm_then_exit (Jm_block_same (Jm_seq ?_)))
    refine St_seq ?_
    refine St_region ?_
    refine Ls_run (run_move rfl) rfl ?_
    obtain ⟨vs0, A0, c0, hv0, hs⟩ := hs.dopen
    refine Ls_call Try.func23 nm23 rfl rfl (Off_c w wr _ b0 _ A0 c0 hs) rfl ?_
    rintro v63 w65 ⟨rfl, hs⟩
    replace hs := Sat.dshut (s := doff st) hv0 hs
    obtain ⟨s3, hs3⟩ : ∃ q, q = doff st := ⟨_, rfl⟩
    rw [← hs3] at hs
    refine Ls_nil ?_
    refine Jm_seq ?_
    refine St_seq ?_
    refine St_region ?_
    refine Ls_run (run_move rfl) rfl ?_
    have h3bl : s3.bl = st.bl := by rw [hs3]; rfl
    refine Ls_call Try.func21 nm21 rfl rfl (Image_c w w65 _ b0 s3 hs (fun r hr => (hbl2 r (by rw [← h3bl]; exact hr)).2) (by rw [h3bl]; omega)) rfl ?_
    rintro v66 w67 ⟨Ai, ci, vi, rfl, hvi, hs⟩
    rw [h3bl] at hvi hs ⊢
    replace hs := Sat.toKeep (F := fun w => Rd w Ai st.bl.length ci 1 (El.val.flat vi) ∧ PartsK (El.int .u8) w vi st.bl) (fun B w q => ⟨q.rd_at 0 rfl, Sat.parts (pre := [_]) q hvi⟩) hs
    refine Ls_call Try.func24 nm24 rfl rfl (Load_c w67 Ai st.bl.length ci vi st.bl (hs.kept 0 rfl).1 (hs.kept 0 rfl).2 (by omega) (by omega) (dlong_no (fun r hr => (hbl2 r hr).2))) rfl ?_
    rintro v68 w69 ⟨b1, rfl, hsD⟩
    replace hs := hs.trans hsD
    simp only [List.cons_append, List.nil_append] at hs
    obtain ⟨sy0, hsy0⟩ : ∃ q, q = dload st.bl := ⟨_, rfl⟩
    rw [← hsy0] at hs
    have hy0 : sy0.bl = st.bl ∧ sy0.down = false ∧ sy0.writes = 0 ∧ sy0.reads = 0 := by rw [hsy0]; exact ⟨rfl, rfl, rfl, rfl⟩
    refine Ls_run (run_move rfl) rfl ?_
    refine Ls_run (run_extract rfl rfl) rfl ?_
    refine Ls_run (run_extract rfl rfl) rfl ?_
    refine Ls_run (run_assign rfl) rfl ?_
    refine Ls_run (run_assign rfl) rfl ?_
    refine Ls_nil ?_
    refine Jm_seq ?_
    refine St_seq ?_
    refine St_seq ?_
    refine St_region ?_
    refine Ls_run (run_move rfl) rfl ?_
    refine Ls_run (run_asB (c := false) (run_neq rfl rfl) (by decide)) rfl ?_
    refine Ls_run (run_move rfl) rfl ?_
    refine Ls_on rfl rfl ?_
    refine Ls_run (run_move rfl) rfl ?_
    refine Ls_on rfl rfl ?_
    refine Ls_run (run_asB (c := false) (run_eql_ptr_nil Try.underlying24 rfl rfl) rfl) rfl ?_
    refine Ls_run (run_pick_f rfl rfl) rfl ?_
    refine Ls_run (run_move rfl) rfl ?_
    refine Ls_on rfl rfl ?_
    refine Ls_run (run_move rfl) rfl ?_
    refine Ls_on rfl rfl ?_
    obtain ⟨A0, c0, hd0⟩ := hs.dhd
    refine Ls_call Try.func16 nm16 rfl rfl (Down_c w69 b1 _ A0 c0 hd0) rfl ?_
    rintro v70 w71 ⟨rfl, rfl⟩
    rw [hy0.2.1]
    refine Ls_run (run_pick_f rfl rfl) rfl ?_
    refine Ls_run (run_move rfl) rfl ?_
    refine Ls_on rfl rfl ?_
    refine Ls_run (run_move rfl) rfl ?_
    refine Ls_on rfl rfl ?_
    obtain ⟨A0, c0, hd0⟩ := hs.dhd
    refine Ls_call Try.func19 nm19 rfl rfl (Writes_c w69 b1 _ A0 c0 hd0) rfl ?_
    rintro v72 w73 ⟨rfl, rfl⟩
    rw [hy0.2.2.1]
    refine Ls_on rfl rfl ?_
    refine Ls_run (run_asB (c := false) (run_neq rfl rfl) (by decide)) rfl ?_
    refine Ls_run (run_pick_f rfl rfl) rfl ?_
    refine Ls_run (run_move rfl) rfl ?_
    refine Ls_on rfl rfl ?_
    refine Ls_run (run_move rfl) rfl ?_
    refine Ls_on rfl rfl ?_
    obtain ⟨A0, c0, hd0⟩ := hs.dhd
    refine Ls_call Try.func30 nm30 rfl rfl (Reads_c w69 b1 _ A0 c0 hd0) rfl ?_
    rintro v74 w75 ⟨rfl, rfl⟩
    rw [hy0.2.2.2]
    refine Ls_on rfl rfl ?_
    refine Ls_run (run_asB (c := false) (run_neq rfl rfl) (by decide)) rfl ?_
    refine Ls_run (run_pick_f rfl rfl) rfl ?_
    refine Ls_nil ?_
    refine Jm_seq ?_
    refine St_iff rfl ?_
    refine St_skip ?_
    refine Jm_seq ?_
    refine St_seq ?_
    refine St_region ?_
    refine Ls_run (run_move rfl) rfl ?_
    replace hs := hs.front 2 rfl
    simp only [List.cons_append, List.nil_append, List.eraseIdx_cons_zero, List.eraseIdx_cons_succ] at hs
    obtain ⟨vs0, A0, c0, hv0, hs⟩ := hs.dopen
    refine Ls_call Try.func22 nm22 rfl rfl (On_c w w69 _ b0 _ A0 c0 hs) rfl ?_
    rintro v77 w78 ⟨rfl, hs⟩
    replace hs := Sat.dshut (s := don s3) hv0 hs
    obtain ⟨s4, hs4⟩ : ∃ q, q = don s3 := ⟨_, rfl⟩
    rw [← hs4] at hs
    refine Ls_nil ?_
    refine Jm_seq ?_
    refine St_seq ?_
    refine St_seq ?_
    refine St_region ?_
    refine Ls_run (run_assign rfl) rfl ?_
    refine Ls_nil ?_
    refine Jm_seq ?_
    refine St_block ?_
    replace hs := hs.erase 2
    simp only [List.cons_append, List.nil_append, List.eraseIdx_cons_zero, List.eraseIdx_cons_succ] at hs
    obtain ⟨En79, hEn79⟩ : ∃ F : Nat × DSt × DSt → Env, ∀ (q : Nat) (sx : DSt) (sy : DSt), F (q, sx, sy) = [(5, .pointer (some ⟨b0, 0, none⟩)), (8, .pointer (some ⟨b1, 0, none⟩)), (9, .int .i64 (q : Int))] := ⟨(fun (s : Nat × DSt × DSt) => match s with | (q, sx, sy) => [(5, .pointer (some ⟨b0, 0, none⟩)), (8, .pointer (some ⟨b1, 0, none⟩)), (9, .int .i64 (q : Int))]), fun _ _ _ => rfl⟩
    obtain ⟨Iv80, hIv80⟩ : ∃ F : Nat × DSt × DSt → World → Prop, ∀ (q : Nat) (sx : DSt) (sy : DSt) (wr2 : World), F (q, sx, sy) wr2 = (Sat w wr2 [DiskA 85 31 5 b0 sx, DiskA 85 31 5 b1 sy] ∧ q ≤ n ∧ (sx.down = false ∧ sx.bl = st.bl) ∧ (sy.down = false ∧ sy.bl = st.bl)) := ⟨(fun (s : Nat × DSt × DSt) => match s with | (q, sx, sy) => fun (wr2 : World) => Sat w wr2 [DiskA 85 31 5 b0 sx, DiskA 85 31 5 b1 sy] ∧ q ≤ n ∧ (sx.down = false ∧ sx.bl = st.bl) ∧ (sy.down = false ∧ sy.bl = st.bl)), fun _ _ _ _ => rfl⟩
    obtain ⟨ms81, hms81⟩ : ∃ F : Nat × DSt × DSt → Nat, ∀ (q : Nat) (sx : DSt) (sy : DSt), F (q, sx, sy) = (n - q) := ⟨(fun (s : Nat × DSt × DSt) => match s with | (q, sx, sy) => n - q), fun _ _ _ => rfl⟩
    refine St_loop En79 Iv80 ms81 (0, s4, sy0) ?_ ?_ ?_
    · skip
      rw [hIv80]
      exact ⟨hs, by omega, ⟨by rw [hs4]; rfl, by rw [hs4, hs3]; rfl⟩, ⟨hy0.2.1, hy0.1⟩⟩
    · rw [hEn79]; exact (subE_cons rfl (subE_cons rfl (subE_cons rfl subE_nil)))
    rintro ⟨q, sx, sy⟩ wr2 hI82
    rw [hIv80] at hI82
    obtain ⟨hs, hq, hxd, hyd⟩ := hI82
    refine St_eqE (hEn79 _ _ _) ?_
    refine St_seq ?_
    refine St_seq ?_
    refine St_region ?_
    refine Ls_run (run_move rfl) rfl ?_
    refine Ls_run (run_move rfl) rfl ?_
    obtain ⟨A0, c0, hd0⟩ := hs.dhd
    refine Ls_call Try.func29 nm29 rfl rfl (Blocks_c wr2 b0 _ A0 c0 hd0) rfl ?_
    rintro v83 w84 ⟨rfl, rfl⟩
    rw [hxd.2]
    refine Ls_run (run_lss rfl rfl) rfl ?_
    refine Ls_nil ?_
    refine Jm_seq ?_
    refine St_ifP rfl (fun h85 => ?_) (fun h85 => ?_)
    · skip
      refine St_skip ?_
      refine Jm_seq ?_
      refine St_seq ?_
      refine St_block ?_
      refine St_seq ?_
      refine St_region ?_
      refine Ls_run (run_move rfl) rfl ?_
      refine Ls_run (run_move rfl) rfl ?_
      replace hs := hs.front 1 rfl
      simp only [List.cons_append, List.nil_append, List.eraseIdx_cons_zero, List.eraseIdx_cons_succ] at hs
      have hrs8 := dread_ok (s := sy) (k := q) hyd.1 (by rw [hyd.2]; omega)
      refine Ls_call Try.func18 nm18 rfl rfl (Read_c w wr2 _ b1 sy hs (fun r hr => (hbl2 r (by rw [← hyd.2]; exact hr)).2) (q : Int)) rfl ?_
      rintro v86 w87 ⟨Ara, cra, rfl, hs⟩
      rw [hyd.2] at hrs8
      rw [hrs8.1] at hs ⊢
      rw [hrs8.2.1]
      obtain ⟨s8, hs8⟩ : ∃ x, x = (dread sy (q : Int)).2.2 := ⟨_, rfl⟩
      rw [← hs8] at hs hrs8
      refine Ls_run (run_move rfl) rfl ?_
      refine Ls_run (run_extract rfl rfl) rfl ?_
      refine Ls_run (run_extract rfl rfl) rfl ?_
      refine Ls_run (run_assign rfl) rfl ?_
      refine Ls_run (run_assign rfl) rfl ?_
      refine Ls_nil ?_
      refine Jm_seq ?_
      refine St_seq ?_
      refine St_region ?_
      refine Ls_run (run_move rfl) rfl ?_
      refine Ls_run (run_move rfl) rfl ?_
      replace hs := hs.front 2 rfl
      simp only [List.cons_append, List.nil_append, List.eraseIdx_cons_zero, List.eraseIdx_cons_succ] at hs
      have hrs9 := dread_ok (s := sx) (k := q) hxd.1 (by rw [hxd.2]; omega)
      refine Ls_call Try.func18 nm18 rfl rfl (Read_c w w87 _ b0 sx hs (fun r hr => (hbl2 r (by rw [← hxd.2]; exact hr)).2) (q : Int)) rfl ?_
      rintro v88 w89 ⟨Arb, crb, rfl, hs⟩
      rw [hxd.2] at hrs9
      rw [hrs9.1] at hs ⊢
      rw [hrs9.2.1]
      obtain ⟨s9, hs9⟩ : ∃ x, x = (dread sx (q : Int)).2.2 := ⟨_, rfl⟩
      rw [← hs9] at hs hrs9
      refine Ls_run (run_move rfl) rfl ?_
      refine Ls_run (run_extract rfl rfl) rfl ?_
      refine Ls_run (run_extract rfl rfl) rfl ?_
      refine Ls_run (run_assign rfl) rfl ?_
      refine Ls_run (run_assign rfl) rfl ?_
      refine Ls_nil ?_
      refine Jm_seq ?_
      refine St_seq ?_
      refine St_region ?_
      refine Ls_run (run_move rfl) rfl ?_
      refine Ls_run (run_asB (c := false) (run_neq rfl rfl) (by decide)) rfl ?_
      refine Ls_run (run_move rfl) rfl ?_
      refine Ls_on rfl rfl ?_
      refine Ls_run (run_move rfl) rfl ?_
      refine Ls_on rfl rfl ?_
      refine Ls_run (run_asB (c := false) (run_neq rfl rfl) (by decide)) rfl ?_
      refine Ls_run (run_pick_f rfl rfl) rfl ?_
      refine Ls_run (run_move rfl) rfl ?_
      refine Ls_on rfl rfl ?_
      refine Ls_run (run_move rfl) rfl ?_
      refine Ls_on rfl rfl ?_
      refine Ls_run (run_string Try.underlying31 Try.underlying5 Try.underlying9 rfl (hs.rd_at 3 rfl)) rfl ?_
      refine Ls_on rfl rfl ?_
      refine Ls_run (run_move rfl) rfl ?_
      refine Ls_on rfl rfl ?_
      refine Ls_run (run_string Try.underlying31 Try.underlying5 Try.underlying9 rfl (hs.rd_at 1 rfl)) rfl ?_
      refine Ls_on rfl rfl ?_
      refine Ls_run (run_asB (c := false) (run_neq_str rfl rfl) (by simp)) rfl ?_
      refine Ls_run (run_pick_f rfl rfl) rfl ?_
      refine Ls_nil ?_
      refine Jm_seq ?_
      refine St_iff rfl ?_
      refine St_skip ?_
      refine Jm_block_normal (Jm_seq ?_)
      refine St_region ?_
      refine Ls_run (run_move rfl) rfl ?_
      refine Ls_run (run_add rfl rfl (w64 (by omega))) rfl ?_
      refine Ls_run (run_assign rfl) rfl ?_
      refine Ls_nil ?_
      replace hs := hs.erase 1
      simp only [List.cons_append, List.nil_append, List.eraseIdx_cons_zero, List.eraseIdx_cons_succ] at hs
      replace hs := hs.erase 2
      simp only [List.cons_append, List.nil_append, List.eraseIdx_cons_zero, List.eraseIdx_cons_succ] at hs
      refine Jm_round (q + 1, s9, s8) ?_ ?_ ?_
      · rw [hEn79]; exact (subE_cons rfl (subE_cons rfl (subE_cons rfl subE_nil)))
      · skip
        rw [hIv80]
        exact ⟨hs, by omega, ⟨by rw [hrs9.2.2.1]; exact hxd.1, hrs9.2.2.2.2⟩, ⟨by rw [hrs8.2.2.1]; exact hyd.1, hrs8.2.2.2.2⟩⟩
      · skip
        rw [hms81, hms81]
        omega
    · skip
      refine St_exit ?_
      refine Jm_then_exit (Jm_then_exit (Jm_block_same (Jm_seq ?_)))
      refine St_seq ?_
      refine St_region ?_
      refine Ls_run (run_assign rfl) rfl ?_
      refine Ls_nil ?_
      refine Jm_seq ?_
      refine St_ret ?_
      refine Jm_ret1 rfl rfl ?_
      exact ⟨_, rfl, rfl, hs.below⟩
theorem DiskLoads_c (w : World) (A : Option Addr) (n c : Nat) (vs : List Value) (bl : List (List Int)) (A2 : Option Addr) (n2 c2 : Nat) (pl : List (Int × Option Addr × Nat × Nat)) (hr : Rd w A n c 1 (El.val.flat vs)) (hp : PartsK (El.int .u8) w vs bl) (hba : ∀ r ∈ bl, IsBytes r) (hr2 : Rd w A2 n2 c2 2 (KPut.flat pl)) (hput : ∀ x ∈ pl, PutOk w x) (hn : n ≤ 9223372036854775807) (hn2 : n2 ≤ 9223372036854775807) : Calls Try.prog 7 [.slice A n c, .slice A2 n2 c2].toArray w (Ret (fun v' w' => v' = .bool true ∧ Below w.heap.size w w')) := by
  by_cases h1 : n < 1 ∨ 64 < n
  · exact DiskLoads_arg w A n c vs bl A2 n2 c2 pl hr hp hba hr2 hput hn hn2 h1
  · cases hlo : dlong bl with
    | true => exact DiskLoads_long w A n c vs bl A2 n2 c2 pl hr hp hba hr2 hput hn hn2 (by omega) (by omega) hlo
    | false => exact DiskLoads_ok w A n c vs bl A2 n2 c2 pl hr hp hba hr2 hput hn hn2 (by omega) (by omega) hlo
end Go.Proofs.Ytpmkedgennnekaa.Lg
