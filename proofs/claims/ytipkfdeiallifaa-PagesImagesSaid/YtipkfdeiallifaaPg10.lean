/-
  The law PagesImages, walked. By program (gen/pg10.py).
-/
import Derived.Test.YtipkfdeiallifaaPg9
set_option linter.unusedVariables false
set_option linter.unusedSimpArgs false
namespace Go.Proofs.Ytipkfdeiallifaa.Lg
open Go Go.RowKit Go.Proofs.Ytipkfdeiallifaa.WirePure
theorem dread_bl (d : DSt) (i : Int) : (dread d i).2.2.bl = d.bl := by unfold dread; split <;> rfl
theorem broots_bl (d : DSt) : (broots dO d).2.2.bl = d.bl := by
  unfold broots
  split
  · exact dread_bl _ _
  · exact (dread_bl _ _).trans (dread_bl _ _)
theorem bopen_bl (d : DSt) : (bopen dO d).2.2.bl = d.bl := by
  unfold bopen
  split
  · rfl
  · split <;> exact broots_bl d
theorem dr_load {bl : List (List Int)} (hb : ∀ x ∈ bl, IsBytes x) (hl : dlong bl = false) (hn : bl.length ≤ 64) : DR (dload bl) (rload bl) := ⟨alike_load bl, fun x hx => ⟨hb x hx, dlong_ok hl x hx⟩, hn, by simp [rload]⟩
set_option maxRecDepth 100000 in
set_option maxHeartbeats 1000000 in
theorem PagesImages_arg (w : World) (A : Option Addr) (n c : Nat) (vs : List Value) (bl : List (List Int)) (hr : Rd w A n c 1 (El.val.flat vs)) (hp : PartsK (El.int .u8) w vs bl) (hba : ∀ r ∈ bl, IsBytes r) (hn : n ≤ 9223372036854775807) (hq : n < 1 ∨ 64 < n) :
    Calls Try.prog 13 [.slice A n c].toArray w (Ret (fun v' w' => v' = .bool true ∧ Below w.heap.size w w')) := by
  have hs := Sat.start w
  refine Calls_body Try.func13 rfl rfl rfl (envE_cons (i := 0) (v := .slice A n c) rfl envE_nil) ?_
  refine St_seq ?_
  refine St_region ?_
  refine Ls_run (run_assign rfl) rfl ?_
  refine Ls_nil ?_
  refine Jm_seq ?_
  refine St_seq ?_
  refine St_seq ?_
  refine St_region ?_
  refine Ls_call Try.func23 nm23 rfl rfl (awake9_c w) rfl ?_
  rintro v1 w2 ⟨rfl, hsA⟩
  replace hs := hs.trans hsA
  simp only [List.nil_append] at hs
  refine Ls_run (run_not rfl) rfl ?_
  refine Ls_nil ?_
  refine Jm_seq ?_
  refine St_iff rfl ?_
  refine St_skip ?_
  refine Jm_seq ?_
  refine St_seq ?_
  refine St_region ?_
  refine Ls_run (run_move rfl) rfl ?_
  refine Ls_call Try.func59 nm59 rfl rfl (Load_arg w2 A n c hq hn) rfl ?_
  rintro v4 w5 ⟨rfl, rfl⟩
  refine Ls_run (run_move rfl) rfl ?_
  refine Ls_run (run_extract rfl rfl) rfl ?_
  refine Ls_run (run_extract rfl rfl) rfl ?_
  refine Ls_run (run_assign rfl) rfl ?_
  refine Ls_run (run_assign rfl) rfl ?_
  refine Ls_nil ?_
  refine Jm_seq ?_
  refine St_seq ?_
  refine St_region ?_
  refine Ls_run (run_move rfl) rfl ?_
  refine Ls_call Try.func60 nm60 rfl rfl (rLoad_arg w2 A n c hq hn) rfl ?_
  rintro v6 w7 ⟨rfl, rfl⟩
  refine Ls_run (run_move rfl) rfl ?_
  refine Ls_run (run_extract rfl rfl) rfl ?_
  refine Ls_run (run_extract rfl rfl) rfl ?_
  refine Ls_run (run_assign rfl) rfl ?_
  refine Ls_run (run_assign rfl) rfl ?_
  refine Ls_nil ?_
  refine Jm_seq ?_
  refine St_seq ?_
  refine St_seq ?_
  refine St_region ?_
  refine Ls_run (run_move rfl) rfl ?_
  refine Ls_run (run_move rfl) rfl ?_
  refine Ls_run (run_asB (c := false) (run_neq rfl rfl) (by decide)) rfl ?_
  refine Ls_run (run_move rfl) rfl ?_
  refine Ls_on rfl rfl ?_
  refine Ls_run (run_move rfl) rfl ?_
  refine Ls_on rfl rfl ?_
  refine Ls_run (run_asB (c := true) (run_neq rfl rfl) (by decide)) rfl ?_
  refine Ls_run (run_pick_f rfl rfl) rfl ?_
  refine Ls_nil ?_
  refine Jm_seq ?_
  refine St_ift rfl ?_
  refine St_seq ?_
  refine St_region ?_
  refine Ls_run (run_move rfl) rfl ?_
  refine Ls_run (run_move rfl) rfl ?_
  refine Ls_run (run_asB (c := true) (run_eql rfl rfl) (by decide)) rfl ?_
  refine Ls_run (run_assign rfl) rfl ?_
  refine Ls_nil ?_
  refine Jm_seq ?_
  refine St_ret ?_
  refine Jm_then_ret  ?_
  refine Jm_ret1 rfl rfl ?_
  exact ⟨_, rfl, rfl, hs.below⟩
set_option maxRecDepth 100000 in
set_option maxHeartbeats 1000000 in
theorem PagesImages_long (w : World) (A : Option Addr) (n c : Nat) (vs : List Value) (bl : List (List Int)) (hr : Rd w A n c 1 (El.val.flat vs)) (hp : PartsK (El.int .u8) w vs bl) (hba : ∀ r ∈ bl, IsBytes r) (hn : n ≤ 9223372036854775807) (hn1 : 1 ≤ n) (hn2 : n ≤ 64) (hlo : dlong bl = true) :
    Calls Try.prog 13 [.slice A n c].toArray w (Ret (fun v' w' => v' = .bool true ∧ Below w.heap.size w w')) := by
  have hs := Sat.start w
  refine Calls_body Try.func13 rfl rfl rfl (envE_cons (i := 0) (v := .slice A n c) rfl envE_nil) ?_
  refine St_seq ?_
  refine St_region ?_
  refine Ls_run (run_assign rfl) rfl ?_
  refine Ls_nil ?_
  refine Jm_seq ?_
  refine St_seq ?_
  refine St_seq ?_
  refine St_region ?_
  refine Ls_call Try.func23 nm23 rfl rfl (awake9_c w) rfl ?_
  rintro v1 w2 ⟨rfl, hsA⟩
  replace hs := hs.trans hsA
  simp only [List.nil_append] at hs
  refine Ls_run (run_not rfl) rfl ?_
  refine Ls_nil ?_
  refine Jm_seq ?_
  refine St_iff rfl ?_
  refine St_skip ?_
  refine Jm_seq ?_
  refine St_seq ?_
  refine St_region ?_
  refine Ls_run (run_move rfl) rfl ?_
  refine Ls_call Try.func59 nm59 rfl rfl (Load_long w2 A n c vs bl (hr.inB hs) (hp.inB hs) hn1 hn2 hlo) rfl ?_
  rintro v4 w5 ⟨rfl, hsN6⟩
  replace hs := hs.trans hsN6
  simp only [List.nil_append] at hs
  refine Ls_run (run_move rfl) rfl ?_
  refine Ls_run (run_extract rfl rfl) rfl ?_
  refine Ls_run (run_extract rfl rfl) rfl ?_
  refine Ls_run (run_assign rfl) rfl ?_
  refine Ls_run (run_assign rfl) rfl ?_
  refine Ls_nil ?_
  refine Jm_seq ?_
  refine St_seq ?_
  refine St_region ?_
  refine Ls_run (run_move rfl) rfl ?_
  refine Ls_call Try.func60 nm60 rfl rfl (rLoad_long w5 A n c vs bl (hr.inB hs) (hp.inB hs) hn1 hn2 hlo) rfl ?_
  rintro v7 w9 ⟨rfl, hsN10⟩
  replace hs := hs.trans hsN10
  simp only [List.nil_append] at hs
  refine Ls_run (run_move rfl) rfl ?_
  refine Ls_run (run_extract rfl rfl) rfl ?_
  refine Ls_run (run_extract rfl rfl) rfl ?_
  refine Ls_run (run_assign rfl) rfl ?_
  refine Ls_run (run_assign rfl) rfl ?_
  refine Ls_nil ?_
  refine Jm_seq ?_
  refine St_seq ?_
  refine St_seq ?_
  refine St_region ?_
  refine Ls_run (run_move rfl) rfl ?_
  refine Ls_run (run_move rfl) rfl ?_
  refine Ls_run (run_asB (c := false) (run_neq rfl rfl) (by decide)) rfl ?_
  refine Ls_run (run_move rfl) rfl ?_
  refine Ls_on rfl rfl ?_
  refine Ls_run (run_move rfl) rfl ?_
  refine Ls_on rfl rfl ?_
  refine Ls_run (run_asB (c := true) (run_neq rfl rfl) (by decide)) rfl ?_
  refine Ls_run (run_pick_f rfl rfl) rfl ?_
  refine Ls_nil ?_
  refine Jm_seq ?_
  refine St_ift rfl ?_
  refine St_seq ?_
  refine St_region ?_
  refine Ls_run (run_move rfl) rfl ?_
  refine Ls_run (run_move rfl) rfl ?_
  refine Ls_run (run_asB (c := true) (run_eql rfl rfl) (by decide)) rfl ?_
  refine Ls_run (run_assign rfl) rfl ?_
  refine Ls_nil ?_
  refine Jm_seq ?_
  refine St_ret ?_
  refine Jm_then_ret  ?_
  refine Jm_ret1 rfl rfl ?_
  exact ⟨_, rfl, rfl, hs.below⟩
set_option maxRecDepth 100000 in
set_option maxHeartbeats 1000000 in
theorem PagesImages_ok (w : World) (A : Option Addr) (n c : Nat) (vs : List Value) (bl : List (List Int)) (hr : Rd w A n c 1 (El.val.flat vs)) (hp : PartsK (El.int .u8) w vs bl) (hba : ∀ r ∈ bl, IsBytes r) (hn : n ≤ 9223372036854775807) (hn1 : 1 ≤ n) (hn2 : n ≤ 64) (hlo : dlong bl = false) :
    Calls Try.prog 13 [.slice A n c].toArray w (Ret (fun v' w' => v' = .bool true ∧ Below w.heap.size w w')) := by
  have hs := Sat.start w
  have hvl : vs.length = n := by have := hr.len; rw [El.flat_length] at this; simpa [El.val] using this
  have hbl : bl.length = n := by have := hp.1; omega
  have hdr0 := dr_load hba hlo (by omega)
  refine Calls_body Try.func13 rfl rfl rfl (envE_cons (i := 0) (v := .slice A n c) rfl envE_nil) ?_
  refine St_seq ?_
  refine St_region ?_
  refine Ls_run (run_assign rfl) rfl ?_
  refine Ls_nil ?_
  refine Jm_seq ?_
  refine St_seq ?_
  refine St_seq ?_
  refine St_region ?_
  refine Ls_call Try.func23 nm23 rfl rfl (awake9_c w) rfl ?_
  rintro v1 w2 ⟨rfl, hsA⟩
  replace hs := hs.trans hsA
  simp only [List.nil_append] at hs
  refine Ls_run (run_not rfl) rfl ?_
  refine Ls_nil ?_
  refine Jm_seq ?_
  refine St_iff rfl ?_
  refine St_skip ?_
  refine Jm_seq ?_
  refine St_seq ?_
  refine St_region ?_
  refine Ls_run (run_move rfl) rfl ?_
  refine Ls_call Try.func59 nm59 rfl rfl (Load_c w2 A n c vs bl (hr.inB hs) (hp.inB hs) hn1 hn2 hlo) rfl ?_
  rintro v4 w5 ⟨b0, rfl, hsN6⟩
  replace hs := hs.trans hsN6
  simp only [List.cons_append, List.nil_append] at hs
  refine Ls_run (run_move rfl) rfl ?_
  refine Ls_run (run_extract rfl rfl) rfl ?_
  refine Ls_run (run_extract rfl rfl) rfl ?_
  refine Ls_run (run_assign rfl) rfl ?_
  refine Ls_run (run_assign rfl) rfl ?_
  refine Ls_nil ?_
  refine Jm_seq ?_
  refine St_seq ?_
  refine St_region ?_
  refine Ls_run (run_move rfl) rfl ?_
  refine Ls_call Try.func60 nm60 rfl rfl (rLoad_c w5 A n c vs bl (hr.inB hs) (hp.inB hs) hn1 hn2 hlo) rfl ?_
  rintro v7 w9 ⟨b1, rfl, hsN10⟩
  replace hs := hs.trans hsN10
  simp only [List.cons_append, List.nil_append] at hs
  refine Ls_run (run_move rfl) rfl ?_
  refine Ls_run (run_extract rfl rfl) rfl ?_
  refine Ls_run (run_extract rfl rfl) rfl ?_
  refine Ls_run (run_assign rfl) rfl ?_
  refine Ls_run (run_assign rfl) rfl ?_
  refine Ls_nil ?_
  refine Jm_seq ?_
  refine St_seq ?_
  refine St_seq ?_
  refine St_region ?_
  refine Ls_run (run_move rfl) rfl ?_
  refine Ls_run (run_move rfl) rfl ?_
  refine Ls_run (run_asB (c := false) (run_neq rfl rfl) (by decide)) rfl ?_
  refine Ls_run (run_move rfl) rfl ?_
  refine Ls_on rfl rfl ?_
  refine Ls_run (run_move rfl) rfl ?_
  refine Ls_on rfl rfl ?_
  refine Ls_run (run_asB (c := false) (run_neq rfl rfl) (by decide)) rfl ?_
  refine Ls_run (run_pick_f rfl rfl) rfl ?_
  refine Ls_nil ?_
  refine Jm_seq ?_
  refine St_iff rfl ?_
  refine St_skip ?_
  refine Jm_seq ?_
  refine St_seq ?_
  refine St_region ?_
  refine Ls_run (run_move rfl) rfl ?_
  replace hs := hs.front 1 rfl
  simp only [List.cons_append, List.nil_append, List.eraseIdx_cons_zero, List.eraseIdx_cons_succ] at hs
  refine Ls_call Try.func36 nm36 rfl rfl (BOpen_g w w9 _ b0 (dload bl) hs hdr0.dok (by show 1 ≤ bl.length; omega)) rfl ?_
  rintro v12 w13 ⟨p5, rfl, hs⟩
  refine Ls_run (run_move rfl) rfl ?_
  refine Ls_run (run_extract rfl rfl) rfl ?_
  refine Ls_run (run_extract rfl rfl) rfl ?_
  refine Ls_run (run_assign rfl) rfl ?_
  refine Ls_run (run_assign rfl) rfl ?_
  refine Ls_nil ?_
  refine Jm_seq ?_
  refine St_seq ?_
  refine St_region ?_
  refine Ls_run (run_move rfl) rfl ?_
  replace hs := hs.front 2 rfl
  simp only [List.cons_append, List.nil_append, List.eraseIdx_cons_zero, List.eraseIdx_cons_succ] at hs
  refine Ls_call Try.func48 nm48 rfl rfl (rBOpen_g w w13 _ b1 (rload bl) hs hdr0.rok (by show 1 ≤ bl.length; omega)) rfl ?_
  rintro v14 w15 ⟨q5, rfl, hs⟩
  have hfs5 := bopen_same hdr0
  have hfi5 := bopen_inv hdr0.dok
  have hfb5 := bopen_bl (dload bl)
  rw [← hfs5.2.1] at hs
  have hpn5 : p5.isNone = q5.isNone := by rw [(hs.front 2 rfl).boIsNone, (hs.front 0 rfl).qoIsNone]
  obtain ⟨⟨eo, jo, d⟩, hbo⟩ : ∃ q, bopen dO (dload bl) = q := ⟨_, rfl⟩
  obtain ⟨⟨eo2, jo2, r⟩, hro⟩ : ∃ q, bopen rO (rload bl) = q := ⟨_, rfl⟩
  simp only [hbo, hro] at hs hfs5 hfi5 hfb5 ⊢
  obtain ⟨he5, hj5, hdr⟩ := hfs5
  subst he5
  subst hj5
  have hjo : OInv jo d.bl.length := by rw [hfi5.2.2]; exact hfi5.1
  replace hfb5 : d.bl = bl := hfb5
  refine Ls_run (run_move rfl) rfl ?_
  refine Ls_run (run_extract rfl rfl) rfl ?_
  refine Ls_run (run_extract rfl rfl) rfl ?_
  refine Ls_run (run_assign rfl) rfl ?_
  refine Ls_run (run_assign rfl) rfl ?_
  refine Ls_nil ?_
  refine Jm_seq ?_
  refine St_seq ?_
  refine St_seq ?_
  refine St_region ?_
  refine Ls_run (run_move rfl) rfl ?_
  refine Ls_run (run_move rfl) rfl ?_
  refine Ls_run (run_asB (c := false) (run_neq rfl rfl) (by simp)) rfl ?_
  refine Ls_run (run_move rfl) rfl ?_
  refine Ls_on rfl rfl ?_
  refine Ls_run (run_move rfl) rfl ?_
  refine Ls_on rfl rfl ?_
  refine Ls_run (run_eql_ptr_nil Try.underlying47 rfl rfl) rfl ?_
  refine Ls_on rfl rfl ?_
  refine Ls_run (run_move rfl) rfl ?_
  refine Ls_on rfl rfl ?_
  refine Ls_run (run_eql_ptr_nil Try.underlying74 rfl rfl) rfl ?_
  refine Ls_on rfl rfl ?_
  refine Ls_run (run_asB (c := false) (run_neq_bool Try.underlying4 rfl rfl) (by rw [hpn5]; simp)) rfl ?_
  refine Ls_run (run_pick_f rfl rfl) rfl ?_
  refine Ls_run (run_move rfl) rfl ?_
  refine Ls_on rfl rfl ?_
  refine Ls_run (run_move rfl) rfl ?_
  refine Ls_on rfl rfl ?_
  replace hs := hs.front 2 rfl
  simp only [List.cons_append, List.nil_append, List.eraseIdx_cons_zero, List.eraseIdx_cons_succ] at hs
  refine Ls_call Try.func49 nm49 rfl rfl (BUsedO_c w w15 _ p5 _ jo d.bl.length hs hjo) rfl ?_
  rintro v16 w17 ⟨rfl, rfl⟩
  refine Ls_on rfl rfl ?_
  refine Ls_run (run_move rfl) rfl ?_
  refine Ls_on rfl rfl ?_
  replace hs := hs.front 1 rfl
  simp only [List.cons_append, List.nil_append, List.eraseIdx_cons_zero, List.eraseIdx_cons_succ] at hs
  refine Ls_call Try.func50 nm50 rfl rfl (rBUsedO_c w w15 _ q5 _ jo d.bl.length hs hjo) rfl ?_
  rintro v18 w19 ⟨rfl, rfl⟩
  refine Ls_on rfl rfl ?_
  refine Ls_run (run_asB (c := false) (run_neq rfl rfl) (by simp)) rfl ?_
  refine Ls_run (run_pick_f rfl rfl) rfl ?_
  refine Ls_run (run_move rfl) rfl ?_
  refine Ls_on rfl rfl ?_
  refine Ls_run (run_move rfl) rfl ?_
  refine Ls_on rfl rfl ?_
  replace hs := hs.front 1 rfl
  simp only [List.cons_append, List.nil_append, List.eraseIdx_cons_zero, List.eraseIdx_cons_succ] at hs
  refine Ls_call Try.func51 nm51 rfl rfl (BPagesO_c w w15 _ p5 _ jo d.bl.length hs hjo) rfl ?_
  rintro v20 w21 ⟨rfl, rfl⟩
  refine Ls_on rfl rfl ?_
  refine Ls_run (run_move rfl) rfl ?_
  refine Ls_on rfl rfl ?_
  replace hs := hs.front 1 rfl
  simp only [List.cons_append, List.nil_append, List.eraseIdx_cons_zero, List.eraseIdx_cons_succ] at hs
  refine Ls_call Try.func52 nm52 rfl rfl (rBPagesO_c w w15 _ q5 _ jo d.bl.length hs hjo) rfl ?_
  rintro v22 w23 ⟨rfl, rfl⟩
  refine Ls_on rfl rfl ?_
  refine Ls_run (run_asB (c := false) (run_neq rfl rfl) (by simp)) rfl ?_
  refine Ls_run (run_pick_f rfl rfl) rfl ?_
  refine Ls_run (run_move rfl) rfl ?_
  refine Ls_on rfl rfl ?_
  refine Ls_run (run_move rfl) rfl ?_
  refine Ls_on rfl rfl ?_
  replace hs := hs.front 3 rfl
  simp only [List.cons_append, List.nil_append, List.eraseIdx_cons_zero, List.eraseIdx_cons_succ] at hs
  refine Ls_call Try.func28 nm28 rfl rfl (Image_c w w15 _ b0 d hs hdr.dok.len hdr.2.2.1) rfl ?_
  rintro v24 w25 ⟨Ix, ix, vx, rfl, hvx, hs⟩
  replace hs := Sat.toKeep (F := fun w => Rd w Ix d.bl.length ix 1 (El.val.flat vx) ∧ PartsK (El.int .u8) w vx d.bl) (fun B w q => ⟨q.rd_at 0 rfl, Sat.parts (pre := [_]) q hvx⟩) hs
  refine Ls_on rfl rfl ?_
  refine Ls_run (run_move rfl) rfl ?_
  refine Ls_on rfl rfl ?_
  have hfb6 := hfb5
  refine Ls_call Try.func29 nm29 rfl rfl (images9_c w25 _ _ _ vx d.bl _ _ _ vs bl (hs.kept 0 rfl).1 (hr.inB hs) (hs.kept 0 rfl).2 (hp.inB hs) (fun x hx => (hdr.2.1 x hx).1) hba (by have := hdr.2.2.1; omega)) rfl ?_
  rintro v26 w27 ⟨rfl, hsI⟩
  replace hs := hs.trans hsI
  simp only [List.nil_append] at hs
  rw [decide_eq_true hfb5]
  refine Ls_on rfl rfl ?_
  refine Ls_run (run_not rfl) rfl ?_
  refine Ls_run (run_pick_f rfl rfl) rfl ?_
  refine Ls_nil ?_
  refine Jm_seq ?_
  refine St_iff rfl ?_
  refine St_skip ?_
  refine Jm_seq ?_
  refine St_seq ?_
  refine St_seq ?_
  refine St_region ?_
  refine Ls_run (run_assign rfl) rfl ?_
  refine Ls_nil ?_
  refine Jm_seq ?_
  refine St_block ?_
  replace hs := hs.erase 0
  simp only [List.cons_append, List.nil_append, List.eraseIdx_cons_zero, List.eraseIdx_cons_succ] at hs
  replace hs := hs.front 3 rfl
  simp only [List.cons_append, List.nil_append, List.eraseIdx_cons_zero, List.eraseIdx_cons_succ] at hs
  replace hs := hs.front 1 rfl
  simp only [List.cons_append, List.nil_append, List.eraseIdx_cons_zero, List.eraseIdx_cons_succ] at hs
  replace hs := hs.front 2 rfl
  simp only [List.cons_append, List.nil_append, List.eraseIdx_cons_zero, List.eraseIdx_cons_succ] at hs
  replace hs := hs.front 3 rfl
  simp only [List.cons_append, List.nil_append, List.eraseIdx_cons_zero, List.eraseIdx_cons_succ] at hs
  obtain ⟨En29, hEn29⟩ : ∃ F : Nat → Env, ∀ (i : Nat), F i = [(0, .slice A n c), (3, .pointer (some ⟨b0, 0, none⟩)), (5, .pointer (some ⟨b1, 0, none⟩)), (7, .pointer p5), (8, .pointer q5), (9, .int .i64 ((i : Int) - 1))] := ⟨(fun (i : Nat) => [(0, .slice A n c), (3, .pointer (some ⟨b0, 0, none⟩)), (5, .pointer (some ⟨b1, 0, none⟩)), (7, .pointer p5), (8, .pointer q5), (9, .int .i64 ((i : Int) - 1))]), fun _ => rfl⟩
  obtain ⟨Iv30, hIv30⟩ : ∃ F : Nat → World → Prop, ∀ (i : Nat) (wr : World), F i wr = (∃ jo d r, Sat w wr [BO 122 3 p5 (some ⟨b0, 0, none⟩) jo, QO 138 3 q5 (some ⟨b1, 0, none⟩) jo, DiskA 129 28 5 b0 d, RefA 135 28 5 b1 r] ∧ DR d r ∧ OInv jo d.bl.length ∧ i ≤ 10) := ⟨(fun (i : Nat) => fun (wr : World) => ∃ jo d r, Sat w wr [BO 122 3 p5 (some ⟨b0, 0, none⟩) jo, QO 138 3 q5 (some ⟨b1, 0, none⟩) jo, DiskA 129 28 5 b0 d, RefA 135 28 5 b1 r] ∧ DR d r ∧ OInv jo d.bl.length ∧ i ≤ 10), fun _ _ => rfl⟩
  obtain ⟨ms31, hms31⟩ : ∃ F : Nat → Nat, ∀ (i : Nat), F i = (10 - i) := ⟨(fun (i : Nat) => 10 - i), fun _ => rfl⟩
  refine St_loop En29 Iv30 ms31 (0) ?_ ?_ ?_
  · skip
    rw [hIv30]
    exact ⟨_, _, _, hs, hdr, hjo, by omega⟩
  · rw [hEn29]; exact (subE_cons rfl (subE_cons rfl (subE_cons rfl (subE_cons rfl (subE_cons rfl (subE_cons rfl subE_nil))))))
  rintro i wr hI32
  rw [hIv30] at hI32
  obtain ⟨jo, d, r, hs, hdr, hjo, hi⟩ := hI32
  refine St_eqE (hEn29 _) ?_
  refine St_seq ?_
  refine St_seq ?_
  refine St_region ?_
  refine Ls_run (run_move rfl) rfl ?_
  refine Ls_run (run_lss rfl rfl) rfl ?_
  refine Ls_nil ?_
  refine Jm_seq ?_
  refine St_ifP rfl (fun h33 => ?_) (fun h33 => ?_)
  · skip
    refine St_skip ?_
    refine Jm_seq ?_
    refine St_seq ?_
    refine St_block ?_
    refine St_seq ?_
    refine St_region ?_
    refine Ls_run (run_move rfl) rfl ?_
    refine Ls_run (run_move rfl) rfl ?_
    replace hs := hs.front 2 rfl
    simp only [List.cons_append, List.nil_append, List.eraseIdx_cons_zero, List.eraseIdx_cons_succ] at hs
    replace hs := hs.front 1 rfl
    simp only [List.cons_append, List.nil_append, List.eraseIdx_cons_zero, List.eraseIdx_cons_succ] at hs
    refine Ls_call Try.func31 nm31 rfl rfl (BGetO_c w wr _ p5 b0 jo d hs hdr.dok hjo ((i : Int) - 1)) rfl ?_
    rintro v34 w35 ⟨Ag, cg, rfl, hs⟩
    have hgs := oget_same (so := jo) hdr ((i : Int) - 1)
    have hgi := oget_inv (so := jo) hdr.dok hjo ((i : Int) - 1)
    obtain ⟨⟨gl, ge, js, d2⟩, hgq⟩ : ∃ q, oget dO jo d ((i : Int) - 1) = q := ⟨_, rfl⟩
    simp only [hgq] at hs hgs hgi ⊢
    refine Ls_run (run_move rfl) rfl ?_
    refine Ls_run (run_extract rfl rfl) rfl ?_
    refine Ls_run (run_extract rfl rfl) rfl ?_
    refine Ls_run (run_assign rfl) rfl ?_
    refine Ls_run (run_assign rfl) rfl ?_
    refine Ls_nil ?_
    refine Jm_seq ?_
    refine St_seq ?_
    refine St_region ?_
    refine Ls_run (run_move rfl) rfl ?_
    refine Ls_run (run_move rfl) rfl ?_
    replace hs := hs.front 4 rfl
    simp only [List.cons_append, List.nil_append, List.eraseIdx_cons_zero, List.eraseIdx_cons_succ] at hs
    replace hs := hs.front 4 rfl
    simp only [List.cons_append, List.nil_append, List.eraseIdx_cons_zero, List.eraseIdx_cons_succ] at hs
    refine Ls_call Try.func43 nm43 rfl rfl (rBGetO_c w w35 _ q5 b1 jo r hs hdr.rok (by rw [← hdr.1.1]; exact hjo) ((i : Int) - 1)) rfl ?_
    rintro v36 w37 ⟨Ah, ch, rfl, hs⟩
    obtain ⟨⟨gl2, ge2, js2, r2⟩, hgr⟩ : ∃ q, oget rO jo r ((i : Int) - 1) = q := ⟨_, rfl⟩
    simp only [hgr] at hs hgs ⊢
    obtain ⟨hg1, hg2, hg3, hg4⟩ := hgs
    subst hg1
    subst hg2
    subst hg3
    refine Ls_run (run_move rfl) rfl ?_
    refine Ls_run (run_extract rfl rfl) rfl ?_
    refine Ls_run (run_extract rfl rfl) rfl ?_
    refine Ls_run (run_assign rfl) rfl ?_
    refine Ls_run (run_assign rfl) rfl ?_
    refine Ls_nil ?_
    refine Jm_seq ?_
    refine St_seq ?_
    refine St_region ?_
    refine Ls_run (run_move rfl) rfl ?_
    refine Ls_run (run_string Try.underlying28 Try.underlying5 Try.underlying9 rfl (hs.rd_at 5 rfl)) rfl ?_
    refine Ls_run (run_move rfl) rfl ?_
    refine Ls_run (run_string Try.underlying28 Try.underlying5 Try.underlying9 rfl (hs.rd_at 2 rfl)) rfl ?_
    refine Ls_run (run_asB (c := false) (run_neq_str rfl rfl) (by simp)) rfl ?_
    refine Ls_run (run_move rfl) rfl ?_
    refine Ls_on rfl rfl ?_
    refine Ls_run (run_move rfl) rfl ?_
    refine Ls_on rfl rfl ?_
    refine Ls_run (run_move rfl) rfl ?_
    refine Ls_on rfl rfl ?_
    refine Ls_run (run_asB (c := false) (run_neq rfl rfl) (by simp)) rfl ?_
    refine Ls_run (run_pick_f rfl rfl) rfl ?_
    refine Ls_nil ?_
    refine Jm_seq ?_
    refine St_iff rfl ?_
    refine St_skip ?_
    refine Jm_block_normal (Jm_seq ?_)
    refine St_region ?_
    refine Ls_run (run_move rfl) rfl ?_
    refine Ls_run (run_as (run_add rfl rfl (w64 (by omega))) (show _ = Value.int .i64 (((i + 1 : Nat) : Int) - 1) by congr 1; push_cast; omega)) rfl ?_
    refine Ls_run (run_assign rfl) rfl ?_
    refine Ls_nil ?_
    replace hs := hs.erase 2
    simp only [List.cons_append, List.nil_append, List.eraseIdx_cons_zero, List.eraseIdx_cons_succ] at hs
    replace hs := hs.erase 4
    simp only [List.cons_append, List.nil_append, List.eraseIdx_cons_zero, List.eraseIdx_cons_succ] at hs
    replace hs := hs.front 1 rfl
    simp only [List.cons_append, List.nil_append, List.eraseIdx_cons_zero, List.eraseIdx_cons_succ] at hs
    replace hs := hs.front 3 rfl
    simp only [List.cons_append, List.nil_append, List.eraseIdx_cons_zero, List.eraseIdx_cons_succ] at hs
    replace hs := hs.front 2 rfl
    simp only [List.cons_append, List.nil_append, List.eraseIdx_cons_zero, List.eraseIdx_cons_succ] at hs
    replace hs := hs.front 3 rfl
    simp only [List.cons_append, List.nil_append, List.eraseIdx_cons_zero, List.eraseIdx_cons_succ] at hs
    refine Jm_round (i + 1) ?_ ?_ ?_
    · rw [hEn29]; exact (subE_cons rfl (subE_cons rfl (subE_cons rfl (subE_cons rfl (subE_cons rfl (subE_cons rfl subE_nil))))))
    · skip
      rw [hIv30]
      exact ⟨_, _, _, hs, hg4, by rw [hgi.2.1]; exact hgi.1, by omega⟩
    · skip
      rw [hms31, hms31]
      omega
  · skip
    refine St_exit ?_
    refine Jm_then_exit (Jm_then_exit (Jm_block_same (Jm_seq ?_)))
    refine St_seq ?_
    refine St_region ?_
    refine Ls_run (run_move rfl) rfl ?_
    refine Ls_literal [_, _, _, _] hs Try.underlying28 inf5 rfl rfl rfl rfl rfl rfl ?_
    intro b39 w40 hs
    simp only [List.flatMap_cons, List.flatMap_nil, Value.cells, List.cons_append, List.nil_append] at hs
    refine Ls_stringish hs Try.underlying28 Try.underlying5 rfl rfl ?_
    intro w41 hs
    refine Ls_run (run_buildO (pv := [(0, _), (1, _)]) rfl (bld45_0_1 _ _ _ _)) rfl ?_
    refine Ls_literal [_] hs Try.underlying51 inf45 rfl rfl rfl rfl rfl rfl ?_
    intro b42 w43 hs
    simp only [List.flatMap_cons, List.flatMap_nil, Value.cells, List.cons_append, List.nil_append] at hs
    replace hs := hs.front 4 rfl
    simp only [List.cons_append, List.nil_append, List.eraseIdx_cons_zero, List.eraseIdx_cons_succ] at hs
    replace hs := hs.front 3 rfl
    simp only [List.cons_append, List.nil_append, List.eraseIdx_cons_zero, List.eraseIdx_cons_succ] at hs
    refine Ls_call Try.func26 nm26 rfl rfl (BPutO_c w w43 _ p5 b0 jo d hs hdr.dok hjo _ 1 1 _ [(0, [109, 111, 114, 101])] (fun w' X q => PWs.mk1 (rd_block (q.is_at 1 rfl).2 2 1 rfl) (by have h8 := (rd_block (q.is_at 2 rfl).2 1 4 rfl : Rd w' _ _ _ 1 (bytesV [109, 111, 114, 101])); exact h8)) (by simp [PWok, IsBytes]) (by decide)) rfl ?_
    rintro v44 w45 ⟨rfl, hs⟩
    refine Ls_run (run_assign rfl) rfl ?_
    refine Ls_nil ?_
    refine Jm_seq ?_
    refine St_seq ?_
    refine St_region ?_
    refine Ls_run (run_move rfl) rfl ?_
    refine Ls_run (run_move rfl) rfl ?_
    refine Ls_literal [_, _, _, _] hs Try.underlying28 inf5 rfl rfl rfl rfl rfl rfl ?_
    intro b46 w47 hs
    simp only [List.flatMap_cons, List.flatMap_nil, Value.cells, List.cons_append, List.nil_append] at hs
    refine Ls_stringish hs Try.underlying28 Try.underlying5 rfl rfl ?_
    intro w48 hs
    refine Ls_run (run_buildO (pv := [(0, _), (1, _)]) rfl (bld45_0_1 _ _ _ _)) rfl ?_
    refine Ls_literal [_] hs Try.underlying51 inf45 rfl rfl rfl rfl rfl rfl ?_
    intro b49 w50 hs
    simp only [List.flatMap_cons, List.flatMap_nil, Value.cells, List.cons_append, List.nil_append] at hs
    replace hs := hs.front 7 rfl
    simp only [List.cons_append, List.nil_append, List.eraseIdx_cons_zero, List.eraseIdx_cons_succ] at hs
    replace hs := hs.front 7 rfl
    simp only [List.cons_append, List.nil_append, List.eraseIdx_cons_zero, List.eraseIdx_cons_succ] at hs
    refine Ls_call Try.func42 nm42 rfl rfl (rBPutO_c w w50 _ q5 b1 jo r hs hdr.rok (by rw [← hdr.1.1]; exact hjo) _ 1 1 _ [(0, [109, 111, 114, 101])] (fun w' X q => PWs.mk1 (rd_block (q.is_at 1 rfl).2 2 1 rfl) (by have h8 := (rd_block (q.is_at 2 rfl).2 1 4 rfl : Rd w' _ _ _ 1 (bytesV [109, 111, 114, 101])); exact h8)) (by simp [PWok, IsBytes]) (by decide)) rfl ?_
    rintro v51 w52 ⟨rfl, hs⟩
    have hsv := oput_same (so := jo) (l := [(0, [109, 111, 114, 101])]) hdr hjo (by simp [IsBytes])
    have hiv := oput_inv (so := jo) (l := [(0, [109, 111, 114, 101])]) hdr.dok hjo (by simp [IsBytes])
    obtain ⟨⟨pe, js, d2⟩, hgq⟩ : ∃ q, oput dO (fun _ => 80) jo d [(0, [109, 111, 114, 101])] = q := ⟨_, rfl⟩
    obtain ⟨⟨pe2, js2, r2⟩, hgr⟩ : ∃ q, oput rO (fun e => e) jo r [(0, [109, 111, 114, 101])] = q := ⟨_, rfl⟩
    simp only [hgq, hgr] at hs hsv hiv ⊢
    obtain ⟨hg1, hg2, hg4⟩ := hsv
    subst hg1
    subst hg2
    have hdr0 := hdr
    replace hdr := hg4
    have hxd : d = d := rfl
    clear hdr0
    refine Ls_run (run_asB (c := true) (run_eql rfl rfl) (by simp)) rfl ?_
    refine Ls_run (run_move rfl) rfl ?_
    refine Ls_on rfl rfl ?_
    refine Ls_run (run_move rfl) rfl ?_
    refine Ls_on rfl rfl ?_
    replace hs := hs.front 5 rfl
    simp only [List.cons_append, List.nil_append, List.eraseIdx_cons_zero, List.eraseIdx_cons_succ] at hs
    refine Ls_call Try.func28 nm28 rfl rfl (Image_c w w52 _ b0 d2 hs hdr.dok.len hdr.2.2.1) rfl ?_
    rintro v53 w54 ⟨Iy, iy, vy, rfl, hvy, hs⟩
    replace hs := Sat.toKeep (F := fun w => Rd w Iy d2.bl.length iy 1 (El.val.flat vy) ∧ PartsK (El.int .u8) w vy d2.bl) (fun B w q => ⟨q.rd_at 0 rfl, Sat.parts (pre := [_]) q hvy⟩) hs
    refine Ls_on rfl rfl ?_
    refine Ls_run (run_move rfl) rfl ?_
    refine Ls_on rfl rfl ?_
    replace hs := hs.front 3 rfl
    simp only [List.cons_append, List.nil_append, List.eraseIdx_cons_zero, List.eraseIdx_cons_succ] at hs
    refine Ls_call Try.func58 nm58 rfl rfl (rImage_c w w54 _ b1 r2 hs hdr.rows (by rw [← hdr.1.1]; exact hdr.2.2.1)) rfl ?_
    rintro v55 w56 ⟨Ib, ib, vib, rfl, hvib, hs⟩
    replace hs := Sat.toKeep (F := fun w => Rd w Ib r2.bl.length ib 1 (El.val.flat vib) ∧ PartsK (El.int .u8) w vib r2.bl) (fun B w q => ⟨q.rd_at 0 rfl, Sat.parts (pre := [_]) q hvib⟩) hs
    refine Ls_on rfl rfl ?_
    refine Ls_call Try.func29 nm29 rfl rfl (images9_c w56 _ _ _ vy d2.bl _ _ _ vib r2.bl (hs.kept 2 rfl).1 (hs.kept 0 rfl).1 (hs.kept 2 rfl).2 (hs.kept 0 rfl).2 (fun x hx => (hdr.2.1 x hx).1) (fun x hx => (hdr.2.1 x (by rw [hdr.1.1]; exact hx)).1) (by have := hdr.2.2.1; omega)) rfl ?_
    rintro v57 w58 ⟨rfl, hsI⟩
    replace hs := hs.trans hsI
    simp only [List.nil_append] at hs
    rw [decide_eq_true hdr.1.1]
    refine Ls_run (run_pick_t rfl rfl) rfl ?_
    refine Ls_run (run_assign rfl) rfl ?_
    refine Ls_nil ?_
    refine Jm_seq ?_
    refine St_ret ?_
    refine Jm_ret1 rfl rfl ?_
    exact ⟨_, rfl, rfl, hs.below⟩
theorem PagesImages_c (w : World) (A : Option Addr) (n c : Nat) (vs : List Value) (bl : List (List Int)) (hr : Rd w A n c 1 (El.val.flat vs)) (hp : PartsK (El.int .u8) w vs bl) (hba : ∀ r ∈ bl, IsBytes r) (hn : n ≤ 9223372036854775807) : Calls Try.prog 13 [.slice A n c].toArray w (Ret (fun v' w' => v' = .bool true ∧ Below w.heap.size w w')) := by
  by_cases h : n < 1 ∨ 64 < n
  · exact PagesImages_arg w A n c vs bl hr hp hba hn h
  · cases hlo : dlong bl with
    | true => exact PagesImages_long w A n c vs bl hr hp hba hn (by omega) (by omega) hlo
    | false => exact PagesImages_ok w A n c vs bl hr hp hba hn (by omega) (by omega) hlo
end Go.Proofs.Ytipkfdeiallifaa.Lg
