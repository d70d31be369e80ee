/-
  The law PagesExact, walked. By program (gen/pg9.py).
-/
import Derived.Test.YtipkfdeiallifaaPg8
set_option linter.unusedVariables false
set_option linter.unusedSimpArgs false
namespace Go.Proofs.Ytipkfdeiallifaa.Lg
open Go Go.RowKit Go.Proofs.Ytipkfdeiallifaa.WirePure
theorem dr_new {m : Nat} (h : m ≤ 64) : DR (dnew m) (rnew m) := ⟨alike_new m, fun x hx => by simp [dnew] at hx; obtain ⟨_, rfl⟩ := hx; exact ⟨by simp [IsBytes], by simp⟩, by simp [dnew]; omega, by simp [rnew]⟩
theorem Parts.toK {w : World} {vs : List Value} {bl : List (List Int)} (h : Parts w vs bl) : PartsK (El.int .u8) w vs bl := ⟨h.1, fun i hi => let ⟨A, n, c, e, r⟩ := h.2 i hi; ⟨A, n, c, e, by rw [← bytesV_flat]; exact r⟩⟩
/-- A write as it is handed in. -/
def GoodW (w : World) (x : KWt) : Prop := (-9223372036854775808 ≤ x.1 ∧ x.1 ≤ 9223372036854775807) ∧ ∃ l, Rd w x.2.1 x.2.2.1 x.2.2.2 1 (bytesV l) ∧ IsBytes l ∧ l.length ≤ 140737488351232
theorem PWs.of {w : World} {A : Option Addr} {n c : Nat} {vs : List KWt} (h : Rd w A n c 2 (KW.flat vs)) (hg : ∀ x ∈ vs, GoodW w x) : ∃ ws, PWs w A n c vs ws ∧ PWok ws := by
  have key : ∀ vs : List KWt, (∀ x ∈ vs, GoodW w x) → ∃ ws : List Wr, vs.length = ws.length ∧ (∀ i, i < ws.length → (vs.getD i (0, none, 0, 0)).1 = (ws.getD i (0, [])).1 ∧ Rd w (vs.getD i (0, none, 0, 0)).2.1 (vs.getD i (0, none, 0, 0)).2.2.1 (vs.getD i (0, none, 0, 0)).2.2.2 1 (bytesV (ws.getD i (0, [])).2)) ∧ PWok ws := by
    intro vs
    induction vs with
    | nil => intro _; exact ⟨[], rfl, fun i hi => by simp at hi, fun x hx => by cases hx⟩
    | cons v vs ih =>
      intro hv
      obtain ⟨ws, h1, h2, h3⟩ := ih (fun x hx => hv x (List.mem_cons_of_mem _ hx))
      obtain ⟨hr, l, hl, hb, hz⟩ := hv v (by simp)
      refine ⟨(v.1, l) :: ws, by simp [h1], fun i hi => ?_, fun x hx => ?_⟩
      · cases i with
        | zero => exact ⟨rfl, hl⟩
        | succ i => exact h2 i (by simpa using hi)
      · rcases List.mem_cons.1 hx with rfl | hx
        · exact ⟨hr, hb, hz⟩
        · exact h3 x hx
  obtain ⟨ws, h1, h2, h3⟩ := key vs hg
  exact ⟨ws, ⟨h, h1, h2⟩, h3⟩
/-- A call of a script. -/
def KOpP : El (Int × Int × Option Addr × Nat × Nat) := ⟨3, fun o => [.int .i64 o.1, .int .i64 o.2.1, .slice o.2.2.1 o.2.2.2.1 o.2.2.2.2], (0, 0, none, 0, 0), fun _ => rfl⟩
def OpPOk (w : World) (x : Int × Int × Option Addr × Nat × Nat) : Prop := x.2.1 ≤ 9223372036854775807 ∧ (∃ vs ws, PWs w x.2.2.1 x.2.2.2.1 x.2.2.2.2 vs ws ∧ PWok ws) ∧ x.2.2.2.1 ≤ 4398046510976
set_option maxRecDepth 100000 in
set_option maxHeartbeats 1000000 in
theorem PagesExact_bad (w : World) (blocks parts : Int) (A2 : Option Addr) (n2 c2 : Nat) (pl : List (Int × Int × Option Addr × Nat × Nat)) (hr : Rd w A2 n2 c2 3 (KOpP.flat pl)) (hput : ∀ x ∈ pl, OpPOk w x) (hn2 : n2 ≤ 9223372036854775807) (hbb : blocks < 1 ∨ 64 < blocks) :
    Calls Try.prog 12 [.int .i64 blocks, .int .i64 parts, .slice A2 n2 c2].toArray w (Ret (fun v' w' => v' = .bool true ∧ Below w.heap.size w w')) := by
  have hs := Sat.start w
  have hl : pl.length = n2 := by have := hr.len; rw [El.flat_length] at this; exact Nat.eq_of_mul_eq_mul_right (by decide) this
  refine Calls_body Try.func12 rfl rfl rfl (envE_cons (i := 0) (v := .int .i64 blocks) rfl (envE_cons (i := 1) (v := .int .i64 parts) rfl (envE_cons (i := 2) (v := .slice A2 n2 c2) rfl envE_nil))) ?_
  refine St_seq ?_
  refine St_region ?_
  refine Ls_run (run_assign rfl) rfl ?_
  refine Ls_nil ?_
  refine Jm_seq ?_
  refine St_seq ?_
  refine St_seq ?_
  refine St_region ?_
  refine Ls_call Try.func23 nm23 rfl rfl (awake9_c w) rfl ?_
  rintro v1 w2 ⟨rfl, hsA⟩
  replace hs := hs.trans hsA
  simp only [List.nil_append] at hs
  refine Ls_run (run_not rfl) rfl ?_
  refine Ls_nil ?_
  refine Jm_seq ?_
  refine St_iff rfl ?_
  refine St_skip ?_
  refine Jm_seq ?_
  refine St_seq ?_
  refine St_region ?_
  refine Ls_run (run_move rfl) rfl ?_
  refine Ls_call Try.func37 nm37 rfl rfl (BFormat_nil w2 parts) rfl ?_
  rintro v4 w5 ⟨rfl, rfl⟩
  refine Ls_run (run_move rfl) rfl ?_
  refine Ls_run (run_extract rfl rfl) rfl ?_
  refine Ls_run (run_extract rfl rfl) rfl ?_
  refine Ls_run (run_assign rfl) rfl ?_
  refine Ls_run (run_assign rfl) rfl ?_
  refine Ls_nil ?_
  refine Jm_seq ?_
  refine St_seq ?_
  refine St_region ?_
  refine Ls_call Try.func36 nm36 rfl rfl (BOpen_nil w2) rfl ?_
  rintro v6 w7 ⟨rfl, rfl⟩
  refine Ls_run (run_move rfl) rfl ?_
  refine Ls_run (run_extract rfl rfl) rfl ?_
  refine Ls_run (run_extract rfl rfl) rfl ?_
  refine Ls_run (run_assign rfl) rfl ?_
  refine Ls_run (run_assign rfl) rfl ?_
  refine Ls_nil ?_
  refine Jm_seq ?_
  refine St_seq ?_
  refine St_seq ?_
  refine St_region ?_
  refine Ls_run (run_move rfl) rfl ?_
  refine Ls_run (run_asB (c := false) (run_neq rfl rfl) (by decide)) rfl ?_
  refine Ls_run (run_move rfl) rfl ?_
  refine Ls_on rfl rfl ?_
  refine Ls_run (run_move rfl) rfl ?_
  refine Ls_on rfl rfl ?_
  refine Ls_run (run_asB (c := false) (run_neq rfl rfl) (by decide)) rfl ?_
  refine Ls_run (run_pick_f rfl rfl) rfl ?_
  refine Ls_nil ?_
  refine Jm_seq ?_
  refine St_iff rfl ?_
  refine St_skip ?_
  refine Jm_seq ?_
  refine St_seq ?_
  refine St_region ?_
  refine Ls_run (run_move rfl) rfl ?_
  refine Ls_call Try.func38 nm38 rfl rfl (New_bad w2 blocks hbb) rfl ?_
  rintro v9 w10 ⟨rfl, rfl⟩
  refine Ls_run (run_move rfl) rfl ?_
  refine Ls_run (run_extract rfl rfl) rfl ?_
  refine Ls_run (run_extract rfl rfl) rfl ?_
  refine Ls_run (run_assign rfl) rfl ?_
  refine Ls_run (run_assign rfl) rfl ?_
  refine Ls_nil ?_
  refine Jm_seq ?_
  refine St_seq ?_
  refine St_region ?_
  refine Ls_run (run_move rfl) rfl ?_
  refine Ls_call Try.func39 nm39 rfl rfl (rNew_bad w2 blocks hbb) rfl ?_
  rintro v11 w12 ⟨rfl, rfl⟩
  refine Ls_run (run_move rfl) rfl ?_
  refine Ls_run (run_extract rfl rfl) rfl ?_
  refine Ls_run (run_extract rfl rfl) rfl ?_
  refine Ls_run (run_assign rfl) rfl ?_
  refine Ls_run (run_assign rfl) rfl ?_
  refine Ls_nil ?_
  refine Jm_seq ?_
  refine St_seq ?_
  refine St_seq ?_
  refine St_region ?_
  refine Ls_run (run_move rfl) rfl ?_
  refine Ls_run (run_move rfl) rfl ?_
  refine Ls_run (run_asB (c := false) (run_neq rfl rfl) (by decide)) rfl ?_
  refine Ls_run (run_move rfl) rfl ?_
  refine Ls_on rfl rfl ?_
  refine Ls_run (run_move rfl) rfl ?_
  refine Ls_on rfl rfl ?_
  refine Ls_run (run_asB (c := true) (run_neq rfl rfl) (by decide)) rfl ?_
  refine Ls_run (run_pick_f rfl rfl) rfl ?_
  refine Ls_nil ?_
  refine Jm_seq ?_
  refine St_ift rfl ?_
  refine St_seq ?_
  refine St_region ?_
  refine Ls_run (run_move rfl) rfl ?_
  refine Ls_run (run_move rfl) rfl ?_
  refine Ls_run (run_asB (c := true) (run_eql rfl rfl) (by decide)) rfl ?_
  refine Ls_run (run_assign rfl) rfl ?_
  refine Ls_nil ?_
  refine Jm_seq ?_
  refine St_ret ?_
  refine Jm_then_ret  ?_
  refine Jm_ret1 rfl rfl ?_
  exact ⟨_, rfl, rfl, hs.below⟩
set_option maxRecDepth 100000 in
set_option maxHeartbeats 1000000 in
theorem PagesExact_ok (w : World) (parts : Int) (A2 : Option Addr) (n2 c2 : Nat) (pl : List (Int × Int × Option Addr × Nat × Nat)) (hr : Rd w A2 n2 c2 3 (KOpP.flat pl)) (hput : ∀ x ∈ pl, OpPOk w x) (hn2 : n2 ≤ 9223372036854775807) (m : Nat) (hm1 : 1 ≤ m) (hm2 : m ≤ 64) :
    Calls Try.prog 12 [.int .i64 (m : Int), .int .i64 parts, .slice A2 n2 c2].toArray w (Ret (fun v' w' => v' = .bool true ∧ Below w.heap.size w w')) := by
  have hs := Sat.start w
  have hl : pl.length = n2 := by have := hr.len; rw [El.flat_length] at this; exact Nat.eq_of_mul_eq_mul_right (by decide) this
  refine Calls_body Try.func12 rfl rfl rfl (envE_cons (i := 0) (v := .int .i64 (m : Int)) rfl (envE_cons (i := 1) (v := .int .i64 parts) rfl (envE_cons (i := 2) (v := .slice A2 n2 c2) rfl envE_nil))) ?_
  refine St_seq ?_
  refine St_region ?_
  refine Ls_run (run_assign rfl) rfl ?_
  refine Ls_nil ?_
  refine Jm_seq ?_
  refine St_seq ?_
  refine St_seq ?_
  refine St_region ?_
  refine Ls_call Try.func23 nm23 rfl rfl (awake9_c w) rfl ?_
  rintro v1 w2 ⟨rfl, hsA⟩
  replace hs := hs.trans hsA
  simp only [List.nil_append] at hs
  refine Ls_run (run_not rfl) rfl ?_
  refine Ls_nil ?_
  refine Jm_seq ?_
  refine St_iff rfl ?_
  refine St_skip ?_
  refine Jm_seq ?_
  refine St_seq ?_
  refine St_region ?_
  refine Ls_run (run_move rfl) rfl ?_
  refine Ls_call Try.func37 nm37 rfl rfl (BFormat_nil w2 parts) rfl ?_
  rintro v4 w5 ⟨rfl, rfl⟩
  refine Ls_run (run_move rfl) rfl ?_
  refine Ls_run (run_extract rfl rfl) rfl ?_
  refine Ls_run (run_extract rfl rfl) rfl ?_
  refine Ls_run (run_assign rfl) rfl ?_
  refine Ls_run (run_assign rfl) rfl ?_
  refine Ls_nil ?_
  refine Jm_seq ?_
  refine St_seq ?_
  refine St_region ?_
  refine Ls_call Try.func36 nm36 rfl rfl (BOpen_nil w2) rfl ?_
  rintro v6 w7 ⟨rfl, rfl⟩
  refine Ls_run (run_move rfl) rfl ?_
  refine Ls_run (run_extract rfl rfl) rfl ?_
  refine Ls_run (run_extract rfl rfl) rfl ?_
  refine Ls_run (run_assign rfl) rfl ?_
  refine Ls_run (run_assign rfl) rfl ?_
  refine Ls_nil ?_
  refine Jm_seq ?_
  refine St_seq ?_
  refine St_seq ?_
  refine St_region ?_
  refine Ls_run (run_move rfl) rfl ?_
  refine Ls_run (run_asB (c := false) (run_neq rfl rfl) (by decide)) rfl ?_
  refine Ls_run (run_move rfl) rfl ?_
  refine Ls_on rfl rfl ?_
  refine Ls_run (run_move rfl) rfl ?_
  refine Ls_on rfl rfl ?_
  refine Ls_run (run_asB (c := false) (run_neq rfl rfl) (by decide)) rfl ?_
  refine Ls_run (run_pick_f rfl rfl) rfl ?_
  refine Ls_nil ?_
  refine Jm_seq ?_
  refine St_iff rfl ?_
  refine St_skip ?_
  refine Jm_seq ?_
  refine St_seq ?_
  refine St_region ?_
  refine Ls_run (run_move rfl) rfl ?_
  refine Ls_call Try.func38 nm38 rfl rfl (New_c w2 m hm1 hm2) rfl ?_
  rintro v9 w10 ⟨b0, rfl, hsD⟩
  replace hs := hs.trans hsD
  simp only [List.cons_append, List.nil_append] at hs
  refine Ls_run (run_move rfl) rfl ?_
  refine Ls_run (run_extract rfl rfl) rfl ?_
  refine Ls_run (run_extract rfl rfl) rfl ?_
  refine Ls_run (run_assign rfl) rfl ?_
  refine Ls_run (run_assign rfl) rfl ?_
  refine Ls_nil ?_
  refine Jm_seq ?_
  refine St_seq ?_
  refine St_region ?_
  refine Ls_run (run_move rfl) rfl ?_
  refine Ls_call Try.func39 nm39 rfl rfl (rNew_c w10 m hm1 hm2) rfl ?_
  rintro v11 w12 ⟨b1, rfl, hsD⟩
  replace hs := hs.trans hsD
  simp only [List.cons_append, List.nil_append] at hs
  have hdr0 := dr_new (m := m) hm2
  refine Ls_run (run_move rfl) rfl ?_
  refine Ls_run (run_extract rfl rfl) rfl ?_
  refine Ls_run (run_extract rfl rfl) rfl ?_
  refine Ls_run (run_assign rfl) rfl ?_
  refine Ls_run (run_assign rfl) rfl ?_
  refine Ls_nil ?_
  refine Jm_seq ?_
  refine St_seq ?_
  refine St_seq ?_
  refine St_region ?_
  refine Ls_run (run_move rfl) rfl ?_
  refine Ls_run (run_move rfl) rfl ?_
  refine Ls_run (run_asB (c := false) (run_neq rfl rfl) (by decide)) rfl ?_
  refine Ls_run (run_move rfl) rfl ?_
  refine Ls_on rfl rfl ?_
  refine Ls_run (run_move rfl) rfl ?_
  refine Ls_on rfl rfl ?_
  refine Ls_run (run_asB (c := false) (run_neq rfl rfl) (by decide)) rfl ?_
  refine Ls_run (run_pick_f rfl rfl) rfl ?_
  refine Ls_nil ?_
  refine Jm_seq ?_
  refine St_iff rfl ?_
  refine St_skip ?_
  refine Jm_seq ?_
  refine St_seq ?_
  refine St_region ?_
  refine Ls_run (run_move rfl) rfl ?_
  refine Ls_run (run_move rfl) rfl ?_
  replace hs := hs.front 1 rfl
  simp only [List.cons_append, List.nil_append, List.eraseIdx_cons_zero, List.eraseIdx_cons_succ] at hs
  refine Ls_call Try.func37 nm37 rfl rfl (BFormatO_c w w12 _ b0 (dnew m) hs hdr0.dok parts) rfl ?_
  rintro v14 w15 ⟨p0, rfl, hs⟩
  refine Ls_run (run_move rfl) rfl ?_
  refine Ls_run (run_extract rfl rfl) rfl ?_
  refine Ls_run (run_extract rfl rfl) rfl ?_
  refine Ls_run (run_assign rfl) rfl ?_
  refine Ls_run (run_assign rfl) rfl ?_
  refine Ls_nil ?_
  refine Jm_seq ?_
  refine St_seq ?_
  refine St_region ?_
  refine Ls_run (run_move rfl) rfl ?_
  refine Ls_run (run_move rfl) rfl ?_
  replace hs := hs.front 2 rfl
  simp only [List.cons_append, List.nil_append, List.eraseIdx_cons_zero, List.eraseIdx_cons_succ] at hs
  refine Ls_call Try.func40 nm40 rfl rfl (rBFormatO_c w w15 _ b1 (rnew m) hs hdr0.rok parts) rfl ?_
  rintro v16 w17 ⟨q0, rfl, hs⟩
  have hfs0 := bformat_same hdr0 (parts)
  have hfi0 := bformat_inv hdr0.dok (parts)
  rw [← hfs0.2.1] at hs
  have hpn0 : p0.isNone = q0.isNone := by rw [(hs.front 2 rfl).boIsNone, (hs.front 0 rfl).qoIsNone]
  refine Ls_run (run_move rfl) rfl ?_
  refine Ls_run (run_extract rfl rfl) rfl ?_
  refine Ls_run (run_extract rfl rfl) rfl ?_
  refine Ls_run (run_assign rfl) rfl ?_
  refine Ls_run (run_assign rfl) rfl ?_
  refine Ls_nil ?_
  refine Jm_seq ?_
  refine St_seq ?_
  refine St_seq ?_
  refine St_region ?_
  refine Ls_run (run_move rfl) rfl ?_
  refine Ls_run (run_move rfl) rfl ?_
  refine Ls_run (run_asB (c := false) (run_neq rfl rfl) (by rw [hfs0.1]; simp)) rfl ?_
  refine Ls_run (run_move rfl) rfl ?_
  refine Ls_on rfl rfl ?_
  refine Ls_run (run_move rfl) rfl ?_
  refine Ls_on rfl rfl ?_
  refine Ls_run (run_eql_ptr_nil Try.underlying47 rfl rfl) rfl ?_
  refine Ls_on rfl rfl ?_
  refine Ls_run (run_move rfl) rfl ?_
  refine Ls_on rfl rfl ?_
  refine Ls_run (run_eql_ptr_nil Try.underlying74 rfl rfl) rfl ?_
  refine Ls_on rfl rfl ?_
  refine Ls_run (run_asB (c := false) (run_neq_bool Try.underlying4 rfl rfl) (by rw [hpn0]; simp)) rfl ?_
  refine Ls_run (run_pick_f rfl rfl) rfl ?_
  refine Ls_nil ?_
  refine Jm_seq ?_
  refine St_iff rfl ?_
  refine St_skip ?_
  refine Jm_seq ?_
  refine St_seq ?_
  refine St_region ?_
  refine Ls_run (run_assign rfl) rfl ?_
  refine Ls_nil ?_
  refine Jm_seq ?_
  refine St_seq ?_
  refine St_seq ?_
  refine St_region ?_
  refine Ls_run (run_assign rfl) rfl ?_
  refine Ls_nil ?_
  refine Jm_seq ?_
  refine St_block ?_
  replace hs := hs.front 1 rfl
  simp only [List.cons_append, List.nil_append, List.eraseIdx_cons_zero, List.eraseIdx_cons_succ] at hs
  replace hs := hs.front 3 rfl
  simp only [List.cons_append, List.nil_append, List.eraseIdx_cons_zero, List.eraseIdx_cons_succ] at hs
  replace hs := hs.front 2 rfl
  simp only [List.cons_append, List.nil_append, List.eraseIdx_cons_zero, List.eraseIdx_cons_succ] at hs
  replace hs := hs.front 3 rfl
  simp only [List.cons_append, List.nil_append, List.eraseIdx_cons_zero, List.eraseIdx_cons_succ] at hs
  obtain ⟨En19, hEn19⟩ : ∃ F : Nat × Nat × Option Addr × Option Addr → Env, ∀ (i : Nat) (al : Nat) (pj : Option Addr) (qj : Option Addr), F (i, al, pj, qj) = [(1, .int .i64 parts), (2, .slice A2 n2 c2), (11, .pointer (some ⟨b0, 0, none⟩)), (12, .pointer (some ⟨b1, 0, none⟩)), (13, .pointer pj), (14, .pointer qj), (15, .int .i64 (al : Int)), (16, .int .i64 (i : Int))] := ⟨(fun (sx0 : Nat × Nat × Option Addr × Option Addr) => match sx0 with | (i, al, pj, qj) => [(1, .int .i64 parts), (2, .slice A2 n2 c2), (11, .pointer (some ⟨b0, 0, none⟩)), (12, .pointer (some ⟨b1, 0, none⟩)), (13, .pointer pj), (14, .pointer qj), (15, .int .i64 (al : Int)), (16, .int .i64 (i : Int))]), fun _ _ _ _ => rfl⟩
  obtain ⟨Iv20, hIv20⟩ : ∃ F : Nat × Nat × Option Addr × Option Addr → World → Prop, ∀ (i : Nat) (al : Nat) (pj : Option Addr) (qj : Option Addr) (wr : World), F (i, al, pj, qj) wr = (∃ jo d r, Sat w wr [BO 122 3 pj (some ⟨b0, 0, none⟩) jo, QO 138 3 qj (some ⟨b1, 0, none⟩) jo, DiskA 129 28 5 b0 d, RefA 135 28 5 b1 r] ∧ DR d r ∧ 1 ≤ d.bl.length ∧ OInv jo d.bl.length ∧ i ≤ n2 ∧ al ≤ 4194304) := ⟨(fun (sx0 : Nat × Nat × Option Addr × Option Addr) => match sx0 with | (i, al, pj, qj) => fun (wr : World) => ∃ jo d r, Sat w wr [BO 122 3 pj (some ⟨b0, 0, none⟩) jo, QO 138 3 qj (some ⟨b1, 0, none⟩) jo, DiskA 129 28 5 b0 d, RefA 135 28 5 b1 r] ∧ DR d r ∧ 1 ≤ d.bl.length ∧ OInv jo d.bl.length ∧ i ≤ n2 ∧ al ≤ 4194304), fun _ _ _ _ _ => rfl⟩
  obtain ⟨ms21, hms21⟩ : ∃ F : Nat × Nat × Option Addr × Option Addr → Nat, ∀ (i : Nat) (al : Nat) (pj : Option Addr) (qj : Option Addr), F (i, al, pj, qj) = (n2 - i) := ⟨(fun (sx0 : Nat × Nat × Option Addr × Option Addr) => match sx0 with | (i, al, pj, qj) => n2 - i), fun _ _ _ _ => rfl⟩
  refine St_loop En19 Iv20 ms21 (0, 0, p0, q0) ?_ ?_ ?_
  · skip
    rw [hIv20]
    exact ⟨_, _, _, hs, hfs0.2.2, (by rw [hfi0.2.2]; simp [dnew]; omega), (by rw [hfi0.2.2]; exact hfi0.1), by omega, by omega⟩
  · rw [hEn19]; exact (subE_cons rfl (subE_cons rfl (subE_cons rfl (subE_cons rfl (subE_cons rfl (subE_cons rfl (subE_cons rfl (subE_cons rfl subE_nil))))))))
  rintro ⟨i, al, pj, qj⟩ wr hI22
  rw [hIv20] at hI22
  obtain ⟨jo, d, r, hs, hdr, hdl, hjo, hi, hal⟩ := hI22
  refine St_eqE (hEn19 _ _ _ _) ?_
  refine St_seq ?_
  refine St_seq ?_
  refine St_region ?_
  refine Ls_run (run_move rfl) rfl ?_
  refine Ls_run (run_move rfl) rfl ?_
  refine Ls_run (run_len Try.underlying67 rfl) rfl ?_
  refine Ls_run (run_lss rfl rfl) rfl ?_
  refine Ls_nil ?_
  refine Jm_seq ?_
  refine St_ifP rfl (fun h23 => ?_) (fun h23 => ?_)
  · skip
    refine St_skip ?_
    refine Jm_seq ?_
    refine St_seq ?_
    refine St_block ?_
    refine St_seq ?_
    refine St_region ?_
    refine Ls_run (run_move rfl) rfl ?_
    refine Ls_run (run_move rfl) rfl ?_
    obtain ⟨⟨kd, nn, Aw, nw, cw⟩, ho⟩ : ∃ o, pl.getD i (0, 0, none, 0, 0) = o := ⟨_, rfl⟩
    have hmem : (kd, nn, Aw, nw, cw) ∈ pl := by rw [← ho]; exact getElem_mem3 (by omega)
    obtain ⟨hnn, ⟨vs, ws, hpw, hwok⟩, hzw⟩ := hput _ hmem
    simp only at hnn hpw hzw
    have hwn := hpw.n
    refine Ls_index (KOpP) (hr.inB hs) Try.underlying67 inf78 rfl rfl (by omega) (by omega) ho rfl ?_
    intro b24 o25 hc26
    refine Ls_run (run_as (run_load_agg agg78 inf78 rfl rfl hc26) (show _ = Value.agg #[.int .i64 kd, .int .i64 nn, .slice Aw nw cw] from rfl)) rfl ?_
    refine Ls_alloc hs inf78 rfl ?_
    intro b28 w27 hs
    refine Ls_storeAgg hs inf78 rfl rfl rfl rfl (by simp [Value.oneCell', Value.cells, bcells, qcells, KW, KOpP]) ?_
    intro w29 hs
    refine Ls_nil ?_
    refine Jm_seq ?_
    refine St_seq ?_
    refine St_region ?_
    refine Ls_run (run_move rfl) rfl ?_
    refine Ls_run (run_as (run_field Try.underlying78 rfl inf51 (by decide) rfl) (show _ = Value.pointer (some ⟨b28, 2, none⟩) from rfl)) rfl ?_
    refine Ls_run (run_load sc51 rfl (hs.blk_at 0 rfl 2 rfl)) rfl ?_
    refine Ls_call Try.func41 nm41 rfl rfl (weight_c w29 Aw nw cw vs ws (hpw.inB hs) hwok (by omega)) rfl ?_
    rintro v30 w31 ⟨rfl, wt, rfl, hwt⟩
    refine Ls_run (run_add rfl rfl (w64 (by omega))) rfl ?_
    refine Ls_run (run_as (run_add rfl rfl (w64 (by omega))) (show _ = Value.int .i64 ((al + (wt + 1) : Nat) : Int) by congr 1)) rfl ?_
    refine Ls_run (run_assign rfl) rfl ?_
    refine Ls_nil ?_
    refine Jm_seq ?_
    refine St_seq ?_
    refine St_seq ?_
    refine St_region ?_
    refine Ls_run (run_move rfl) rfl ?_
    refine Ls_run (run_gtr rfl rfl) rfl ?_
    refine Ls_run (run_move rfl) rfl ?_
    refine Ls_partP (t := 99) rfl (fun h32 => ?_) (fun h32 => ?_)
    · skip
      refine Ls_off rfl rfl rfl rfl ?_
      refine Ls_off rfl rfl rfl rfl ?_
      refine Ls_off rfl rfl rfl rfl ?_
      refine Ls_off rfl rfl rfl rfl ?_
      refine Ls_run (run_pick_t rfl rfl) rfl ?_
      refine Ls_nil ?_
      refine Jm_seq ?_
      refine St_ift rfl ?_
      refine St_seq ?_
      refine St_region ?_
      refine Ls_run (run_assign rfl) rfl ?_
      refine Ls_nil ?_
      refine Jm_seq ?_
      refine St_ret ?_
      refine Jm_then_ret (Jm_block_ret (Jm_then_ret (Jm_then_ret (Jm_block_ret (Jm_then_ret  ?_)))))
      refine Jm_ret1 rfl rfl ?_
      exact ⟨_, rfl, rfl, hs.below⟩
    · skip
      refine Ls_on rfl rfl ?_
      refine Ls_run (run_as (run_field Try.underlying78 rfl inf51 (by decide) rfl) (show _ = Value.pointer (some ⟨b28, 2, none⟩) from rfl)) rfl ?_
      refine Ls_on rfl rfl ?_
      refine Ls_run (run_load sc51 rfl (hs.blk_at 0 rfl 2 rfl)) rfl ?_
      refine Ls_on rfl rfl ?_
      refine Ls_run (run_len Try.underlying51 rfl) rfl ?_
      refine Ls_on rfl rfl ?_
      refine Ls_run (run_gtr rfl rfl) rfl ?_
      refine Ls_run (run_pick_f rfl rfl) rfl ?_
      refine Ls_nil ?_
      refine Jm_seq ?_
      refine St_ifP rfl (fun h34 => ?_) (fun h34 => ?_)
      · skip
        refine St_seq ?_
        refine St_region ?_
        refine Ls_run (run_assign rfl) rfl ?_
        refine Ls_nil ?_
        refine Jm_seq ?_
        refine St_ret ?_
        refine Jm_then_ret (Jm_block_ret (Jm_then_ret (Jm_then_ret (Jm_block_ret (Jm_then_ret  ?_)))))
        refine Jm_ret1 rfl rfl ?_
        exact ⟨_, rfl, rfl, hs.below⟩
      · skip
        refine St_skip ?_
        refine Jm_seq ?_
        refine St_seq ?_
        refine St_seq ?_
        refine St_region ?_
        refine Ls_run (run_as (run_field Try.underlying78 rfl inf3 (by decide) rfl) (show _ = Value.pointer (some ⟨b28, 0, none⟩) from rfl)) rfl ?_
        refine Ls_run (run_load sc3 rfl (hs.blk_at 0 rfl 0 rfl)) rfl ?_
        refine Ls_nil ?_
        refine Jm_seq ?_
        refine St_block ?_
        refine St_seq ?_
        refine St_region ?_
        refine Ls_run (run_eql rfl rfl) rfl ?_
        refine Ls_run (run_assign rfl) rfl ?_
        refine Ls_nil ?_
        refine Jm_seq ?_
        obtain ⟨En35, hEn35⟩ : ∃ F : Option Addr × Option Addr → Env, ∀ (p9 : Option Addr) (q9 : Option Addr), F (p9, q9) = [(1, .int .i64 parts), (2, .slice A2 n2 c2), (11, .pointer (some ⟨b0, 0, none⟩)), (12, .pointer (some ⟨b1, 0, none⟩)), (13, .pointer p9), (14, .pointer q9), (15, .int .i64 ((al + (wt + 1) : Nat) : Int)), (16, .int .i64 (i : Int))] := ⟨(fun (sx0 : Option Addr × Option Addr) => match sx0 with | (p9, q9) => [(1, .int .i64 parts), (2, .slice A2 n2 c2), (11, .pointer (some ⟨b0, 0, none⟩)), (12, .pointer (some ⟨b1, 0, none⟩)), (13, .pointer p9), (14, .pointer q9), (15, .int .i64 ((al + (wt + 1) : Nat) : Int)), (16, .int .i64 (i : Int))]), fun _ _ => rfl⟩
        obtain ⟨Iv36, hIv36⟩ : ∃ F : Option Addr × Option Addr → World → Prop, ∀ (p9 : Option Addr) (q9 : Option Addr) (w37 : World), F (p9, q9) w37 = (∃ jo d r, Sat w w37 [BO 122 3 p9 (some ⟨b0, 0, none⟩) jo, QO 138 3 q9 (some ⟨b1, 0, none⟩) jo, DiskA 129 28 5 b0 d, RefA 135 28 5 b1 r] ∧ DR d r ∧ 1 ≤ d.bl.length ∧ OInv jo d.bl.length) := ⟨(fun (sx0 : Option Addr × Option Addr) => match sx0 with | (p9, q9) => fun (w37 : World) => ∃ jo d r, Sat w w37 [BO 122 3 p9 (some ⟨b0, 0, none⟩) jo, QO 138 3 q9 (some ⟨b1, 0, none⟩) jo, DiskA 129 28 5 b0 d, RefA 135 28 5 b1 r] ∧ DR d r ∧ 1 ≤ d.bl.length ∧ OInv jo d.bl.length), fun _ _ _ => rfl⟩
        refine St_join En35 Iv36 ?_ ?_
        · skip
          refine St_ifP rfl (fun h38 => ?_) (fun h38 => ?_)
          · skip
            refine St_seq ?_
            refine St_hold (Hold.of (Ls := [_]) hs) mixed ?_
            intro w39 q40
            replace hs := hs.quiet q40
            have hH := Hold.of (Ls := [_]) hs
            refine An_take 0 rfl (by kernel_rfl) (by kernel_rfl) (by kernel_rfl) (fun _ _ _ h => h) hH (fun x hx => run_move rfl) rfl ?_
            refine An_take 1 rfl (by kernel_rfl) (by kernel_rfl) (by kernel_rfl) (fun _ _ _ h => h) hH (fun x hx => run_as (run_field Try.underlying78 rfl inf51 (by decide) rfl) (show _ = Value.pointer (some ⟨b28, 2, none⟩) from rfl)) rfl ?_
            refine An_take 2 rfl (by kernel_rfl) (by kernel_rfl) (by kernel_rfl) (fun _ _ _ h => h) hH (fun x hx => run_load sc51 rfl (hx.choose_spec.blk_at 0 rfl 2 rfl)) rfl ?_
            refine An_take 4 rfl (by kernel_rfl) (by kernel_rfl) (by kernel_rfl) (fun _ _ _ h => h) hH (fun x hx => run_move rfl) rfl ?_
            refine An_take 5 rfl (by kernel_rfl) (by kernel_rfl) (by kernel_rfl) (fun _ _ _ h => h) hH (fun x hx => run_as (run_field Try.underlying78 rfl inf51 (by decide) rfl) (show _ = Value.pointer (some ⟨b28, 2, none⟩) from rfl)) rfl ?_
            refine An_take 6 rfl (by kernel_rfl) (by kernel_rfl) (by kernel_rfl) (fun _ _ _ h => h) hH (fun x hx => run_load sc51 rfl (hx.choose_spec.blk_at 0 rfl 2 rfl)) rfl ?_
            refine An_only 3 (by kernel_rfl) rfl ?_
            replace hs := hs.front 3 rfl
            simp only [List.cons_append, List.nil_append, List.eraseIdx_cons_zero, List.eraseIdx_cons_succ] at hs
            replace hs := hs.front 2 rfl
            simp only [List.cons_append, List.nil_append, List.eraseIdx_cons_zero, List.eraseIdx_cons_succ] at hs
            refine Ls_call Try.func26 nm26 rfl rfl (BPutO_c w w39 _ pj b0 jo d hs hdr.dok hjo Aw nw cw vs ws (fun w' X q => hpw.inB q) hwok (by omega)) rfl ?_
            rintro v41 w42 ⟨rfl, hs⟩
            replace hs := hs.front 2 rfl
            simp only [List.cons_append, List.nil_append, List.eraseIdx_cons_zero, List.eraseIdx_cons_succ] at hs
            replace hH := Hold.of (Ls := [_]) hs
            refine Ls_nil (Jm_An hH ?_)
            refine An_only 7 (by kernel_rfl) rfl ?_
            replace hs := hs.front 4 rfl
            simp only [List.cons_append, List.nil_append, List.eraseIdx_cons_zero, List.eraseIdx_cons_succ] at hs
            replace hs := hs.front 4 rfl
            simp only [List.cons_append, List.nil_append, List.eraseIdx_cons_zero, List.eraseIdx_cons_succ] at hs
            refine Ls_call Try.func42 nm42 rfl rfl (rBPutO_c w w42 _ qj b1 jo r hs hdr.rok (by rw [← hdr.1.1]; exact hjo) Aw nw cw vs ws (fun w' X q => hpw.inB q) hwok (by omega)) rfl ?_
            rintro v43 w44 ⟨rfl, hs⟩
            have hsv := oput_same (so := jo) (l := ws) hdr hjo (fun x hx => (hwok x hx).2.1)
            have hiv := oput_inv (so := jo) (l := ws) hdr.dok hjo (fun x hx => (hwok x hx).2.1)
            rw [← hsv.2.1] at hs
            replace hs := hs.front 2 rfl
            simp only [List.cons_append, List.nil_append, List.eraseIdx_cons_zero, List.eraseIdx_cons_succ] at hs
            replace hH := Hold.of (Ls := [_]) hs
            refine Ls_nil (Jm_An hH ?_)
            refine An_take 8 rfl (by kernel_rfl) (by kernel_rfl) (by kernel_rfl) (fun _ _ _ h => h) hH (fun x hx => run_asB (c := false) (run_neq rfl rfl) (by rw [hsv.1]; simp)) rfl ?_
            refine An_done (by kernel_rfl) ?_
            refine Jm_seq ?_
            refine St_iff rfl ?_
            refine St_skip ?_
            replace hs := hs.erase 0
            simp only [List.cons_append, List.nil_append, List.eraseIdx_cons_zero, List.eraseIdx_cons_succ] at hs
            replace hs := hs.front 1 rfl
            simp only [List.cons_append, List.nil_append, List.eraseIdx_cons_zero, List.eraseIdx_cons_succ] at hs
            replace hs := hs.front 3 rfl
            simp only [List.cons_append, List.nil_append, List.eraseIdx_cons_zero, List.eraseIdx_cons_succ] at hs
            replace hs := hs.front 2 rfl
            simp only [List.cons_append, List.nil_append, List.eraseIdx_cons_zero, List.eraseIdx_cons_succ] at hs
            replace hs := hs.front 3 rfl
            simp only [List.cons_append, List.nil_append, List.eraseIdx_cons_zero, List.eraseIdx_cons_succ] at hs
            refine Jm_join (pj, qj) ?_ ?_
            · rw [hEn35]; exact (subE_cons rfl (subE_cons rfl (subE_cons rfl (subE_cons rfl (subE_cons rfl (subE_cons rfl (subE_cons rfl (subE_cons rfl subE_nil))))))))
            · skip
              rw [hIv36]
              exact ⟨_, _, _, hs, hsv.2.2, (by rw [hiv.2]; exact hdl), by rw [hiv.2]; exact hiv.1⟩
          · skip
            refine St_seq ?_
            refine St_region ?_
            refine Ls_run (run_eql rfl rfl) rfl ?_
            refine Ls_run (run_assign rfl) rfl ?_
            refine Ls_nil ?_
            refine Jm_seq ?_
            refine St_ifP rfl (fun h46 => ?_) (fun h46 => ?_)
            · skip
              refine St_seq ?_
              refine St_region ?_
              refine Ls_run (run_move rfl) rfl ?_
              refine Ls_run (run_as (run_field Try.underlying78 rfl inf3 (by decide) rfl) (show _ = Value.pointer (some ⟨b28, 1, none⟩) from rfl)) rfl ?_
              refine Ls_run (run_load sc3 rfl (hs.blk_at 0 rfl 1 rfl)) rfl ?_
              replace hs := hs.front 3 rfl
              simp only [List.cons_append, List.nil_append, List.eraseIdx_cons_zero, List.eraseIdx_cons_succ] at hs
              replace hs := hs.front 2 rfl
              simp only [List.cons_append, List.nil_append, List.eraseIdx_cons_zero, List.eraseIdx_cons_succ] at hs
              refine Ls_call Try.func31 nm31 rfl rfl (BGetO_c w w29 _ pj b0 jo d hs hdr.dok hjo nn) rfl ?_
              rintro v47 w48 ⟨Ag, cg, rfl, hs⟩
              have hgs := oget_same (so := jo) hdr nn
              have hgi := oget_inv (so := jo) hdr.dok hjo nn
              obtain ⟨⟨gl, ge, js, d2⟩, hgq⟩ : ∃ q, oget dO jo d nn = q := ⟨_, rfl⟩
              simp only [hgq] at hs hgs hgi ⊢
              refine Ls_run (run_move rfl) rfl ?_
              refine Ls_run (run_extract rfl rfl) rfl ?_
              refine Ls_run (run_extract rfl rfl) rfl ?_
              refine Ls_run (run_assign rfl) rfl ?_
              refine Ls_run (run_assign rfl) rfl ?_
              refine Ls_nil ?_
              refine Jm_seq ?_
              refine St_seq ?_
              refine St_region ?_
              refine Ls_run (run_move rfl) rfl ?_
              refine Ls_run (run_as (run_field Try.underlying78 rfl inf3 (by decide) rfl) (show _ = Value.pointer (some ⟨b28, 1, none⟩) from rfl)) rfl ?_
              refine Ls_run (run_load sc3 rfl (hs.blk_at 3 rfl 1 rfl)) rfl ?_
              replace hs := hs.front 5 rfl
              simp only [List.cons_append, List.nil_append, List.eraseIdx_cons_zero, List.eraseIdx_cons_succ] at hs
              replace hs := hs.front 5 rfl
              simp only [List.cons_append, List.nil_append, List.eraseIdx_cons_zero, List.eraseIdx_cons_succ] at hs
              refine Ls_call Try.func43 nm43 rfl rfl (rBGetO_c w w48 _ qj b1 jo r hs hdr.rok (by rw [← hdr.1.1]; exact hjo) nn) rfl ?_
              rintro v49 w50 ⟨Ah, ch, rfl, hs⟩
              obtain ⟨⟨gl2, ge2, js2, r2⟩, hgr⟩ : ∃ q, oget rO jo r nn = q := ⟨_, rfl⟩
              simp only [hgr] at hs hgs ⊢
              obtain ⟨hg1, hg2, hg3, hg4⟩ := hgs
              subst hg1
              subst hg2
              subst hg3
              refine Ls_run (run_move rfl) rfl ?_
              refine Ls_run (run_extract rfl rfl) rfl ?_
              refine Ls_run (run_extract rfl rfl) rfl ?_
              refine Ls_run (run_assign rfl) rfl ?_
              refine Ls_run (run_assign rfl) rfl ?_
              refine Ls_nil ?_
              refine Jm_seq ?_
              refine St_seq ?_
              refine St_region ?_
              refine Ls_run (run_move rfl) rfl ?_
              refine Ls_run (run_string Try.underlying28 Try.underlying5 Try.underlying9 rfl (hs.rd_at 5 rfl)) rfl ?_
              refine Ls_run (run_move rfl) rfl ?_
              refine Ls_run (run_string Try.underlying28 Try.underlying5 Try.underlying9 rfl (hs.rd_at 2 rfl)) rfl ?_
              refine Ls_run (run_asB (c := false) (run_neq_str rfl rfl) (by simp)) rfl ?_
              refine Ls_run (run_move rfl) rfl ?_
              refine Ls_on rfl rfl ?_
              refine Ls_run (run_move rfl) rfl ?_
              refine Ls_on rfl rfl ?_
              refine Ls_run (run_move rfl) rfl ?_
              refine Ls_on rfl rfl ?_
              refine Ls_run (run_asB (c := false) (run_neq rfl rfl) (by simp)) rfl ?_
              refine Ls_run (run_pick_f rfl rfl) rfl ?_
              refine Ls_nil ?_
              refine Jm_seq ?_
              refine St_iff rfl ?_
              refine St_skip ?_
              replace hs := hs.erase 2
              simp only [List.cons_append, List.nil_append, List.eraseIdx_cons_zero, List.eraseIdx_cons_succ] at hs
              replace hs := hs.erase 4
              simp only [List.cons_append, List.nil_append, List.eraseIdx_cons_zero, List.eraseIdx_cons_succ] at hs
              replace hs := hs.erase 4
              simp only [List.cons_append, List.nil_append, List.eraseIdx_cons_zero, List.eraseIdx_cons_succ] at hs
              replace hs := hs.front 1 rfl
              simp only [List.cons_append, List.nil_append, List.eraseIdx_cons_zero, List.eraseIdx_cons_succ] at hs
              replace hs := hs.front 3 rfl
              simp only [List.cons_append, List.nil_append, List.eraseIdx_cons_zero, List.eraseIdx_cons_succ] at hs
              replace hs := hs.front 2 rfl
              simp only [List.cons_append, List.nil_append, List.eraseIdx_cons_zero, List.eraseIdx_cons_succ] at hs
              replace hs := hs.front 3 rfl
              simp only [List.cons_append, List.nil_append, List.eraseIdx_cons_zero, List.eraseIdx_cons_succ] at hs
              refine Jm_join (pj, qj) ?_ ?_
              · rw [hEn35]; exact (subE_cons rfl (subE_cons rfl (subE_cons rfl (subE_cons rfl (subE_cons rfl (subE_cons rfl (subE_cons rfl (subE_cons rfl subE_nil))))))))
              · skip
                rw [hIv36]
                exact ⟨_, _, _, hs, hg4, (by rw [hgi.2.1]; exact hdl), by rw [hgi.2.1]; exact hgi.1⟩
            · skip
              refine St_seq ?_
              refine St_region ?_
              refine Ls_run (run_eql rfl rfl) rfl ?_
              refine Ls_run (run_assign rfl) rfl ?_
              refine Ls_nil ?_
              refine Jm_seq ?_
              refine St_ifP rfl (fun h52 => ?_) (fun h52 => ?_)
              · skip
                refine St_seq ?_
                refine St_region ?_
                refine Ls_run (run_move rfl) rfl ?_
                refine Ls_run (run_as (run_field Try.underlying78 rfl inf3 (by decide) rfl) (show _ = Value.pointer (some ⟨b28, 1, none⟩) from rfl)) rfl ?_
                refine Ls_run (run_load sc3 rfl (hs.blk_at 0 rfl 1 rfl)) rfl ?_
                replace hs := hs.front 3 rfl
                simp only [List.cons_append, List.nil_append, List.eraseIdx_cons_zero, List.eraseIdx_cons_succ] at hs
                obtain ⟨vs0, A0, c0, hv0, hs⟩ := hs.dopen
                refine Ls_call Try.func32 nm32 rfl rfl (Cut_c w w29 _ b0 d A0 c0 hs nn) rfl ?_
                rintro v53 w54 ⟨rfl, hs⟩
                replace hs := Sat.dshut (s := dcut d nn) hv0 hs
                refine Ls_nil ?_
                refine Jm_seq ?_
                refine St_region ?_
                refine Ls_run (run_move rfl) rfl ?_
                refine Ls_run (run_as (run_field Try.underlying78 rfl inf3 (by decide) rfl) (show _ = Value.pointer (some ⟨b28, 1, none⟩) from rfl)) rfl ?_
                refine Ls_run (run_load sc3 rfl (hs.blk_at 1 rfl 1 rfl)) rfl ?_
                replace hs := hs.front 4 rfl
                simp only [List.cons_append, List.nil_append, List.eraseIdx_cons_zero, List.eraseIdx_cons_succ] at hs
                obtain ⟨vs1, A1, c1, hv1, hs⟩ := hs.ropen
                refine Ls_call Try.func44 nm44 rfl rfl (rCut_c w w54 _ b1 r A1 c1 hs nn) rfl ?_
                rintro v55 w56 ⟨rfl, hs⟩
                replace hs := Sat.rshut (s := rcut r nn) hv1 hs
                refine Ls_nil ?_
                replace hs := hs.erase 2
                simp only [List.cons_append, List.nil_append, List.eraseIdx_cons_zero, List.eraseIdx_cons_succ] at hs
                replace hs := hs.front 1 rfl
                simp only [List.cons_append, List.nil_append, List.eraseIdx_cons_zero, List.eraseIdx_cons_succ] at hs
                replace hs := hs.front 3 rfl
                simp only [List.cons_append, List.nil_append, List.eraseIdx_cons_zero, List.eraseIdx_cons_succ] at hs
                replace hs := hs.front 3 rfl
                simp only [List.cons_append, List.nil_append, List.eraseIdx_cons_zero, List.eraseIdx_cons_succ] at hs
                refine Jm_join (pj, qj) ?_ ?_
                · rw [hEn35]; exact (subE_cons rfl (subE_cons rfl (subE_cons rfl (subE_cons rfl (subE_cons rfl (subE_cons rfl (subE_cons rfl (subE_cons rfl subE_nil))))))))
                · skip
                  rw [hIv36]
                  exact ⟨_, _, _, hs, hdr.cut hnn, hdl, hjo⟩
              · skip
                refine St_seq ?_
                refine St_region ?_
                refine Ls_run (run_eql rfl rfl) rfl ?_
                refine Ls_run (run_assign rfl) rfl ?_
                refine Ls_nil ?_
                refine Jm_seq ?_
                refine St_ifP rfl (fun h57 => ?_) (fun h57 => ?_)
                · skip
                  refine St_seq ?_
                  refine St_region ?_
                  refine Ls_run (run_move rfl) rfl ?_
                  replace hs := hs.front 3 rfl
                  simp only [List.cons_append, List.nil_append, List.eraseIdx_cons_zero, List.eraseIdx_cons_succ] at hs
                  obtain ⟨vs0, A0, c0, hv0, hs⟩ := hs.dopen
                  refine Ls_call Try.func45 nm45 rfl rfl (Off_c w w29 _ b0 d A0 c0 hs) rfl ?_
                  rintro v58 w59 ⟨rfl, hs⟩
                  replace hs := Sat.dshut (s := doff d) hv0 hs
                  refine Ls_nil ?_
                  refine Jm_seq ?_
                  refine St_region ?_
                  refine Ls_run (run_move rfl) rfl ?_
                  replace hs := hs.front 4 rfl
                  simp only [List.cons_append, List.nil_append, List.eraseIdx_cons_zero, List.eraseIdx_cons_succ] at hs
                  obtain ⟨vs1, A1, c1, hv1, hs⟩ := hs.ropen
                  refine Ls_call Try.func46 nm46 rfl rfl (rOff_c w w59 _ b1 r A1 c1 hs) rfl ?_
                  rintro v60 w61 ⟨rfl, hs⟩
                  replace hs := Sat.rshut (s := roff r) hv1 hs
                  refine Ls_nil ?_
                  replace hs := hs.erase 2
                  simp only [List.cons_append, List.nil_append, List.eraseIdx_cons_zero, List.eraseIdx_cons_succ] at hs
                  replace hs := hs.front 1 rfl
                  simp only [List.cons_append, List.nil_append, List.eraseIdx_cons_zero, List.eraseIdx_cons_succ] at hs
                  replace hs := hs.front 3 rfl
                  simp only [List.cons_append, List.nil_append, List.eraseIdx_cons_zero, List.eraseIdx_cons_succ] at hs
                  replace hs := hs.front 3 rfl
                  simp only [List.cons_append, List.nil_append, List.eraseIdx_cons_zero, List.eraseIdx_cons_succ] at hs
                  refine Jm_join (pj, qj) ?_ ?_
                  · rw [hEn35]; exact (subE_cons rfl (subE_cons rfl (subE_cons rfl (subE_cons rfl (subE_cons rfl (subE_cons rfl (subE_cons rfl (subE_cons rfl subE_nil))))))))
                  · skip
                    rw [hIv36]
                    exact ⟨_, _, _, hs, hdr.off, hdl, hjo⟩
                · skip
                  refine St_seq ?_
                  refine St_region ?_
                  refine Ls_run (run_eql rfl rfl) rfl ?_
                  refine Ls_run (run_assign rfl) rfl ?_
                  refine Ls_nil ?_
                  refine Jm_seq ?_
                  refine St_ifP rfl (fun h62 => ?_) (fun h62 => ?_)
                  · skip
                    refine St_seq ?_
                    refine St_region ?_
                    refine Ls_run (run_move rfl) rfl ?_
                    replace hs := hs.front 3 rfl
                    simp only [List.cons_append, List.nil_append, List.eraseIdx_cons_zero, List.eraseIdx_cons_succ] at hs
                    obtain ⟨vs0, A0, c0, hv0, hs⟩ := hs.dopen
                    refine Ls_call Try.func35 nm35 rfl rfl (On_c w w29 _ b0 d A0 c0 hs) rfl ?_
                    rintro v63 w65 ⟨rfl, hs⟩
                    replace hs := Sat.dshut (s := don d) hv0 hs
                    refine Ls_nil ?_
                    refine Jm_seq ?_
                    refine St_region ?_
                    refine Ls_run (run_move rfl) rfl ?_
                    replace hs := hs.front 4 rfl
                    simp only [List.cons_append, List.nil_append, List.eraseIdx_cons_zero, List.eraseIdx_cons_succ] at hs
                    obtain ⟨vs1, A1, c1, hv1, hs⟩ := hs.ropen
                    refine Ls_call Try.func47 nm47 rfl rfl (rOn_c w w65 _ b1 r A1 c1 hs) rfl ?_
                    rintro v66 w67 ⟨rfl, hs⟩
                    replace hs := Sat.rshut (s := ron r) hv1 hs
                    refine Ls_nil ?_
                    replace hs := hs.erase 2
                    simp only [List.cons_append, List.nil_append, List.eraseIdx_cons_zero, List.eraseIdx_cons_succ] at hs
                    replace hs := hs.front 1 rfl
                    simp only [List.cons_append, List.nil_append, List.eraseIdx_cons_zero, List.eraseIdx_cons_succ] at hs
                    replace hs := hs.front 3 rfl
                    simp only [List.cons_append, List.nil_append, List.eraseIdx_cons_zero, List.eraseIdx_cons_succ] at hs
                    replace hs := hs.front 3 rfl
                    simp only [List.cons_append, List.nil_append, List.eraseIdx_cons_zero, List.eraseIdx_cons_succ] at hs
                    refine Jm_join (pj, qj) ?_ ?_
                    · rw [hEn35]; exact (subE_cons rfl (subE_cons rfl (subE_cons rfl (subE_cons rfl (subE_cons rfl (subE_cons rfl (subE_cons rfl (subE_cons rfl subE_nil))))))))
                    · skip
                      rw [hIv36]
                      exact ⟨_, _, _, hs, hdr.on, hdl, hjo⟩
                  · skip
                    refine St_seq ?_
                    refine St_region ?_
                    refine Ls_run (run_eql rfl rfl) rfl ?_
                    refine Ls_run (run_assign rfl) rfl ?_
                    refine Ls_nil ?_
                    refine Jm_seq ?_
                    refine St_ifP rfl (fun h68 => ?_) (fun h68 => ?_)
                    · skip
                      refine St_seq ?_
                      refine St_region ?_
                      refine Ls_run (run_move rfl) rfl ?_
                      replace hs := hs.front 3 rfl
                      simp only [List.cons_append, List.nil_append, List.eraseIdx_cons_zero, List.eraseIdx_cons_succ] at hs
                      refine Ls_call Try.func36 nm36 rfl rfl (BOpen_g w w29 _ b0 d hs hdr.dok hdl) rfl ?_
                      rintro v69 w70 ⟨p5, rfl, hs⟩
                      refine Ls_run (run_move rfl) rfl ?_
                      refine Ls_run (run_extract rfl rfl) rfl ?_
                      refine Ls_run (run_extract rfl rfl) rfl ?_
                      refine Ls_run (run_assign rfl) rfl ?_
                      refine Ls_run (run_assign rfl) rfl ?_
                      refine Ls_nil ?_
                      refine Jm_seq ?_
                      refine St_seq ?_
                      refine St_region ?_
                      refine Ls_run (run_move rfl) rfl ?_
                      replace hs := hs.front 5 rfl
                      simp only [List.cons_append, List.nil_append, List.eraseIdx_cons_zero, List.eraseIdx_cons_succ] at hs
                      refine Ls_call Try.func48 nm48 rfl rfl (rBOpen_g w w70 _ b1 r hs hdr.rok (by rw [← hdr.1.1]; exact hdl)) rfl ?_
                      rintro v71 w72 ⟨q5, rfl, hs⟩
                      have hfs5 := bopen_same hdr
                      have hfi5 := bopen_inv hdr.dok
                      rw [← hfs5.2.1] at hs
                      have hpn5 : p5.isNone = q5.isNone := by rw [(hs.front 2 rfl).boIsNone, (hs.front 0 rfl).qoIsNone]
                      refine Ls_run (run_move rfl) rfl ?_
                      refine Ls_run (run_extract rfl rfl) rfl ?_
                      refine Ls_run (run_extract rfl rfl) rfl ?_
                      refine Ls_run (run_assign rfl) rfl ?_
                      refine Ls_run (run_assign rfl) rfl ?_
                      refine Ls_nil ?_
                      refine Jm_seq ?_
                      refine St_seq ?_
                      refine St_region ?_
                      refine Ls_run (run_move rfl) rfl ?_
                      refine Ls_run (run_move rfl) rfl ?_
                      refine Ls_run (run_asB (c := false) (run_neq rfl rfl) (by rw [hfs5.1]; simp)) rfl ?_
                      refine Ls_run (run_move rfl) rfl ?_
                      refine Ls_on rfl rfl ?_
                      refine Ls_run (run_move rfl) rfl ?_
                      refine Ls_on rfl rfl ?_
                      refine Ls_run (run_eql_ptr_nil Try.underlying47 rfl rfl) rfl ?_
                      refine Ls_on rfl rfl ?_
                      refine Ls_run (run_move rfl) rfl ?_
                      refine Ls_on rfl rfl ?_
                      refine Ls_run (run_eql_ptr_nil Try.underlying74 rfl rfl) rfl ?_
                      refine Ls_on rfl rfl ?_
                      refine Ls_run (run_asB (c := false) (run_neq_bool Try.underlying4 rfl rfl) (by rw [hpn5]; simp)) rfl ?_
                      refine Ls_run (run_pick_f rfl rfl) rfl ?_
                      refine Ls_nil ?_
                      refine Jm_seq ?_
                      refine St_iff rfl ?_
                      refine St_skip ?_
                      replace hs := hs.erase 5
                      simp only [List.cons_append, List.nil_append, List.eraseIdx_cons_zero, List.eraseIdx_cons_succ] at hs
                      replace hs := hs.erase 5
                      simp only [List.cons_append, List.nil_append, List.eraseIdx_cons_zero, List.eraseIdx_cons_succ] at hs
                      replace hs := hs.erase 4
                      simp only [List.cons_append, List.nil_append, List.eraseIdx_cons_zero, List.eraseIdx_cons_succ] at hs
                      replace hs := hs.front 1 rfl
                      simp only [List.cons_append, List.nil_append, List.eraseIdx_cons_zero, List.eraseIdx_cons_succ] at hs
                      replace hs := hs.front 3 rfl
                      simp only [List.cons_append, List.nil_append, List.eraseIdx_cons_zero, List.eraseIdx_cons_succ] at hs
                      replace hs := hs.front 2 rfl
                      simp only [List.cons_append, List.nil_append, List.eraseIdx_cons_zero, List.eraseIdx_cons_succ] at hs
                      replace hs := hs.front 3 rfl
                      simp only [List.cons_append, List.nil_append, List.eraseIdx_cons_zero, List.eraseIdx_cons_succ] at hs
                      refine Jm_join (p5, q5) ?_ ?_
                      · rw [hEn35]; exact (subE_cons rfl (subE_cons rfl (subE_cons rfl (subE_cons rfl (subE_cons rfl (subE_cons rfl (subE_cons rfl (subE_cons rfl subE_nil))))))))
                      · skip
                        rw [hIv36]
                        exact ⟨_, _, _, hs, hfs5.2.2, (by rw [hfi5.2.2]; exact hdl), by rw [hfi5.2.2]; exact hfi5.1⟩
                    · skip
                      refine St_seq ?_
                      refine St_region ?_
                      refine Ls_run (run_eql rfl rfl) rfl ?_
                      refine Ls_run (run_assign rfl) rfl ?_
                      refine Ls_nil ?_
                      refine Jm_seq ?_
                      refine St_ifP rfl (fun h74 => ?_) (fun h74 => ?_)
                      · skip
                        refine St_seq ?_
                        refine St_region ?_
                        refine Ls_run (run_move rfl) rfl ?_
                        refine Ls_run (run_as (run_field Try.underlying78 rfl inf3 (by decide) rfl) (show _ = Value.pointer (some ⟨b28, 1, none⟩) from rfl)) rfl ?_
                        refine Ls_run (run_load sc3 rfl (hs.blk_at 0 rfl 1 rfl)) rfl ?_
                        replace hs := hs.front 3 rfl
                        simp only [List.cons_append, List.nil_append, List.eraseIdx_cons_zero, List.eraseIdx_cons_succ] at hs
                        refine Ls_call Try.func37 nm37 rfl rfl (BFormatO_c w w29 _ b0 d hs hdr.dok nn) rfl ?_
                        rintro v75 w76 ⟨p7, rfl, hs⟩
                        refine Ls_run (run_move rfl) rfl ?_
                        refine Ls_run (run_extract rfl rfl) rfl ?_
                        refine Ls_run (run_extract rfl rfl) rfl ?_
                        refine Ls_run (run_assign rfl) rfl ?_
                        refine Ls_run (run_assign rfl) rfl ?_
                        refine Ls_nil ?_
                        refine Jm_seq ?_
                        refine St_seq ?_
                        refine St_region ?_
                        refine Ls_run (run_move rfl) rfl ?_
                        refine Ls_run (run_as (run_field Try.underlying78 rfl inf3 (by decide) rfl) (show _ = Value.pointer (some ⟨b28, 1, none⟩) from rfl)) rfl ?_
                        refine Ls_run (run_load sc3 rfl (hs.blk_at 2 rfl 1 rfl)) rfl ?_
                        replace hs := hs.front 5 rfl
                        simp only [List.cons_append, List.nil_append, List.eraseIdx_cons_zero, List.eraseIdx_cons_succ] at hs
                        refine Ls_call Try.func40 nm40 rfl rfl (rBFormatO_c w w76 _ b1 r hs hdr.rok nn) rfl ?_
                        rintro v77 w78 ⟨q7, rfl, hs⟩
                        have hfs7 := bformat_same hdr (nn)
                        have hfi7 := bformat_inv hdr.dok (nn)
                        rw [← hfs7.2.1] at hs
                        have hpn7 : p7.isNone = q7.isNone := by rw [(hs.front 2 rfl).boIsNone, (hs.front 0 rfl).qoIsNone]
                        refine Ls_run (run_move rfl) rfl ?_
                        refine Ls_run (run_extract rfl rfl) rfl ?_
                        refine Ls_run (run_extract rfl rfl) rfl ?_
                        refine Ls_run (run_assign rfl) rfl ?_
                        refine Ls_run (run_assign rfl) rfl ?_
                        refine Ls_nil ?_
                        refine Jm_seq ?_
                        refine St_seq ?_
                        refine St_region ?_
                        refine Ls_run (run_move rfl) rfl ?_
                        refine Ls_run (run_move rfl) rfl ?_
                        refine Ls_run (run_asB (c := false) (run_neq rfl rfl) (by rw [hfs7.1]; simp)) rfl ?_
                        refine Ls_run (run_move rfl) rfl ?_
                        refine Ls_on rfl rfl ?_
                        refine Ls_run (run_move rfl) rfl ?_
                        refine Ls_on rfl rfl ?_
                        refine Ls_run (run_eql_ptr_nil Try.underlying47 rfl rfl) rfl ?_
                        refine Ls_on rfl rfl ?_
                        refine Ls_run (run_move rfl) rfl ?_
                        refine Ls_on rfl rfl ?_
                        refine Ls_run (run_eql_ptr_nil Try.underlying74 rfl rfl) rfl ?_
                        refine Ls_on rfl rfl ?_
                        refine Ls_run (run_asB (c := false) (run_neq_bool Try.underlying4 rfl rfl) (by rw [hpn7]; simp)) rfl ?_
                        refine Ls_run (run_pick_f rfl rfl) rfl ?_
                        refine Ls_nil ?_
                        refine Jm_seq ?_
                        refine St_iff rfl ?_
                        refine St_skip ?_
                        replace hs := hs.erase 5
                        simp only [List.cons_append, List.nil_append, List.eraseIdx_cons_zero, List.eraseIdx_cons_succ] at hs
                        replace hs := hs.erase 5
                        simp only [List.cons_append, List.nil_append, List.eraseIdx_cons_zero, List.eraseIdx_cons_succ] at hs
                        replace hs := hs.erase 4
                        simp only [List.cons_append, List.nil_append, List.eraseIdx_cons_zero, List.eraseIdx_cons_succ] at hs
                        replace hs := hs.front 1 rfl
                        simp only [List.cons_append, List.nil_append, List.eraseIdx_cons_zero, List.eraseIdx_cons_succ] at hs
                        replace hs := hs.front 3 rfl
                        simp only [List.cons_append, List.nil_append, List.eraseIdx_cons_zero, List.eraseIdx_cons_succ] at hs
                        replace hs := hs.front 2 rfl
                        simp only [List.cons_append, List.nil_append, List.eraseIdx_cons_zero, List.eraseIdx_cons_succ] at hs
                        replace hs := hs.front 3 rfl
                        simp only [List.cons_append, List.nil_append, List.eraseIdx_cons_zero, List.eraseIdx_cons_succ] at hs
                        refine Jm_join (p7, q7) ?_ ?_
                        · rw [hEn35]; exact (subE_cons rfl (subE_cons rfl (subE_cons rfl (subE_cons rfl (subE_cons rfl (subE_cons rfl (subE_cons rfl (subE_cons rfl subE_nil))))))))
                        · skip
                          rw [hIv36]
                          exact ⟨_, _, _, hs, hfs7.2.2, (by rw [hfi7.2.2]; exact hdl), by rw [hfi7.2.2]; exact hfi7.1⟩
                      · skip
                        refine St_skip ?_
                        replace hs := hs.erase 0
                        simp only [List.cons_append, List.nil_append, List.eraseIdx_cons_zero, List.eraseIdx_cons_succ] at hs
                        refine Jm_join (pj, qj) ?_ ?_
                        · rw [hEn35]; exact (subE_cons rfl (subE_cons rfl (subE_cons rfl (subE_cons rfl (subE_cons rfl (subE_cons rfl (subE_cons rfl (subE_cons rfl subE_nil))))))))
                        · skip
                          rw [hIv36]
                          exact ⟨_, _, _, hs, hdr, hdl, hjo⟩
        · skip
          rintro ⟨p9, q9⟩ w37 hI80
          rw [hIv36] at hI80
          obtain ⟨jo, d, r, hs, hdr, hdl, hjo⟩ := hI80
          refine Jm_eqE (hEn35 _ _) ?_
          refine Jm_block_normal (Jm_seq ?_)
          refine St_seq ?_
          refine St_region ?_
          refine Ls_run (run_move rfl) rfl ?_
          refine Ls_call Try.func49 nm49 rfl rfl (BUsedO_c w w37 _ p9 _ jo d.bl.length hs hjo) rfl ?_
          rintro v81 w82 ⟨rfl, rfl⟩
          refine Ls_run (run_move rfl) rfl ?_
          replace hs := hs.front 1 rfl
          simp only [List.cons_append, List.nil_append, List.eraseIdx_cons_zero, List.eraseIdx_cons_succ] at hs
          refine Ls_call Try.func50 nm50 rfl rfl (rBUsedO_c w w37 _ q9 _ jo d.bl.length hs hjo) rfl ?_
          rintro v83 w84 ⟨rfl, rfl⟩
          refine Ls_run (run_asB (c := false) (run_neq rfl rfl) (by simp)) rfl ?_
          refine Ls_run (run_move rfl) rfl ?_
          refine Ls_on rfl rfl ?_
          refine Ls_run (run_move rfl) rfl ?_
          refine Ls_on rfl rfl ?_
          replace hs := hs.front 1 rfl
          simp only [List.cons_append, List.nil_append, List.eraseIdx_cons_zero, List.eraseIdx_cons_succ] at hs
          refine Ls_call Try.func51 nm51 rfl rfl (BPagesO_c w w37 _ p9 _ jo d.bl.length hs hjo) rfl ?_
          rintro v85 w86 ⟨rfl, rfl⟩
          refine Ls_on rfl rfl ?_
          refine Ls_run (run_move rfl) rfl ?_
          refine Ls_on rfl rfl ?_
          replace hs := hs.front 1 rfl
          simp only [List.cons_append, List.nil_append, List.eraseIdx_cons_zero, List.eraseIdx_cons_succ] at hs
          refine Ls_call Try.func52 nm52 rfl rfl (rBPagesO_c w w37 _ q9 _ jo d.bl.length hs hjo) rfl ?_
          rintro v87 w88 ⟨rfl, rfl⟩
          refine Ls_on rfl rfl ?_
          refine Ls_run (run_asB (c := false) (run_neq rfl rfl) (by simp)) rfl ?_
          refine Ls_run (run_pick_f rfl rfl) rfl ?_
          refine Ls_run (run_move rfl) rfl ?_
          refine Ls_on rfl rfl ?_
          refine Ls_run (run_move rfl) rfl ?_
          refine Ls_on rfl rfl ?_
          replace hs := hs.front 1 rfl
          simp only [List.cons_append, List.nil_append, List.eraseIdx_cons_zero, List.eraseIdx_cons_succ] at hs
          refine Ls_call Try.func33 nm33 rfl rfl (BEndedO_c w w37 _ p9 _ jo d.bl.length hs hjo) rfl ?_
          rintro v89 w90 ⟨rfl, rfl⟩
          refine Ls_on rfl rfl ?_
          refine Ls_run (run_move rfl) rfl ?_
          refine Ls_on rfl rfl ?_
          replace hs := hs.front 1 rfl
          simp only [List.cons_append, List.nil_append, List.eraseIdx_cons_zero, List.eraseIdx_cons_succ] at hs
          refine Ls_call Try.func53 nm53 rfl rfl (rBEndedO_c w w37 _ q9 _ jo d.bl.length hs hjo) rfl ?_
          rintro v91 w92 ⟨rfl, rfl⟩
          refine Ls_on rfl rfl ?_
          refine Ls_run (run_asB (c := false) (run_neq_bool Try.underlying4 rfl rfl) (by simp)) rfl ?_
          refine Ls_run (run_pick_f rfl rfl) rfl ?_
          refine Ls_run (run_move rfl) rfl ?_
          refine Ls_on rfl rfl ?_
          refine Ls_run (run_move rfl) rfl ?_
          refine Ls_on rfl rfl ?_
          replace hs := hs.front 2 rfl
          simp only [List.cons_append, List.nil_append, List.eraseIdx_cons_zero, List.eraseIdx_cons_succ] at hs
          obtain ⟨A0, c0, hd0⟩ := hs.dhd
          refine Ls_call Try.func54 nm54 rfl rfl (Writes_c w37 b0 d A0 c0 hd0) rfl ?_
          rintro v93 w94 ⟨rfl, rfl⟩
          refine Ls_on rfl rfl ?_
          refine Ls_run (run_move rfl) rfl ?_
          refine Ls_on rfl rfl ?_
          replace hs := hs.front 3 rfl
          simp only [List.cons_append, List.nil_append, List.eraseIdx_cons_zero, List.eraseIdx_cons_succ] at hs
          obtain ⟨A0, c0, hd0⟩ := hs.rhd
          refine Ls_call Try.func55 nm55 rfl rfl (rWrites_c w37 b1 r A0 c0 hd0) rfl ?_
          rintro v95 w96 ⟨rfl, rfl⟩
          refine Ls_on rfl rfl ?_
          refine Ls_run (run_asB (c := false) (run_neq rfl rfl) (by rw [hdr.1.2.2.2.1]; simp)) rfl ?_
          refine Ls_run (run_pick_f rfl rfl) rfl ?_
          refine Ls_run (run_move rfl) rfl ?_
          refine Ls_on rfl rfl ?_
          refine Ls_run (run_move rfl) rfl ?_
          refine Ls_on rfl rfl ?_
          replace hs := hs.front 1 rfl
          simp only [List.cons_append, List.nil_append, List.eraseIdx_cons_zero, List.eraseIdx_cons_succ] at hs
          obtain ⟨A0, c0, hd0⟩ := hs.dhd
          refine Ls_call Try.func56 nm56 rfl rfl (Reads_c w37 b0 d A0 c0 hd0) rfl ?_
          rintro v97 w98 ⟨rfl, rfl⟩
          refine Ls_on rfl rfl ?_
          refine Ls_run (run_move rfl) rfl ?_
          refine Ls_on rfl rfl ?_
          replace hs := hs.front 1 rfl
          simp only [List.cons_append, List.nil_append, List.eraseIdx_cons_zero, List.eraseIdx_cons_succ] at hs
          obtain ⟨A0, c0, hd0⟩ := hs.rhd
          refine Ls_call Try.func57 nm57 rfl rfl (rReads_c w37 b1 r A0 c0 hd0) rfl ?_
          rintro v99 w100 ⟨rfl, rfl⟩
          refine Ls_on rfl rfl ?_
          refine Ls_run (run_asB (c := false) (run_neq rfl rfl) (by rw [hdr.1.2.2.1]; simp)) rfl ?_
          refine Ls_run (run_pick_f rfl rfl) rfl ?_
          refine Ls_nil ?_
          refine Jm_seq ?_
          refine St_iff rfl ?_
          refine St_skip ?_
          refine Jm_block_normal (Jm_seq ?_)
          refine St_region ?_
          refine Ls_run (run_move rfl) rfl ?_
          refine Ls_run (run_add rfl rfl (w64 (by omega))) rfl ?_
          refine Ls_run (run_assign rfl) rfl ?_
          refine Ls_nil ?_
          replace hs := hs.front 1 rfl
          simp only [List.cons_append, List.nil_append, List.eraseIdx_cons_zero, List.eraseIdx_cons_succ] at hs
          replace hs := hs.front 2 rfl
          simp only [List.cons_append, List.nil_append, List.eraseIdx_cons_zero, List.eraseIdx_cons_succ] at hs
          replace hs := hs.front 3 rfl
          simp only [List.cons_append, List.nil_append, List.eraseIdx_cons_zero, List.eraseIdx_cons_succ] at hs
          refine Jm_round (i + 1, (al + (wt + 1)), p9, q9) ?_ ?_ ?_
          · rw [hEn19]; exact (subE_cons rfl (subE_cons rfl (subE_cons rfl (subE_cons rfl (subE_cons rfl (subE_cons rfl (subE_cons rfl (subE_cons rfl subE_nil))))))))
          · skip
            rw [hIv20]
            exact ⟨_, _, _, hs, hdr, hdl, hjo, by omega, by omega⟩
          · skip
            rw [hms21, hms21]
            omega
  · skip
    refine St_exit ?_
    refine Jm_then_exit (Jm_then_exit (Jm_block_same (Jm_seq ?_)))
    refine St_seq ?_
    refine St_region ?_
    refine Ls_run (run_move rfl) rfl ?_
    replace hs := hs.front 2 rfl
    simp only [List.cons_append, List.nil_append, List.eraseIdx_cons_zero, List.eraseIdx_cons_succ] at hs
    refine Ls_call Try.func28 nm28 rfl rfl (Image_c w wr _ b0 d hs hdr.dok.len hdr.2.2.1) rfl ?_
    rintro v102 w103 ⟨Ia, ia, via, rfl, hvia, hs⟩
    replace hs := Sat.toKeep (F := fun w => Rd w Ia d.bl.length ia 1 (El.val.flat via) ∧ PartsK (El.int .u8) w via d.bl) (fun B w q => ⟨q.rd_at 0 rfl, Sat.parts (pre := [_]) q hvia⟩) hs
    refine Ls_run (run_move rfl) rfl ?_
    replace hs := hs.front 4 rfl
    simp only [List.cons_append, List.nil_append, List.eraseIdx_cons_zero, List.eraseIdx_cons_succ] at hs
    refine Ls_call Try.func58 nm58 rfl rfl (rImage_c w w103 _ b1 r hs hdr.rows (by rw [← hdr.1.1]; exact hdr.2.2.1)) rfl ?_
    rintro v104 w105 ⟨Ib, ib, vib, rfl, hvib, hs⟩
    replace hs := Sat.toKeep (F := fun w => Rd w Ib r.bl.length ib 1 (El.val.flat vib) ∧ PartsK (El.int .u8) w vib r.bl) (fun B w q => ⟨q.rd_at 0 rfl, Sat.parts (pre := [_]) q hvib⟩) hs
    refine Ls_call Try.func29 nm29 rfl rfl (images9_c w105 _ _ _ via d.bl _ _ _ vib r.bl (hs.kept 2 rfl).1 (hs.kept 0 rfl).1 (hs.kept 2 rfl).2 (hs.kept 0 rfl).2 (fun x hx => (hdr.2.1 x hx).1) (fun x hx => (hdr.2.1 x (by rw [hdr.1.1]; exact hx)).1) (by have := hdr.2.2.1; omega)) rfl ?_
    rintro v106 w107 ⟨rfl, hsI⟩
    replace hs := hs.trans hsI
    simp only [List.nil_append] at hs
    rw [decide_eq_true hdr.1.1]
    refine Ls_run (run_assign rfl) rfl ?_
    refine Ls_nil ?_
    refine Jm_seq ?_
    refine St_ret ?_
    refine Jm_ret1 rfl rfl ?_
    exact ⟨_, rfl, rfl, hs.below⟩
theorem PagesExact_c (w : World) (blocks parts : Int) (A2 : Option Addr) (n2 c2 : Nat) (pl : List (Int × Int × Option Addr × Nat × Nat)) (hr : Rd w A2 n2 c2 3 (KOpP.flat pl)) (hput : ∀ x ∈ pl, OpPOk w x) (hn2 : n2 ≤ 9223372036854775807) : Calls Try.prog 12 [.int .i64 blocks, .int .i64 parts, .slice A2 n2 c2].toArray w (Ret (fun v' w' => v' = .bool true ∧ Below w.heap.size w w')) := by
  by_cases h : blocks < 1 ∨ 64 < blocks
  · exact PagesExact_bad w blocks parts A2 n2 c2 pl hr hput hn2 h
  · obtain ⟨m, rfl⟩ : ∃ m : Nat, blocks = (m : Int) := ⟨blocks.toNat, by omega⟩
    exact PagesExact_ok w parts A2 n2 c2 pl hr hput hn2 m (by omega) (by omega)
end Go.Proofs.Ytipkfdeiallifaa.Lg
