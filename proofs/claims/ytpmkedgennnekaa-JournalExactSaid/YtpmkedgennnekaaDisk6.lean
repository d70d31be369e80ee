/-
  The law DiskCut, walked. By program (gen/disk6.py).
-/
import Derived.Test.YtpmkedgennnekaaDisk5
set_option linter.unusedVariables false
set_option linter.unusedSimpArgs false
namespace Go.Proofs.Ytpmkedgennnekaa.Lg
open Go Go.RowKit
def CutInv (n : Int) (done : Nat) (st : DSt) : Prop := st.writes = done ∧ st.bl.length = 8 ∧ (st.down = false → st.armed = decide (0 ≤ n) ∧ (0 ≤ n → st.left = n - done ∧ 0 ≤ n - done))
theorem dwrite_far {s : DSt} {i : Int} {l : List Int} (h1 : s.down = false) (h : (s.bl.length : Int) ≤ i) : dwrite s i l = (81, s) := by
  have hc : dcheck s i = 81 := by unfold dcheck; rw [if_neg (by simp [h1]), if_pos (.inr h)]
  unfold dwrite
  rw [if_pos (by omega), hc]
theorem dwrite_gone {s : DSt} {k : Nat} {l : List Int} (h1 : s.down = false) (hk : k < s.bl.length) (hl : l.length ≤ 1024) (h2 : s.armed = true) (h3 : s.left = 0) : dwrite s (k : Int) l = (80, doff s) := by
  have hc : dcheck s (k : Int) = 0 := by unfold dcheck; rw [if_neg (by simp [h1]), if_neg (by omega)]
  unfold dwrite
  rw [if_neg (by omega), if_neg (by omega), if_pos ⟨h2, h3⟩]
theorem dwrite_goes {s : DSt} {k : Nat} {l : List Int} (h1 : s.down = false) (hk : k < s.bl.length) (hl : l.length ≤ 1024) (h2 : ¬ (s.armed = true ∧ s.left = 0)) :
    dwrite s (k : Int) l = (0, { s with left := IntKind.i64.wrap (s.left - 1), bl := s.bl.set k l, writes := IntKind.i64.wrap (s.writes + 1) }) := by
  have hc : dcheck s (k : Int) = 0 := by unfold dcheck; rw [if_neg (by simp [h1]), if_neg (by omega)]
  unfold dwrite
  rw [if_neg (by omega), if_neg (by omega), if_neg h2]
  rfl
theorem dread_0 {st s6 : DSt} {rr : List Int} {re : Int} (hil : st.bl.length = 8) (h : dread st 0 = (rr, re, s6)) : s6.down = st.down ∧ s6.bl = st.bl ∧ s6.writes = st.writes ∧ (decide (re = 80) = st.down) := by
  unfold dread at h
  cases hd : st.down with
  | true =>
    have hc : dcheck st 0 = 80 := by unfold dcheck; rw [if_pos hd]
    rw [if_neg (by omega), hc] at h
    simp only [Prod.mk.injEq] at h
    obtain ⟨_, rfl, rfl⟩ := h
    exact ⟨hd, rfl, rfl, rfl⟩
  | false =>
    have hc : dcheck st 0 = 0 := by unfold dcheck; rw [if_neg (by simp [hd]), if_neg (by omega)]
    rw [if_pos hc] at h
    simp only [Prod.mk.injEq] at h
    obtain ⟨_, rfl, rfl⟩ := h
    exact ⟨hd, rfl, rfl, rfl⟩
set_option maxRecDepth 100000 in
set_option maxHeartbeats 4000000 in
theorem DiskCut_c (w : World) (A : Option Addr) (n c : Nat) (pl : List (Int × Option Addr × Nat × Nat)) (nn : Int) (hr : Rd w A n c 2 (KPut.flat pl)) (hput : ∀ x ∈ pl, PutOk w x) (hn : n ≤ 9223372036854775807) (hnn : nn ≤ 9223372036854775807) :
    Calls Try.prog 3 [.slice A n c, .int .i64 nn].toArray w (Ret (fun v' w' => v' = .bool true ∧ Below w.heap.size w w')) := by
  have hs := Sat.start w
  have hl : pl.length = n := by have := hr.len; rw [El.flat_length] at this; exact Nat.eq_of_mul_eq_mul_right (by decide) this
  refine Calls_body Try.func3 rfl rfl rfl (envE_cons (i := 0) (v := .slice A n c) rfl (envE_cons (i := 1) (v := .int .i64 nn) rfl envE_nil)) ?_
  refine St_seq ?_
  refine St_region ?_
  refine Ls_run (run_assign rfl) rfl ?_
  refine Ls_nil ?_
  refine Jm_seq ?_
  refine St_seq ?_
  refine St_seq ?_
  refine St_region ?_
  refine Ls_call Try.func12 nm12 rfl rfl (dawake_c w) rfl ?_
  rintro v1 w2 ⟨rfl, hsA3⟩
  replace hs := hs.trans hsA3
  refine Ls_run (run_not rfl) rfl ?_
  refine Ls_nil ?_
  refine Jm_seq ?_
  refine St_iff rfl ?_
  refine St_skip ?_
  refine Jm_seq ?_
  refine St_seq ?_
  refine St_region ?_
  try simp only [List.nil_append] at hs
  refine Ls_call Try.func13 nm13 rfl rfl (New_c w2 8 (by decide) (by decide)) rfl ?_
  rintro v5 w6 ⟨b0, rfl, hsD⟩
  replace hs := hs.trans hsD
  simp only [List.cons_append, List.nil_append] at hs
  refine Ls_run (run_move rfl) rfl ?_
  refine Ls_run (run_extract rfl rfl) rfl ?_
  refine Ls_run (run_extract rfl rfl) rfl ?_
  refine Ls_run (run_assign rfl) rfl ?_
  refine Ls_run (run_assign rfl) rfl ?_
  refine Ls_nil ?_
  refine Jm_seq ?_
  refine St_seq ?_
  refine St_seq ?_
  refine St_region ?_
  refine Ls_run (run_move rfl) rfl ?_
  refine Ls_run (run_asB (c := false) (run_neq rfl rfl) (by decide)) rfl ?_
  refine Ls_run (run_move rfl) rfl ?_
  refine Ls_on rfl rfl ?_
  refine Ls_run (run_move rfl) rfl ?_
  refine Ls_on rfl rfl ?_
  refine Ls_run (run_asB (c := false) (run_eql_ptr_nil Try.underlying24 rfl rfl) rfl) rfl ?_
  refine Ls_run (run_pick_f rfl rfl) rfl ?_
  refine Ls_nil ?_
  refine Jm_seq ?_
  refine St_iff rfl ?_
  refine St_skip ?_
  refine Jm_seq ?_
  refine St_seq ?_
  refine St_region ?_
  refine Ls_make (m := 8) hs Try.underlying28 infq31 rfl rfl rfl (by omega) (by omega) rfl ?_
  intro b8 w9 hs
  refine Ls_run (run_assign rfl) rfl ?_
  refine Ls_nil ?_
  refine Jm_seq ?_
  refine St_seq ?_
  refine St_region ?_
  refine Ls_run (run_move rfl) rfl ?_
  refine Ls_run (run_move rfl) rfl ?_
  replace hs := hs.front 1 rfl
  simp only [List.cons_append, List.nil_append, List.eraseIdx_cons_zero, List.eraseIdx_cons_succ] at hs
  obtain ⟨vs0, A0, c0, hv0, hs⟩ := hs.dopen
  refine Ls_call Try.func14 nm14 rfl rfl (Cut_c w w9 _ b0 (dnew 8) A0 c0 hs nn) rfl ?_
  rintro v10 w11 ⟨rfl, hs⟩
  replace hs := Sat.dshut (s := dcut (dnew 8) nn) hv0 hs
  refine Ls_nil ?_
  refine Jm_seq ?_
  refine St_seq ?_
  refine St_region ?_
  refine Ls_run (run_assign rfl) rfl ?_
  refine Ls_nil ?_
  refine Jm_seq ?_
  refine St_seq ?_
  refine St_seq ?_
  refine St_region ?_
  refine Ls_run (run_assign rfl) rfl ?_
  refine Ls_nil ?_
  refine Jm_seq ?_
  refine St_block ?_
  obtain ⟨En12, hEn12⟩ : ∃ F : Nat × DSt × List Value × Nat → Env, ∀ (i : Nat) (st : DSt) (ws : List Value) (done : Nat), F (i, st, ws, done) = [(0, .slice A n c), (1, .int .i64 nn), (5, .pointer (some ⟨b0, 0, none⟩)), (7, .slice (some ⟨b8, 0, none⟩) 8 8), (9, .int .i64 (i : Int)), (8, .int .i64 (done : Int))] := ⟨(fun (s : Nat × DSt × List Value × Nat) => match s with | (i, st, ws, done) => [(0, .slice A n c), (1, .int .i64 nn), (5, .pointer (some ⟨b0, 0, none⟩)), (7, .slice (some ⟨b8, 0, none⟩) 8 8), (9, .int .i64 (i : Int)), (8, .int .i64 (done : Int))]), fun _ _ _ _ => rfl⟩
  obtain ⟨Iv13, hIv13⟩ : ∃ F : Nat × DSt × List Value × Nat → World → Prop, ∀ (i : Nat) (st : DSt) (ws : List Value) (done : Nat) (wr : World), F (i, st, ws, done) wr = (Sat w wr [DiskA 85 31 5 b0 st, Own 31 1 (.slice (some ⟨b8, 0, none⟩) 8 8) 8 (El.val.flat ws)] ∧ i ≤ n ∧ done ≤ i ∧ i ≤ 4096 ∧ CutInv nn done st ∧ PartsK (El.int .u8) w ws st.bl ∧ (∀ r ∈ st.bl, IsBytes r ∧ r.length ≤ 1024) ∧ ws.length = 8) := ⟨(fun (s : Nat × DSt × List Value × Nat) => match s with | (i, st, ws, done) => fun (wr : World) => Sat w wr [DiskA 85 31 5 b0 st, Own 31 1 (.slice (some ⟨b8, 0, none⟩) 8 8) 8 (El.val.flat ws)] ∧ i ≤ n ∧ done ≤ i ∧ i ≤ 4096 ∧ CutInv nn done st ∧ PartsK (El.int .u8) w ws st.bl ∧ (∀ r ∈ st.bl, IsBytes r ∧ r.length ≤ 1024) ∧ ws.length = 8), fun _ _ _ _ _ => rfl⟩
  obtain ⟨ms14, hms14⟩ : ∃ F : Nat × DSt × List Value × Nat → Nat, ∀ (i : Nat) (st : DSt) (ws : List Value) (done : Nat), F (i, st, ws, done) = (n - i) := ⟨(fun (s : Nat × DSt × List Value × Nat) => match s with | (i, st, ws, done) => n - i), fun _ _ _ _ => rfl⟩
  refine St_loop En12 Iv13 ms14 (0, dcut (dnew 8) nn, List.replicate 8 nilV, 0) ?_ ?_ ?_
  · skip
    rw [hIv13]
    refine ⟨by rw [El.val_flat]; exact hs, by omega, by omega, by omega, ⟨rfl, rfl, fun _ => ⟨rfl, fun h0 => ⟨by show nn = nn - ((0 : Nat) : Int); omega, by omega⟩⟩⟩, PartsK.empty w 8, ?_, rfl⟩
    intro r hr0; simp [dnew, dcut, dset] at hr0; subst hr0; exact ⟨by simp [IsBytes], by simp⟩
  · rw [hEn12]; exact (subE_cons rfl (subE_cons rfl (subE_cons rfl (subE_cons rfl (subE_cons rfl (subE_cons rfl subE_nil))))))
  rintro ⟨i, st, ws, done⟩ wr hI15
  rw [hIv13] at hI15
  obtain ⟨hs, hi, hdi, hi4, hinv, hpw, hbl, hws⟩ := hI15
  refine St_eqE (hEn12 _ _ _ _) ?_
  refine St_seq ?_
  refine St_seq ?_
  refine St_region ?_
  refine Ls_run (run_move rfl) rfl ?_
  refine Ls_run (run_move rfl) rfl ?_
  refine Ls_run (run_len Try.underlying22 rfl) rfl ?_
  refine Ls_run (run_lss rfl rfl) rfl ?_
  refine Ls_run (run_move rfl) rfl ?_
  refine Ls_partP (t := 37) rfl (fun h16 => ?_) (fun h16 => ?_)
  · skip
    refine Ls_on rfl rfl ?_
    refine Ls_run (run_move rfl) rfl ?_
    refine Ls_on rfl rfl ?_
    refine Ls_run (run_lss rfl rfl) rfl ?_
    refine Ls_run (run_pick_t rfl rfl) rfl ?_
    refine Ls_nil ?_
    refine Jm_seq ?_
    refine St_ifP rfl (fun h17 => ?_) (fun h17 => ?_)
    · skip
      refine St_skip ?_
      refine Jm_seq ?_
      refine St_seq ?_
      refine St_block ?_
      refine St_seq ?_
      refine St_region ?_
      refine Ls_run (run_move rfl) rfl ?_
      refine Ls_run (run_move rfl) rfl ?_
      obtain ⟨⟨pi, Ai, ni, ci⟩, ho⟩ : ∃ o, pl.getD i (0, none, 0, 0) = o := ⟨_, rfl⟩
      have hmem : (pi, Ai, ni, ci) ∈ pl := by rw [← ho]; exact getElem_mem3 (by omega)
      obtain ⟨hpi, l, hri, hbs⟩ := hput _ hmem
      simp only at hpi hri
      obtain ⟨u, hu, hu2⟩ := u64_nat pi
      obtain ⟨k, hk0⟩ : ∃ q, q = u % 9 := ⟨_, rfl⟩
      have hk9 : k < 9 := by omega
      have hll := rdB_len hri
      have hcapi := hri.cap
      obtain ⟨m, hm0⟩ : ∃ q, q = min ni 1024 := ⟨_, rfl⟩
      have hmn : m ≤ ni := by omega
      obtain ⟨hiw, hil, hid⟩ := hinv
      refine Ls_index (KPut) (hr.inB hs) Try.underlying22 inf33 rfl rfl (by omega) (by omega) ho rfl ?_
      intro b18 o19 hc20
      refine Ls_run (run_field Try.underlying33 rfl inf3 (by decide) rfl) rfl ?_
      refine Ls_run (run_as (run_load sc3 rfl (hc20 0 _ rfl)) (show _ = Value.int .i64 pi from rfl)) rfl ?_
      refine Ls_run (run_as (run_conv_int Try.underlying30 us3 rfl rfl) (show _ = Value.int .u64 (u : Int) by rw [← hu])) rfl ?_
      refine Ls_run (run_rem rfl rfl (by decide) (show _ = (k : Int) by rw [hk0]; exact rem_nn u 9)) rfl ?_
      refine Ls_run (run_conv_int Try.underlying3 us30 rfl (w64 (by omega))) rfl ?_
      refine Ls_run (run_assign rfl) rfl ?_
      refine Ls_nil ?_
      refine Jm_seq ?_
      refine St_seq ?_
      refine St_region ?_
      refine Ls_run (run_move rfl) rfl ?_
      refine Ls_run (run_move rfl) rfl ?_
      refine Ls_index (KPut) (hr.inB hs) Try.underlying22 inf33 rfl rfl (by omega) (by omega) ho rfl ?_
      intro b21 o22 hc23
      refine Ls_run (run_field Try.underlying33 rfl inf31 (by decide) rfl) rfl ?_
      refine Ls_run (run_as (run_load sc31 rfl (hc23 1 _ rfl)) (show _ = Value.slice Ai ni ci from rfl)) rfl ?_
      refine Ls_call Try.func15 nm15 rfl rfl (laid_c wr Ai ni ci hcapi) rfl ?_
      rintro v24 w25 ⟨rfl, rfl⟩
      rw [← hm0]
      refine Ls_run (run_assign rfl) rfl ?_
      refine Ls_nil ?_
      refine Jm_seq ?_
      refine St_seq ?_
      refine St_region ?_
      refine Ls_run (run_move rfl) rfl ?_
      obtain ⟨A0, c0, hd0⟩ := hs.dhd
      refine Ls_call Try.func16 nm16 rfl rfl (Down_c wr b0 st A0 c0 hd0) rfl ?_
      rintro v26 w27 ⟨rfl, rfl⟩
      refine Ls_run (run_assign rfl) rfl ?_
      refine Ls_nil ?_
      refine Jm_seq ?_
      refine St_seq ?_
      refine St_region ?_
      refine Ls_run (run_move rfl) rfl ?_
      refine Ls_run (run_move rfl) rfl ?_
      refine Ls_run (run_move rfl) rfl ?_
      refine Ls_call Try.func17 nm17 rfl rfl (Write_c w wr _ b0 st hs (fun r hr => (hbl r hr).2) (k : Int) Ai m ci (l.take m) (fun w' X q => (rdB_take hri m hmn).inB q) (by omega)) rfl ?_
      rintro v28 w29 ⟨rfl, hs⟩
      obtain ⟨⟨rv, s2⟩, hw⟩ : ∃ q, dwrite st (k : Int) (l.take m) = q := ⟨_, rfl⟩
      simp only [hw] at hs ⊢
      have hml : (l.take m).length ≤ 1024 := by rw [List.length_take]; omega
      refine Ls_run (run_assign rfl) rfl ?_
      refine Ls_nil ?_
      refine Jm_seq ?_
      refine St_block ?_
      refine St_seq ?_
      refine St_region ?_
      refine Ls_run (run_move rfl) rfl ?_
      refine Ls_run (run_assign rfl) rfl ?_
      refine Ls_nil ?_
      refine Jm_seq ?_
      refine St_if rfl (fun h30 => ?_) (fun h30 => ?_)
      · skip
        have hwd := dwrite_down (i := (k : Int)) (l := l.take m) h30
        rw [hw] at hwd
        obtain ⟨e1, e2⟩ := Prod.mk.inj hwd.symm
        have hd2 : s2.down = true := by rw [← e2]; exact h30
        refine St_seq ?_
        refine St_region ?_
        refine Ls_run (run_move rfl) rfl ?_
        refine Ls_run (run_asB (c := false) (run_neq rfl rfl) (by simp [← e1])) rfl ?_
        refine Ls_run (run_move rfl) rfl ?_
        refine Ls_on rfl rfl ?_
        refine Ls_run (run_move rfl) rfl ?_
        refine Ls_on rfl rfl ?_
        obtain ⟨A0, c0, hd0⟩ := hs.dhd
        refine Ls_call Try.func16 nm16 rfl rfl (Down_c w29 b0 s2 A0 c0 hd0) rfl ?_
        rintro v31 w32 ⟨rfl, rfl⟩
        rw [hd2]
        refine Ls_on rfl rfl ?_
        refine Ls_run (run_not rfl) rfl ?_
        refine Ls_run (run_pick_f rfl rfl) rfl ?_
        refine Ls_nil ?_
        refine Jm_seq ?_
        refine St_iff rfl ?_
        refine St_skip ?_
        refine Jm_block_normal (Jm_block_normal (Jm_seq ?_))
        refine St_region ?_
        refine Ls_run (run_move rfl) rfl ?_
        refine Ls_run (run_add rfl rfl (w64 (by omega))) rfl ?_
        refine Ls_run (run_assign rfl) rfl ?_
        refine Ls_nil ?_
        refine Jm_round (i + 1, s2, ws, done) ?_ ?_ ?_
        · rw [hEn12]; exact (subE_cons rfl (subE_cons rfl (subE_cons rfl (subE_cons rfl (subE_cons rfl (subE_cons rfl subE_nil))))))
        · skip
          rw [hIv13]
          refine ⟨hs, by omega, by omega, by omega, ⟨?_, ?_, ?_⟩, ?_, ?_, hws⟩
          · rw [← e2]; exact hiw
          · rw [← e2]; exact hil
          · rw [← e2]; first | exact hid | (intro hq; cases hq)
          · rw [← e2]; exact hpw
          · rw [← e2]; exact hbl
        · skip
          rw [hms14, hms14]
          omega
      · skip
        refine St_seq ?_
        refine St_region ?_
        refine Ls_run (run_move rfl) rfl ?_
        refine Ls_run (run_eql rfl rfl) rfl ?_
        refine Ls_run (run_assign rfl) rfl ?_
        refine Ls_nil ?_
        refine Jm_seq ?_
        refine St_ifP rfl (fun h34 => ?_) (fun h34 => ?_)
        · skip
          have hdn : st.down = false := by simp_all
          have hwd := dwrite_far (l := l.take m) (i := (k : Int)) hdn (by omega)
          rw [hw] at hwd
          obtain ⟨e1, e2⟩ := Prod.mk.inj hwd.symm
          have hd2 : s2.down = false := by rw [← e2]; exact hdn
          refine St_seq ?_
          refine St_region ?_
          refine Ls_run (run_move rfl) rfl ?_
          refine Ls_run (run_asB (c := false) (run_neq rfl rfl) (by simp [← e1])) rfl ?_
          refine Ls_run (run_move rfl) rfl ?_
          refine Ls_on rfl rfl ?_
          refine Ls_run (run_move rfl) rfl ?_
          refine Ls_on rfl rfl ?_
          obtain ⟨A0, c0, hd0⟩ := hs.dhd
          refine Ls_call Try.func16 nm16 rfl rfl (Down_c w29 b0 s2 A0 c0 hd0) rfl ?_
          rintro v35 w36 ⟨rfl, rfl⟩
          rw [hd2]
          refine Ls_run (run_pick_f rfl rfl) rfl ?_
          refine Ls_nil ?_
          refine Jm_seq ?_
          refine St_iff rfl ?_
          refine St_skip ?_
          refine Jm_block_normal (Jm_block_normal (Jm_seq ?_))
          refine St_region ?_
          refine Ls_run (run_move rfl) rfl ?_
          refine Ls_run (run_add rfl rfl (w64 (by omega))) rfl ?_
          refine Ls_run (run_assign rfl) rfl ?_
          refine Ls_nil ?_
          refine Jm_round (i + 1, s2, ws, done) ?_ ?_ ?_
          · rw [hEn12]; exact (subE_cons rfl (subE_cons rfl (subE_cons rfl (subE_cons rfl (subE_cons rfl (subE_cons rfl subE_nil))))))
          · skip
            rw [hIv13]
            refine ⟨hs, by omega, by omega, by omega, ⟨?_, ?_, ?_⟩, ?_, ?_, hws⟩
            · rw [← e2]; exact hiw
            · rw [← e2]; exact hil
            · rw [← e2]; first | exact hid | (intro hq; cases hq)
            · rw [← e2]; exact hpw
            · rw [← e2]; exact hbl
          · skip
            rw [hms14, hms14]
            omega
        · skip
          have hdn : st.down = false := by simp_all
          obtain ⟨har, hlf⟩ := hid hdn
          refine St_seq ?_
          refine St_region ?_
          refine Ls_run (run_move rfl) rfl ?_
          refine Ls_run (run_geq rfl rfl) rfl ?_
          refine Ls_run (run_move rfl) rfl ?_
          refine Ls_partP (t := 96) rfl (fun h38 => ?_) (fun h38 => ?_)
          · skip
            refine Ls_on rfl rfl ?_
            refine Ls_run (run_move rfl) rfl ?_
            refine Ls_on rfl rfl ?_
            refine Ls_run (run_move rfl) rfl ?_
            refine Ls_on rfl rfl ?_
            refine Ls_run (run_eql rfl rfl) rfl ?_
            refine Ls_run (run_pick_t rfl rfl) rfl ?_
            refine Ls_run (run_assign rfl) rfl ?_
            refine Ls_nil ?_
            refine Jm_seq ?_
            refine St_ifP rfl (fun h39 => ?_) (fun h39 => ?_)
            · skip
              have hwd := dwrite_gone (l := l.take m) (k := k) hdn (by omega) hml (by rw [har]; exact decide_eq_true (by omega)) (by have := hlf (by omega); omega)
              rw [hw] at hwd
              obtain ⟨e1, e2⟩ := Prod.mk.inj hwd.symm
              have hd2 : s2.down = true := by rw [← e2]; rfl
              refine St_seq ?_
              refine St_region ?_
              refine Ls_run (run_move rfl) rfl ?_
              refine Ls_run (run_asB (c := false) (run_neq rfl rfl) (by simp [← e1])) rfl ?_
              refine Ls_run (run_move rfl) rfl ?_
              refine Ls_on rfl rfl ?_
              refine Ls_run (run_move rfl) rfl ?_
              refine Ls_on rfl rfl ?_
              obtain ⟨A0, c0, hd0⟩ := hs.dhd
              refine Ls_call Try.func16 nm16 rfl rfl (Down_c w29 b0 s2 A0 c0 hd0) rfl ?_
              rintro v40 w41 ⟨rfl, rfl⟩
              rw [hd2]
              refine Ls_on rfl rfl ?_
              refine Ls_run (run_not rfl) rfl ?_
              refine Ls_run (run_pick_f rfl rfl) rfl ?_
              refine Ls_nil ?_
              refine Jm_seq ?_
              refine St_iff rfl ?_
              refine St_skip ?_
              refine Jm_block_normal (Jm_block_normal (Jm_seq ?_))
              refine St_region ?_
              refine Ls_run (run_move rfl) rfl ?_
              refine Ls_run (run_add rfl rfl (w64 (by omega))) rfl ?_
              refine Ls_run (run_assign rfl) rfl ?_
              refine Ls_nil ?_
              refine Jm_round (i + 1, s2, ws, done) ?_ ?_ ?_
              · rw [hEn12]; exact (subE_cons rfl (subE_cons rfl (subE_cons rfl (subE_cons rfl (subE_cons rfl (subE_cons rfl subE_nil))))))
              · skip
                rw [hIv13]
                refine ⟨hs, by omega, by omega, by omega, ⟨?_, ?_, ?_⟩, ?_, ?_, hws⟩
                · rw [← e2]; exact hiw
                · rw [← e2]; exact hil
                · rw [← e2]; first | exact hid | (intro hq; cases hq)
                · rw [← e2]; exact hpw
                · rw [← e2]; exact hbl
              · skip
                rw [hms14, hms14]
                omega
            · skip
              have hwd := dwrite_goes (l := l.take m) (k := k) hdn (by omega) hml (fun q => by rw [har] at q; have h0 := of_decide_eq_true q.1; have := hlf h0; omega)
              rw [hw] at hwd
              obtain ⟨e1, e2⟩ := Prod.mk.inj hwd.symm
              have hd2 : s2.down = false := by rw [← e2]; exact hdn
              refine St_seq ?_
              refine St_seq ?_
              refine St_region ?_
              refine Ls_run (run_move rfl) rfl ?_
              refine Ls_run (run_asB (c := false) (run_neq rfl rfl) (by simp [← e1])) rfl ?_
              refine Ls_run (run_move rfl) rfl ?_
              refine Ls_on rfl rfl ?_
              refine Ls_run (run_move rfl) rfl ?_
              refine Ls_on rfl rfl ?_
              obtain ⟨A0, c0, hd0⟩ := hs.dhd
              refine Ls_call Try.func16 nm16 rfl rfl (Down_c w29 b0 s2 A0 c0 hd0) rfl ?_
              rintro v43 w44 ⟨rfl, rfl⟩
              rw [hd2]
              refine Ls_run (run_pick_f rfl rfl) rfl ?_
              refine Ls_nil ?_
              refine Jm_seq ?_
              refine St_iff rfl ?_
              refine St_skip ?_
              refine Jm_seq ?_
              refine St_seq ?_
              refine St_region ?_
              refine Ls_run (run_move rfl) rfl ?_
              refine Ls_run (run_move rfl) rfl ?_
              refine Ls_run (run_move rfl) rfl ?_
              refine Ls_run (run_index Try.underlying28 inf31 rfl rfl rfl (by omega) (by omega)) rfl ?_
              replace hs := hs.front 1 rfl
              simp only [List.cons_append, List.nil_append, List.eraseIdx_cons_zero, List.eraseIdx_cons_succ] at hs
              refine Ls_storeOwn hs inf31 rfl rfl rfl (by omega) ?_
              intro w46 hs
              refine Ls_nil ?_
              refine Jm_seq ?_
              refine St_region ?_
              refine Ls_run (run_move rfl) rfl ?_
              refine Ls_run (run_add rfl rfl (w64 (by omega))) rfl ?_
              refine Ls_run (run_assign rfl) rfl ?_
              refine Ls_nil ?_
              refine Jm_block_normal (Jm_block_normal (Jm_seq ?_))
              refine St_region ?_
              refine Ls_run (run_move rfl) rfl ?_
              refine Ls_run (run_add rfl rfl (w64 (by omega))) rfl ?_
              refine Ls_run (run_assign rfl) rfl ?_
              refine Ls_nil ?_
              replace hs := hs.front 1 rfl
              simp only [List.cons_append, List.nil_append, List.eraseIdx_cons_zero, List.eraseIdx_cons_succ] at hs
              refine Jm_round (i + 1, s2, ws.set k (Value.slice Ai m ci), done + 1) ?_ ?_ ?_
              · rw [hEn12]; exact (subE_cons rfl (subE_cons rfl (subE_cons rfl (subE_cons rfl (subE_cons rfl (subE_cons rfl subE_nil))))))
              · skip
                rw [hIv13]
                refine ⟨?_, by omega, by omega, by omega, ⟨?_, ?_, ?_⟩, ?_, ?_, by rw [List.length_set]; exact hws⟩
                · simp only [Nat.zero_add, Nat.mul_one, Int.toNat_natCast, El.val_flat] at hs ⊢; exact hs
                · rw [← e2]; show IntKind.i64.wrap (st.writes + 1) = _; rw [hiw, w64 (by omega)]; omega
                · rw [← e2]; simpa using hil
                · intro _; rw [← e2]; refine ⟨har, fun h0 => ?_⟩; have hle := hlf h0; show IntKind.i64.wrap (st.left - 1) = _ ∧ _; rw [hle.1, w64 (by omega)]; omega
                · rw [← e2]; exact hpw.set (rdB_take hri m hmn) (by omega)
                · rw [← e2]; exact set_mem hbl ⟨fun q hq => hbs q (List.mem_of_mem_take hq), hml⟩
              · skip
                rw [hms14, hms14]
                omega
          · skip
            have hwd := dwrite_goes (l := l.take m) (k := k) hdn (by omega) hml (fun q => by rw [har] at q; have h0 := of_decide_eq_true q.1; have := hlf h0; omega)
            rw [hw] at hwd
            obtain ⟨e1, e2⟩ := Prod.mk.inj hwd.symm
            have hd2 : s2.down = false := by rw [← e2]; exact hdn
            refine Ls_off rfl rfl rfl rfl ?_
            refine Ls_off rfl rfl rfl rfl ?_
            refine Ls_off rfl rfl rfl rfl ?_
            refine Ls_run (run_pick_f rfl rfl) rfl ?_
            refine Ls_run (run_assign rfl) rfl ?_
            refine Ls_nil ?_
            refine Jm_seq ?_
            refine St_iff rfl ?_
            refine St_seq ?_
            refine St_seq ?_
            refine St_region ?_
            refine Ls_run (run_move rfl) rfl ?_
            refine Ls_run (run_asB (c := false) (run_neq rfl rfl) (by simp [← e1])) rfl ?_
            refine Ls_run (run_move rfl) rfl ?_
            refine Ls_on rfl rfl ?_
            refine Ls_run (run_move rfl) rfl ?_
            refine Ls_on rfl rfl ?_
            obtain ⟨A0, c0, hd0⟩ := hs.dhd
            refine Ls_call Try.func16 nm16 rfl rfl (Down_c w29 b0 s2 A0 c0 hd0) rfl ?_
            rintro v48 w49 ⟨rfl, rfl⟩
            rw [hd2]
            refine Ls_run (run_pick_f rfl rfl) rfl ?_
            refine Ls_nil ?_
            refine Jm_seq ?_
            refine St_iff rfl ?_
            refine St_skip ?_
            refine Jm_seq ?_
            refine St_seq ?_
            refine St_region ?_
            refine Ls_run (run_move rfl) rfl ?_
            refine Ls_run (run_move rfl) rfl ?_
            refine Ls_run (run_move rfl) rfl ?_
            refine Ls_run (run_index Try.underlying28 inf31 rfl rfl rfl (by omega) (by omega)) rfl ?_
            replace hs := hs.front 1 rfl
            simp only [List.cons_append, List.nil_append, List.eraseIdx_cons_zero, List.eraseIdx_cons_succ] at hs
            refine Ls_storeOwn hs inf31 rfl rfl rfl (by omega) ?_
            intro w51 hs
            refine Ls_nil ?_
            refine Jm_seq ?_
            refine St_region ?_
            refine Ls_run (run_move rfl) rfl ?_
            refine Ls_run (run_add rfl rfl (w64 (by omega))) rfl ?_
            refine Ls_run (run_assign rfl) rfl ?_
            refine Ls_nil ?_
            refine Jm_block_normal (Jm_block_normal (Jm_seq ?_))
            refine St_region ?_
            refine Ls_run (run_move rfl) rfl ?_
            refine Ls_run (run_add rfl rfl (w64 (by omega))) rfl ?_
            refine Ls_run (run_assign rfl) rfl ?_
            refine Ls_nil ?_
            replace hs := hs.front 1 rfl
            simp only [List.cons_append, List.nil_append, List.eraseIdx_cons_zero, List.eraseIdx_cons_succ] at hs
            refine Jm_round (i + 1, s2, ws.set k (Value.slice Ai m ci), done + 1) ?_ ?_ ?_
            · rw [hEn12]; exact (subE_cons rfl (subE_cons rfl (subE_cons rfl (subE_cons rfl (subE_cons rfl (subE_cons rfl subE_nil))))))
            · skip
              rw [hIv13]
              refine ⟨?_, by omega, by omega, by omega, ⟨?_, ?_, ?_⟩, ?_, ?_, by rw [List.length_set]; exact hws⟩
              · simp only [Nat.zero_add, Nat.mul_one, Int.toNat_natCast, El.val_flat] at hs ⊢; exact hs
              · rw [← e2]; show IntKind.i64.wrap (st.writes + 1) = _; rw [hiw, w64 (by omega)]; omega
              · rw [← e2]; simpa using hil
              · intro _; rw [← e2]; refine ⟨har, fun h0 => ?_⟩; have hle := hlf h0; show IntKind.i64.wrap (st.left - 1) = _ ∧ _; rw [hle.1, w64 (by omega)]; omega
              · rw [← e2]; exact hpw.set (rdB_take hri m hmn) (by omega)
              · rw [← e2]; exact set_mem hbl ⟨fun q hq => hbs q (List.mem_of_mem_take hq), hml⟩
            · skip
              rw [hms14, hms14]
              omega
    · skip
      refine St_exit ?_
      refine Jm_then_exit (Jm_then_exit (Jm_block_same (Jm_seq ?_)))
      refine St_seq ?_
      refine St_region ?_
      refine Ls_run (run_move rfl) rfl ?_
      refine Ls_call Try.func18 nm18 rfl rfl (Read_c w wr _ b0 st hs (fun r hr => (hbl r hr).2) 0) rfl ?_
      rintro v52 w53 ⟨Ar, cr, rfl, hs⟩
      have hil8 := hinv.2.1
      obtain ⟨⟨rr, re, s6⟩, hrd⟩ : ∃ q, dread st 0 = q := ⟨_, rfl⟩
      simp only [hrd] at hs ⊢
      have h6 : s6.down = st.down ∧ s6.bl = st.bl ∧ s6.writes = st.writes ∧ (decide (re = 80) = st.down) := dread_0 hinv.2.1 hrd
      refine Ls_run (run_move rfl) rfl ?_
      refine Ls_run (run_extract rfl rfl) rfl ?_
      refine Ls_run (run_extract rfl rfl) rfl ?_
      refine Ls_run (run_assign rfl) rfl ?_
      refine Ls_nil ?_
      refine Jm_seq ?_
      refine St_seq ?_
      refine St_seq ?_
      refine St_region ?_
      refine Ls_run (run_move rfl) rfl ?_
      refine Ls_run (run_eql rfl rfl) rfl ?_
      refine Ls_run (run_move rfl) rfl ?_
      obtain ⟨A0, c0, hd0⟩ := hs.dhd
      refine Ls_call Try.func16 nm16 rfl rfl (Down_c w53 b0 s6 A0 c0 hd0) rfl ?_
      rintro v54 w55 ⟨rfl, rfl⟩
      refine Ls_run (run_asB (c := false) (run_neq_bool Try.underlying4 rfl rfl) (by rw [h6.1, h6.2.2.2]; simp)) rfl ?_
      refine Ls_run (run_move rfl) rfl ?_
      refine Ls_on rfl rfl ?_
      refine Ls_run (run_move rfl) rfl ?_
      refine Ls_on rfl rfl ?_
      obtain ⟨A0, c0, hd0⟩ := hs.dhd
      refine Ls_call Try.func19 nm19 rfl rfl (Writes_c w53 b0 s6 A0 c0 hd0) rfl ?_
      rintro v56 w57 ⟨rfl, rfl⟩
      refine Ls_on rfl rfl ?_
      refine Ls_run (run_move rfl) rfl ?_
      refine Ls_on rfl rfl ?_
      refine Ls_run (run_asB (c := false) (run_neq rfl rfl) (by rw [h6.2.2.1, hinv.1]; simp)) rfl ?_
      refine Ls_run (run_pick_f rfl rfl) rfl ?_
      refine Ls_run (run_move rfl) rfl ?_
      refine Ls_on rfl rfl ?_
      refine Ls_run (run_move rfl) rfl ?_
      refine Ls_on rfl rfl ?_
      refine Ls_call Try.func21 nm21 rfl rfl (Image_c w w53 _ b0 s6 hs (fun r hr => (hbl r (by rw [← h6.2.1]; exact hr)).2) (by rw [h6.2.1]; omega)) rfl ?_
      rintro v58 w59 ⟨Ai, ci, vi, rfl, hvi, hs⟩
      rw [h6.2.1] at hvi hs ⊢
      replace hs := Sat.toKeep (F := fun w => Rd w Ai st.bl.length ci 1 (El.val.flat vi) ∧ PartsK (El.int .u8) w vi st.bl) (fun B w q => ⟨q.rd_at 0 rfl, Sat.parts (pre := [_]) q hvi⟩) hs
      refine Ls_on rfl rfl ?_
      refine Ls_run (run_move rfl) rfl ?_
      refine Ls_on rfl rfl ?_
      refine Ls_call Try.func20 nm20 rfl rfl (images_c w59 _ _ _ vi st.bl _ _ _ ws st.bl ((hs.kept 0 rfl).1) (hs.rd_at 3 rfl) (hs.kept 0 rfl).2 (hpw.inB hs) (fun r hr => (hbl r hr).1) (fun r hr => (hbl r hr).1) (by omega)) rfl ?_
      rintro v60 w61 ⟨rfl, hsI⟩
      replace hs := hs.trans hsI
      simp only [List.nil_append] at hs
      rw [decide_eq_true (rfl : st.bl = st.bl)]
      refine Ls_on rfl rfl ?_
      refine Ls_run (run_not rfl) rfl ?_
      refine Ls_run (run_pick_f rfl rfl) rfl ?_
      refine Ls_nil ?_
      refine Jm_seq ?_
      refine St_iff rfl ?_
      refine St_skip ?_
      refine Jm_seq ?_
      refine St_seq ?_
      refine St_region ?_
      refine Ls_run (run_move rfl) rfl ?_
      replace hs := hs.front 1 rfl
      simp only [List.cons_append, List.nil_append, List.eraseIdx_cons_zero, List.eraseIdx_cons_succ] at hs
      obtain ⟨vs0, A0, c0, hv0, hs⟩ := hs.dopen
      refine Ls_call Try.func22 nm22 rfl rfl (On_c w w61 _ b0 s6 A0 c0 hs) rfl ?_
      rintro v63 w65 ⟨rfl, hs⟩
      replace hs := Sat.dshut (s := don s6) hv0 hs
      obtain ⟨s7, hs7⟩ : ∃ q, q = don s6 := ⟨_, rfl⟩
      rw [← hs7] at hs
      refine Ls_nil ?_
      refine Jm_seq ?_
      refine St_seq ?_
      refine St_seq ?_
      refine St_region ?_
      refine Ls_run (run_assign rfl) rfl ?_
      refine Ls_nil ?_
      refine Jm_seq ?_
      refine St_block ?_
      replace hs := hs.erase 1
      simp only [List.cons_append, List.nil_append, List.eraseIdx_cons_zero, List.eraseIdx_cons_succ] at hs
      replace hs := hs.erase 1
      simp only [List.cons_append, List.nil_append, List.eraseIdx_cons_zero, List.eraseIdx_cons_succ] at hs
      have hil8 := hinv.2.1
      obtain ⟨En66, hEn66⟩ : ∃ F : Nat × DSt → Env, ∀ (q : Nat) (sx : DSt), F (q, sx) = [(5, .pointer (some ⟨b0, 0, none⟩)), (7, .slice (some ⟨b8, 0, none⟩) 8 8), (14, .int .i64 (q : Int))] := ⟨(fun (s : Nat × DSt) => match s with | (q, sx) => [(5, .pointer (some ⟨b0, 0, none⟩)), (7, .slice (some ⟨b8, 0, none⟩) 8 8), (14, .int .i64 (q : Int))]), fun _ _ => rfl⟩
      obtain ⟨Iv67, hIv67⟩ : ∃ F : Nat × DSt → World → Prop, ∀ (q : Nat) (sx : DSt) (wr2 : World), F (q, sx) wr2 = (Sat w wr2 [DiskA 85 31 5 b0 sx, Own 31 1 (.slice (some ⟨b8, 0, none⟩) 8 8) 8 (El.val.flat ws)] ∧ q ≤ 8 ∧ sx.down = false ∧ sx.armed = false ∧ sx.bl = st.bl) := ⟨(fun (s : Nat × DSt) => match s with | (q, sx) => fun (wr2 : World) => Sat w wr2 [DiskA 85 31 5 b0 sx, Own 31 1 (.slice (some ⟨b8, 0, none⟩) 8 8) 8 (El.val.flat ws)] ∧ q ≤ 8 ∧ sx.down = false ∧ sx.armed = false ∧ sx.bl = st.bl), fun _ _ _ => rfl⟩
      obtain ⟨ms68, hms68⟩ : ∃ F : Nat × DSt → Nat, ∀ (q : Nat) (sx : DSt), F (q, sx) = (8 - q) := ⟨(fun (s : Nat × DSt) => match s with | (q, sx) => 8 - q), fun _ _ => rfl⟩
      refine St_loop En66 Iv67 ms68 (0, s7) ?_ ?_ ?_
      · skip
        rw [hIv67]
        exact ⟨hs, by omega, by rw [hs7]; rfl, by rw [hs7]; rfl, by rw [hs7]; exact h6.2.1⟩
      · rw [hEn66]; exact (subE_cons rfl (subE_cons rfl (subE_cons rfl subE_nil)))
      rintro ⟨q, sx⟩ wr2 hI69
      rw [hIv67] at hI69
      obtain ⟨hs, hq, hxd, hxa, hxb⟩ := hI69
      refine St_eqE (hEn66 _ _) ?_
      refine St_seq ?_
      refine St_seq ?_
      refine St_region ?_
      refine Ls_run (run_move rfl) rfl ?_
      refine Ls_run (run_lss rfl rfl) rfl ?_
      refine Ls_nil ?_
      refine Jm_seq ?_
      refine St_ifP rfl (fun h70 => ?_) (fun h70 => ?_)
      · skip
        refine St_skip ?_
        refine Jm_seq ?_
        refine St_seq ?_
        refine St_block ?_
        refine St_seq ?_
        refine St_region ?_
        refine Ls_run (run_move rfl) rfl ?_
        refine Ls_run (run_move rfl) rfl ?_
        have hrd2 := dread_ok (s := sx) (k := q) hxd (by rw [hxb]; omega)
        refine Ls_call Try.func18 nm18 rfl rfl (Read_c w wr2 _ b0 sx hs (fun r hr => (hbl r (by rw [← hxb]; exact hr)).2) (q : Int)) rfl ?_
        rintro v71 w72 ⟨Ar, cr, rfl, hs⟩
        rw [hxb] at hrd2
        rw [hrd2.1] at hs ⊢
        rw [hrd2.2.1]
        obtain ⟨s8, hs8⟩ : ∃ x, x = (dread sx (q : Int)).2.2 := ⟨_, rfl⟩
        rw [← hs8] at hs hrd2
        refine Ls_run (run_move rfl) rfl ?_
        refine Ls_run (run_extract rfl rfl) rfl ?_
        refine Ls_run (run_extract rfl rfl) rfl ?_
        refine Ls_run (run_assign rfl) rfl ?_
        refine Ls_run (run_assign rfl) rfl ?_
        refine Ls_nil ?_
        refine Jm_seq ?_
        refine St_seq ?_
        refine St_draw (fun x => Below w72.heap.size w72 x) mixed ?_
        intro w73 q74
        have hH := q74.below
        replace hs := hs.quiet q74
        refine An_grow hH ?_
        replace hH := Below.refl w73.heap.size w73
        refine An_take 0 rfl (by kernel_rfl) (by kernel_rfl) (by kernel_rfl) (fun _ _ _ h => h) hH (fun x hx => run_move rfl) rfl ?_
        refine An_take 1 rfl (by kernel_rfl) (by kernel_rfl) (by kernel_rfl) (fun _ _ _ h => h) hH (fun x hx => run_asB (c := false) (run_neq rfl rfl) (by decide)) rfl ?_
        refine An_take 2 rfl (by kernel_rfl) (by kernel_rfl) (by kernel_rfl) (fun _ _ _ h => h) hH (fun x hx => run_move rfl) rfl ?_
        refine An_take_on 3 rfl (by kernel_rfl) (by kernel_rfl) (by kernel_rfl) rfl rfl (fun _ _ _ h => h) hH (fun x hx => run_move rfl) rfl ?_
        refine An_take_on 4 rfl (by kernel_rfl) (by kernel_rfl) (by kernel_rfl) rfl rfl (fun _ _ _ h => h) hH (fun x hx => run_string Try.underlying31 Try.underlying5 Try.underlying9 rfl ((hs.rd_at 1 rfl).grow hx)) rfl ?_
        refine An_take_on 5 rfl (by kernel_rfl) (by kernel_rfl) (by kernel_rfl) rfl rfl (fun _ _ _ h => h) hH (fun x hx => run_move rfl) rfl ?_
        refine An_take_on 6 rfl (by kernel_rfl) (by kernel_rfl) (by kernel_rfl) rfl rfl (fun _ _ _ h => h) hH (fun x hx => run_move rfl) rfl ?_
        obtain ⟨Aq, nq, cq, hvq, hrq⟩ := hpw.2 q (by omega)
        rw [← bytesV_flat] at hrq
        refine An_index_on 7  (El.val) rfl (by kernel_rfl) (by kernel_rfl) (by kernel_rfl) rfl rfl (fun _ _ _ _ h => h) hH (fun x hx => ((hs.rd_at 2 rfl).grow hx)) Try.underlying28 inf31 rfl rfl (by omega) (by omega) hvq rfl ?_
        intro b75 o76 hc77
        refine An_take_on 8 rfl (by kernel_rfl) (by kernel_rfl) (by kernel_rfl) rfl rfl (fun _ _ _ h => h) hH (fun x hx => run_load sc31 rfl ((hc77 x hx) 0 _ rfl)) rfl ?_
        refine An_take_on 9 rfl (by kernel_rfl) (by kernel_rfl) (by kernel_rfl) rfl rfl (fun _ _ _ h => h) hH (fun x hx => run_string Try.underlying31 Try.underlying5 Try.underlying9 rfl ((hrq.inB hs).grow hx)) rfl ?_
        refine An_take_on 10 rfl (by kernel_rfl) (by kernel_rfl) (by kernel_rfl) rfl rfl (fun _ _ _ h => h) hH (fun x hx => run_asB (c := false) (run_neq_str rfl rfl) (by simp)) rfl ?_
        refine An_take 11 rfl (by kernel_rfl) (by kernel_rfl) (by kernel_rfl) (fun _ _ _ h => h) hH (fun x hx => run_pick_f rfl rfl) rfl ?_
        refine An_done (by kernel_rfl) ?_
        refine Jm_seq ?_
        refine St_iff rfl ?_
        refine St_skip ?_
        refine Jm_block_normal (Jm_seq ?_)
        refine St_region ?_
        refine Ls_run (run_move rfl) rfl ?_
        refine Ls_run (run_add rfl rfl (w64 (by omega))) rfl ?_
        refine Ls_run (run_assign rfl) rfl ?_
        refine Ls_nil ?_
        replace hs := hs.erase 1
        simp only [List.cons_append, List.nil_append, List.eraseIdx_cons_zero, List.eraseIdx_cons_succ] at hs
        refine Jm_round (q + 1, s8) ?_ ?_ ?_
        · rw [hEn66]; exact (subE_cons rfl (subE_cons rfl (subE_cons rfl subE_nil)))
        · skip
          rw [hIv67]
          exact ⟨hs, by omega, by rw [hrd2.2.2.1]; exact hxd, by rw [hrd2.2.2.2.1]; exact hxa, hrd2.2.2.2.2⟩
        · skip
          rw [hms68, hms68]
          omega
      · skip
        refine St_exit ?_
        refine Jm_then_exit (Jm_then_exit (Jm_block_same (Jm_seq ?_)))
        refine St_seq ?_
        refine St_region ?_
        refine Ls_run (run_move rfl) rfl ?_
        refine Ls_literal [_, _] hs Try.underlying31 inf5 rfl rfl rfl rfl rfl rfl ?_
        intro b79 w80 hs
        simp only [List.flatMap_cons, List.flatMap_nil, Value.cells, List.cons_append, List.nil_append] at hs
        refine Ls_stringish hs Try.underlying31 Try.underlying5 rfl rfl ?_
        intro w81 hs
        replace hs := hs.front 1 rfl
        simp only [List.cons_append, List.nil_append, List.eraseIdx_cons_zero, List.eraseIdx_cons_succ] at hs
        have hgo := dwrite_goes (s := sx) (k := 0) (l := [111, 110]) hxd (by rw [hxb]; omega) (by decide) (fun q => by rw [hxa] at q; cases q.1)
        refine Ls_call Try.func17 nm17 rfl rfl (Write_c w w81 _ b0 sx hs (fun r hr => (hbl r (by rw [← hxb]; exact hr)).2) ((0 : Nat) : Int) _ 2 2 [111, 110] (fun w' X q => rd_block (q.is_at 1 rfl).2 1 2 rfl) (by decide)) rfl ?_
        rintro v82 w83 ⟨rfl, hs⟩
        rw [hgo] at hs ⊢
        refine Ls_run (run_asB (c := true) (run_eql rfl rfl) (by simp)) rfl ?_
        refine Ls_run (run_move rfl) rfl ?_
        refine Ls_on rfl rfl ?_
        refine Ls_run (run_move rfl) rfl ?_
        refine Ls_on rfl rfl ?_
        obtain ⟨A0, c0, hd0⟩ := hs.dhd
        refine Ls_call Try.func16 nm16 rfl rfl (Down_c w83 b0 _ A0 c0 hd0) rfl ?_
        rintro v84 w85 ⟨rfl, rfl⟩
        rw [(show DSt.down _ = false from hxd)]
        refine Ls_on rfl rfl ?_
        refine Ls_run (run_not rfl) rfl ?_
        refine Ls_run (run_pick_t rfl rfl) rfl ?_
        refine Ls_run (run_assign rfl) rfl ?_
        refine Ls_nil ?_
        refine Jm_seq ?_
        refine St_ret ?_
        refine Jm_ret1 rfl rfl ?_
        exact ⟨_, rfl, rfl, hs.below⟩
  · skip
    refine Ls_off rfl rfl rfl rfl ?_
    refine Ls_off rfl rfl rfl rfl ?_
    refine Ls_run (run_pick_f rfl rfl) rfl ?_
    refine Ls_nil ?_
    refine Jm_seq ?_
    refine St_iff rfl ?_
    refine St_exit ?_
    refine Jm_then_exit (Jm_then_exit (Jm_block_same (Jm_seq ?_)))
    refine St_seq ?_
    refine St_region ?_
    refine Ls_run (run_move rfl) rfl ?_
    refine Ls_call Try.func18 nm18 rfl rfl (Read_c w wr _ b0 st hs (fun r hr => (hbl r hr).2) 0) rfl ?_
    rintro v87 w88 ⟨Ar, cr, rfl, hs⟩
    have hil8 := hinv.2.1
    obtain ⟨⟨rr, re, s6⟩, hrd⟩ : ∃ q, dread st 0 = q := ⟨_, rfl⟩
    simp only [hrd] at hs ⊢
    have h6 : s6.down = st.down ∧ s6.bl = st.bl ∧ s6.writes = st.writes ∧ (decide (re = 80) = st.down) := dread_0 hinv.2.1 hrd
    refine Ls_run (run_move rfl) rfl ?_
    refine Ls_run (run_extract rfl rfl) rfl ?_
    refine Ls_run (run_extract rfl rfl) rfl ?_
    refine Ls_run (run_assign rfl) rfl ?_
    refine Ls_nil ?_
    refine Jm_seq ?_
    refine St_seq ?_
    refine St_seq ?_
    refine St_region ?_
    refine Ls_run (run_move rfl) rfl ?_
    refine Ls_run (run_eql rfl rfl) rfl ?_
    refine Ls_run (run_move rfl) rfl ?_
    obtain ⟨A0, c0, hd0⟩ := hs.dhd
    refine Ls_call Try.func16 nm16 rfl rfl (Down_c w88 b0 s6 A0 c0 hd0) rfl ?_
    rintro v89 w90 ⟨rfl, rfl⟩
    refine Ls_run (run_asB (c := false) (run_neq_bool Try.underlying4 rfl rfl) (by rw [h6.1, h6.2.2.2]; simp)) rfl ?_
    refine Ls_run (run_move rfl) rfl ?_
    refine Ls_on rfl rfl ?_
    refine Ls_run (run_move rfl) rfl ?_
    refine Ls_on rfl rfl ?_
    obtain ⟨A0, c0, hd0⟩ := hs.dhd
    refine Ls_call Try.func19 nm19 rfl rfl (Writes_c w88 b0 s6 A0 c0 hd0) rfl ?_
    rintro v91 w92 ⟨rfl, rfl⟩
    refine Ls_on rfl rfl ?_
    refine Ls_run (run_move rfl) rfl ?_
    refine Ls_on rfl rfl ?_
    refine Ls_run (run_asB (c := false) (run_neq rfl rfl) (by rw [h6.2.2.1, hinv.1]; simp)) rfl ?_
    refine Ls_run (run_pick_f rfl rfl) rfl ?_
    refine Ls_run (run_move rfl) rfl ?_
    refine Ls_on rfl rfl ?_
    refine Ls_run (run_move rfl) rfl ?_
    refine Ls_on rfl rfl ?_
    refine Ls_call Try.func21 nm21 rfl rfl (Image_c w w88 _ b0 s6 hs (fun r hr => (hbl r (by rw [← h6.2.1]; exact hr)).2) (by rw [h6.2.1]; omega)) rfl ?_
    rintro v93 w94 ⟨Ai, ci, vi, rfl, hvi, hs⟩
    rw [h6.2.1] at hvi hs ⊢
    replace hs := Sat.toKeep (F := fun w => Rd w Ai st.bl.length ci 1 (El.val.flat vi) ∧ PartsK (El.int .u8) w vi st.bl) (fun B w q => ⟨q.rd_at 0 rfl, Sat.parts (pre := [_]) q hvi⟩) hs
    refine Ls_on rfl rfl ?_
    refine Ls_run (run_move rfl) rfl ?_
    refine Ls_on rfl rfl ?_
    refine Ls_call Try.func20 nm20 rfl rfl (images_c w94 _ _ _ vi st.bl _ _ _ ws st.bl ((hs.kept 0 rfl).1) (hs.rd_at 3 rfl) (hs.kept 0 rfl).2 (hpw.inB hs) (fun r hr => (hbl r hr).1) (fun r hr => (hbl r hr).1) (by omega)) rfl ?_
    rintro v95 w96 ⟨rfl, hsI⟩
    replace hs := hs.trans hsI
    simp only [List.nil_append] at hs
    rw [decide_eq_true (rfl : st.bl = st.bl)]
    refine Ls_on rfl rfl ?_
    refine Ls_run (run_not rfl) rfl ?_
    refine Ls_run (run_pick_f rfl rfl) rfl ?_
    refine Ls_nil ?_
    refine Jm_seq ?_
    refine St_iff rfl ?_
    refine St_skip ?_
    refine Jm_seq ?_
    refine St_seq ?_
    refine St_region ?_
    refine Ls_run (run_move rfl) rfl ?_
    replace hs := hs.front 1 rfl
    simp only [List.cons_append, List.nil_append, List.eraseIdx_cons_zero, List.eraseIdx_cons_succ] at hs
    obtain ⟨vs0, A0, c0, hv0, hs⟩ := hs.dopen
    refine Ls_call Try.func22 nm22 rfl rfl (On_c w w96 _ b0 s6 A0 c0 hs) rfl ?_
    rintro v98 w99 ⟨rfl, hs⟩
    replace hs := Sat.dshut (s := don s6) hv0 hs
    obtain ⟨s7, hs7⟩ : ∃ q, q = don s6 := ⟨_, rfl⟩
    rw [← hs7] at hs
    refine Ls_nil ?_
    refine Jm_seq ?_
    refine St_seq ?_
    refine St_seq ?_
    refine St_region ?_
    refine Ls_run (run_assign rfl) rfl ?_
    refine Ls_nil ?_
    refine Jm_seq ?_
    refine St_block ?_
    replace hs := hs.erase 1
    simp only [List.cons_append, List.nil_append, List.eraseIdx_cons_zero, List.eraseIdx_cons_succ] at hs
    replace hs := hs.erase 1
    simp only [List.cons_append, List.nil_append, List.eraseIdx_cons_zero, List.eraseIdx_cons_succ] at hs
    have hil8 := hinv.2.1
    obtain ⟨En100, hEn100⟩ : ∃ F : Nat × DSt → Env, ∀ (q : Nat) (sx : DSt), F (q, sx) = [(5, .pointer (some ⟨b0, 0, none⟩)), (7, .slice (some ⟨b8, 0, none⟩) 8 8), (14, .int .i64 (q : Int))] := ⟨(fun (s : Nat × DSt) => match s with | (q, sx) => [(5, .pointer (some ⟨b0, 0, none⟩)), (7, .slice (some ⟨b8, 0, none⟩) 8 8), (14, .int .i64 (q : Int))]), fun _ _ => rfl⟩
    obtain ⟨Iv101, hIv101⟩ : ∃ F : Nat × DSt → World → Prop, ∀ (q : Nat) (sx : DSt) (wr2 : World), F (q, sx) wr2 = (Sat w wr2 [DiskA 85 31 5 b0 sx, Own 31 1 (.slice (some ⟨b8, 0, none⟩) 8 8) 8 (El.val.flat ws)] ∧ q ≤ 8 ∧ sx.down = false ∧ sx.armed = false ∧ sx.bl = st.bl) := ⟨(fun (s : Nat × DSt) => match s with | (q, sx) => fun (wr2 : World) => Sat w wr2 [DiskA 85 31 5 b0 sx, Own 31 1 (.slice (some ⟨b8, 0, none⟩) 8 8) 8 (El.val.flat ws)] ∧ q ≤ 8 ∧ sx.down = false ∧ sx.armed = false ∧ sx.bl = st.bl), fun _ _ _ => rfl⟩
    obtain ⟨ms102, hms102⟩ : ∃ F : Nat × DSt → Nat, ∀ (q : Nat) (sx : DSt), F (q, sx) = (8 - q) := ⟨(fun (s : Nat × DSt) => match s with | (q, sx) => 8 - q), fun _ _ => rfl⟩
    refine St_loop En100 Iv101 ms102 (0, s7) ?_ ?_ ?_
    · skip
      rw [hIv101]
      exact ⟨hs, by omega, by rw [hs7]; rfl, by rw [hs7]; rfl, by rw [hs7]; exact h6.2.1⟩
    · rw [hEn100]; exact (subE_cons rfl (subE_cons rfl (subE_cons rfl subE_nil)))
    rintro ⟨q, sx⟩ wr2 hI103
    rw [hIv101] at hI103
    obtain ⟨hs, hq, hxd, hxa, hxb⟩ := hI103
    refine St_eqE (hEn100 _ _) ?_
    refine St_seq ?_
    refine St_seq ?_
    refine St_region ?_
    refine Ls_run (run_move rfl) rfl ?_
    refine Ls_run (run_lss rfl rfl) rfl ?_
    refine Ls_nil ?_
    refine Jm_seq ?_
    refine St_ifP rfl (fun h104 => ?_) (fun h104 => ?_)
    · skip
      refine St_skip ?_
      refine Jm_seq ?_
      refine St_seq ?_
      refine St_block ?_
      refine St_seq ?_
      refine St_region ?_
      refine Ls_run (run_move rfl) rfl ?_
      refine Ls_run (run_move rfl) rfl ?_
      have hrd2 := dread_ok (s := sx) (k := q) hxd (by rw [hxb]; omega)
      refine Ls_call Try.func18 nm18 rfl rfl (Read_c w wr2 _ b0 sx hs (fun r hr => (hbl r (by rw [← hxb]; exact hr)).2) (q : Int)) rfl ?_
      rintro v105 w106 ⟨Ar, cr, rfl, hs⟩
      rw [hxb] at hrd2
      rw [hrd2.1] at hs ⊢
      rw [hrd2.2.1]
      obtain ⟨s8, hs8⟩ : ∃ x, x = (dread sx (q : Int)).2.2 := ⟨_, rfl⟩
      rw [← hs8] at hs hrd2
      refine Ls_run (run_move rfl) rfl ?_
      refine Ls_run (run_extract rfl rfl) rfl ?_
      refine Ls_run (run_extract rfl rfl) rfl ?_
      refine Ls_run (run_assign rfl) rfl ?_
      refine Ls_run (run_assign rfl) rfl ?_
      refine Ls_nil ?_
      refine Jm_seq ?_
      refine St_seq ?_
      refine St_draw (fun x => Below w106.heap.size w106 x) mixed ?_
      intro w107 q108
      have hH := q108.below
      replace hs := hs.quiet q108
      refine An_grow hH ?_
      replace hH := Below.refl w107.heap.size w107
      refine An_take 0 rfl (by kernel_rfl) (by kernel_rfl) (by kernel_rfl) (fun _ _ _ h => h) hH (fun x hx => run_move rfl) rfl ?_
      refine An_take 1 rfl (by kernel_rfl) (by kernel_rfl) (by kernel_rfl) (fun _ _ _ h => h) hH (fun x hx => run_asB (c := false) (run_neq rfl rfl) (by decide)) rfl ?_
      refine An_take 2 rfl (by kernel_rfl) (by kernel_rfl) (by kernel_rfl) (fun _ _ _ h => h) hH (fun x hx => run_move rfl) rfl ?_
      refine An_take_on 3 rfl (by kernel_rfl) (by kernel_rfl) (by kernel_rfl) rfl rfl (fun _ _ _ h => h) hH (fun x hx => run_move rfl) rfl ?_
      refine An_take_on 4 rfl (by kernel_rfl) (by kernel_rfl) (by kernel_rfl) rfl rfl (fun _ _ _ h => h) hH (fun x hx => run_string Try.underlying31 Try.underlying5 Try.underlying9 rfl ((hs.rd_at 1 rfl).grow hx)) rfl ?_
      refine An_take_on 5 rfl (by kernel_rfl) (by kernel_rfl) (by kernel_rfl) rfl rfl (fun _ _ _ h => h) hH (fun x hx => run_move rfl) rfl ?_
      refine An_take_on 6 rfl (by kernel_rfl) (by kernel_rfl) (by kernel_rfl) rfl rfl (fun _ _ _ h => h) hH (fun x hx => run_move rfl) rfl ?_
      obtain ⟨Aq, nq, cq, hvq, hrq⟩ := hpw.2 q (by omega)
      rw [← bytesV_flat] at hrq
      refine An_index_on 7  (El.val) rfl (by kernel_rfl) (by kernel_rfl) (by kernel_rfl) rfl rfl (fun _ _ _ _ h => h) hH (fun x hx => ((hs.rd_at 2 rfl).grow hx)) Try.underlying28 inf31 rfl rfl (by omega) (by omega) hvq rfl ?_
      intro b109 o110 hc111
      refine An_take_on 8 rfl (by kernel_rfl) (by kernel_rfl) (by kernel_rfl) rfl rfl (fun _ _ _ h => h) hH (fun x hx => run_load sc31 rfl ((hc111 x hx) 0 _ rfl)) rfl ?_
      refine An_take_on 9 rfl (by kernel_rfl) (by kernel_rfl) (by kernel_rfl) rfl rfl (fun _ _ _ h => h) hH (fun x hx => run_string Try.underlying31 Try.underlying5 Try.underlying9 rfl ((hrq.inB hs).grow hx)) rfl ?_
      refine An_take_on 10 rfl (by kernel_rfl) (by kernel_rfl) (by kernel_rfl) rfl rfl (fun _ _ _ h => h) hH (fun x hx => run_asB (c := false) (run_neq_str rfl rfl) (by simp)) rfl ?_
      refine An_take 11 rfl (by kernel_rfl) (by kernel_rfl) (by kernel_rfl) (fun _ _ _ h => h) hH (fun x hx => run_pick_f rfl rfl) rfl ?_
      refine An_done (by kernel_rfl) ?_
      refine Jm_seq ?_
      refine St_iff rfl ?_
      refine St_skip ?_
      refine Jm_block_normal (Jm_seq ?_)
      refine St_region ?_
      refine Ls_run (run_move rfl) rfl ?_
      refine Ls_run (run_add rfl rfl (w64 (by omega))) rfl ?_
      refine Ls_run (run_assign rfl) rfl ?_
      refine Ls_nil ?_
      replace hs := hs.erase 1
      simp only [List.cons_append, List.nil_append, List.eraseIdx_cons_zero, List.eraseIdx_cons_succ] at hs
      refine Jm_round (q + 1, s8) ?_ ?_ ?_
      · rw [hEn100]; exact (subE_cons rfl (subE_cons rfl (subE_cons rfl subE_nil)))
      · skip
        rw [hIv101]
        exact ⟨hs, by omega, by rw [hrd2.2.2.1]; exact hxd, by rw [hrd2.2.2.2.1]; exact hxa, hrd2.2.2.2.2⟩
      · skip
        rw [hms102, hms102]
        omega
    · skip
      refine St_exit ?_
      refine Jm_then_exit (Jm_then_exit (Jm_block_same (Jm_seq ?_)))
      refine St_seq ?_
      refine St_region ?_
      refine Ls_run (run_move rfl) rfl ?_
      refine Ls_literal [_, _] hs Try.underlying31 inf5 rfl rfl rfl rfl rfl rfl ?_
      intro b113 w114 hs
      simp only [List.flatMap_cons, List.flatMap_nil, Value.cells, List.cons_append, List.nil_append] at hs
      refine Ls_stringish hs Try.underlying31 Try.underlying5 rfl rfl ?_
      intro w115 hs
      replace hs := hs.front 1 rfl
      simp only [List.cons_append, List.nil_append, List.eraseIdx_cons_zero, List.eraseIdx_cons_succ] at hs
      have hgo := dwrite_goes (s := sx) (k := 0) (l := [111, 110]) hxd (by rw [hxb]; omega) (by decide) (fun q => by rw [hxa] at q; cases q.1)
      refine Ls_call Try.func17 nm17 rfl rfl (Write_c w w115 _ b0 sx hs (fun r hr => (hbl r (by rw [← hxb]; exact hr)).2) ((0 : Nat) : Int) _ 2 2 [111, 110] (fun w' X q => rd_block (q.is_at 1 rfl).2 1 2 rfl) (by decide)) rfl ?_
      rintro v116 w117 ⟨rfl, hs⟩
      rw [hgo] at hs ⊢
      refine Ls_run (run_asB (c := true) (run_eql rfl rfl) (by simp)) rfl ?_
      refine Ls_run (run_move rfl) rfl ?_
      refine Ls_on rfl rfl ?_
      refine Ls_run (run_move rfl) rfl ?_
      refine Ls_on rfl rfl ?_
      obtain ⟨A0, c0, hd0⟩ := hs.dhd
      refine Ls_call Try.func16 nm16 rfl rfl (Down_c w117 b0 _ A0 c0 hd0) rfl ?_
      rintro v118 w119 ⟨rfl, rfl⟩
      rw [(show DSt.down _ = false from hxd)]
      refine Ls_on rfl rfl ?_
      refine Ls_run (run_not rfl) rfl ?_
      refine Ls_run (run_pick_t rfl rfl) rfl ?_
      refine Ls_run (run_assign rfl) rfl ?_
      refine Ls_nil ?_
      refine Jm_seq ?_
      refine St_ret ?_
      refine Jm_ret1 rfl rfl ?_
      exact ⟨_, rfl, rfl, hs.below⟩
end Go.Proofs.Ytpmkedgennnekaa.Lg
