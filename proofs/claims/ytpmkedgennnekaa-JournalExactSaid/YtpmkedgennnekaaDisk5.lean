/-
  The law DiskLast, walked. By program (gen/disk5.py).
-/
import Derived.Test.YtpmkedgennnekaaDisk4
set_option linter.unusedVariables false
set_option linter.unusedSimpArgs false
namespace Go.Proofs.Ytpmkedgennnekaa.Lg
open Go Go.RowKit
/-- A block's number and its bytes. -/
def KPut : El (Int × Option Addr × Nat × Nat) := ⟨2, fun o => [.int .i64 o.1, .slice o.2.1 o.2.2.1 o.2.2.2], (0, none, 0, 0), fun _ => rfl⟩
def KBool : El Bool := ⟨1, fun b => [.bool b], false, fun _ => rfl⟩
def PutOk (w : World) (x : Int × Option Addr × Nat × Nat) : Prop := (-9223372036854775808 ≤ x.1 ∧ x.1 ≤ 9223372036854775807) ∧ ∃ l, Rd w x.2.1 x.2.2.1 x.2.2.2 1 (bytesV l) ∧ IsBytes l
theorem rem_nn (a b : Nat) : Int.tmod (a : Int) (b : Int) = ((a % b : Nat) : Int) := by
  rw [Int.tmod_eq_emod_of_nonneg (Int.natCast_nonneg a)]; simp
theorem u64_nat (i : Int) : ∃ u : Nat, IntKind.u64.wrap i = (u : Int) ∧ u < 18446744073709551616 := by
  refine ⟨(IntKind.u64.wrap i).toNat, ?_, ?_⟩ <;> rw [IntKind.wrap_u64] <;> omega
theorem PartsK.set {w : World} {vs : List Value} {xss : List (List Int)} {A : Option Addr} {n c k : Nat} {l : List Int} (h : PartsK (El.int .u8) w vs xss) (hr : Rd w A n c 1 (bytesV l)) (hk : k < xss.length) : PartsK (El.int .u8) w (vs.set k (.slice A n c)) (xss.set k l) :=
  ⟨by simp [h.1], fun i hi => by
    have h1 := h.1
    simp only [List.length_set] at hi
    by_cases e : k = i
    · subst e
      have e1 : (vs.set k (Value.slice A n c)).getD k nilV = .slice A n c := by simp [List.getD_eq_getElem?_getD, show k < vs.length by omega]
      have e2 : (xss.set k l).getD k [] = l := by simp [List.getD_eq_getElem?_getD, hk]
      rw [e1, e2]; exact ⟨A, n, c, rfl, by rw [← bytesV_flat]; exact hr⟩
    · have e1 : (vs.set k (Value.slice A n c)).getD i nilV = vs.getD i nilV := by simp [List.getD_eq_getElem?_getD, List.getElem?_set_ne e]
      have e2 : (xss.set k l).getD i [] = xss.getD i [] := by simp [List.getD_eq_getElem?_getD, List.getElem?_set_ne e]
      rw [e1, e2]; exact h.2 i hi⟩
theorem PartsK.empty (w : World) (m : Nat) : PartsK (El.int .u8) w (List.replicate m nilV) (dnew m).bl :=
  ⟨by simp [dnew], fun i hi => by
    have hi' : i < m := by simpa [dnew] using hi
    refine ⟨none, 0, 0, ?_, ?_⟩
    · rw [List.getD_eq_getElem?_getD, List.getElem?_replicate, if_pos hi']; rfl
    · have e : (dnew m).bl.getD i [] = [] := by
        unfold dnew
        rw [List.getD_eq_getElem?_getD, List.getElem?_replicate, if_pos hi']; rfl
      rw [e]; exact Rd.none w 1⟩
theorem getElem_mem3 {α : Type} {l : List α} {d : α} {i : Nat} (h : i < l.length) : l.getD i d ∈ l := by
  rw [List.getD_eq_getElem?_getD, List.getElem?_eq_getElem h]; exact List.getElem_mem _
theorem set_mem {P : List Int → Prop} {bl : List (List Int)} {k : Nat} {l : List Int} (h : ∀ r ∈ bl, P r) (hl : P l) : ∀ r ∈ bl.set k l, P r := by
  intro r hr
  rcases List.mem_or_eq_of_mem_set hr with hr | rfl
  · exact h r hr
  · exact hl
theorem dwrite_ok {s : DSt} {k : Nat} {l : List Int} (h1 : s.down = false) (h2 : s.armed = false) (hk : k < s.bl.length) (hl : l.length ≤ 1024) :
    (dwrite s (k : Int) l).1 = 0 ∧ (dwrite s (k : Int) l).2.down = false ∧ (dwrite s (k : Int) l).2.armed = false ∧ (dwrite s (k : Int) l).2.bl = s.bl.set k l := by
  have hc : dcheck s (k : Int) = 0 := by unfold dcheck; rw [if_neg (by simp [h1]), if_neg (by omega)]
  unfold dwrite
  rw [if_neg (by omega), if_neg (by omega), if_neg (by simp [h2])]
  exact ⟨rfl, h1, h2, rfl⟩
theorem dwrite_down {s : DSt} {i : Int} {l : List Int} (h1 : s.down = true) : dwrite s i l = (80, s) := by
  have hc : dcheck s i = 80 := by unfold dcheck; rw [if_pos h1]
  unfold dwrite
  rw [if_pos (by omega), hc]
theorem dread_ok {s : DSt} {k : Nat} (h1 : s.down = false) (hk : k < s.bl.length) :
    (dread s (k : Int)).1 = s.bl.getD k [] ∧ (dread s (k : Int)).2.1 = 0 ∧ (dread s (k : Int)).2.2.down = s.down ∧ (dread s (k : Int)).2.2.armed = s.armed ∧ (dread s (k : Int)).2.2.bl = s.bl := by
  have hc : dcheck s (k : Int) = 0 := by unfold dcheck; rw [if_neg (by simp [h1]), if_neg (by omega)]
  unfold dread
  rw [if_pos hc]
  exact ⟨rfl, rfl, rfl, rfl, rfl⟩
set_option maxRecDepth 100000 in
set_option maxHeartbeats 4000000 in
theorem DiskLast_c (w : World) (A : Option Addr) (n c : Nat) (pl : List (Int × Option Addr × Nat × Nat)) (A2 : Option Addr) (n2 c2 : Nat) (ol : List Bool) (hr : Rd w A n c 2 (KPut.flat pl)) (hput : ∀ x ∈ pl, PutOk w x) (hr2 : Rd w A2 n2 c2 1 (KBool.flat ol)) (hn : n ≤ 9223372036854775807) (hn2 : n2 ≤ 9223372036854775807) :
    Calls Try.prog 4 [.slice A n c, .slice A2 n2 c2].toArray w (Ret (fun v' w' => v' = .bool true ∧ Below w.heap.size w w')) := by
  have hs := Sat.start w
  have hl : pl.length = n := by have := hr.len; rw [El.flat_length] at this; exact Nat.eq_of_mul_eq_mul_right (by decide) this
  have hl2 : ol.length = n2 := by have := hr2.len; rw [El.flat_length] at this; exact Nat.eq_of_mul_eq_mul_right (by decide) this
  refine Calls_body Try.func4 rfl rfl rfl (envE_cons (i := 0) (v := .slice A n c) rfl (envE_cons (i := 1) (v := .slice A2 n2 c2) rfl envE_nil)) ?_
  refine St_seq ?_
  refine St_region ?_
  refine Ls_run (run_assign rfl) rfl ?_
  refine Ls_nil ?_
  refine Jm_seq ?_
  refine St_seq ?_
  refine St_seq ?_
  refine St_region ?_
  refine Ls_call Try.func12 nm12 rfl rfl (dawake_c w) rfl ?_
  rintro v1 w2 ⟨rfl, hsA3⟩
  replace hs := hs.trans hsA3
  refine Ls_run (run_not rfl) rfl ?_
  refine Ls_nil ?_
  refine Jm_seq ?_
  refine St_iff rfl ?_
  refine St_skip ?_
  refine Jm_seq ?_
  refine St_seq ?_
  refine St_region ?_
  try simp only [List.nil_append] at hs
  refine Ls_call Try.func13 nm13 rfl rfl (New_c w2 5 (by decide) (by decide)) rfl ?_
  rintro v5 w6 ⟨b0, rfl, hsD⟩
  replace hs := hs.trans hsD
  simp only [List.cons_append, List.nil_append] at hs
  refine Ls_run (run_move rfl) rfl ?_
  refine Ls_run (run_extract rfl rfl) rfl ?_
  refine Ls_run (run_extract rfl rfl) rfl ?_
  refine Ls_run (run_assign rfl) rfl ?_
  refine Ls_run (run_assign rfl) rfl ?_
  refine Ls_nil ?_
  refine Jm_seq ?_
  refine St_seq ?_
  refine St_seq ?_
  refine St_region ?_
  refine Ls_run (run_move rfl) rfl ?_
  refine Ls_run (run_asB (c := false) (run_neq rfl rfl) (by decide)) rfl ?_
  refine Ls_run (run_move rfl) rfl ?_
  refine Ls_on rfl rfl ?_
  refine Ls_run (run_move rfl) rfl ?_
  refine Ls_on rfl rfl ?_
  refine Ls_run (run_asB (c := false) (run_eql_ptr_nil Try.underlying24 rfl rfl) rfl) rfl ?_
  refine Ls_run (run_pick_f rfl rfl) rfl ?_
  refine Ls_nil ?_
  refine Jm_seq ?_
  refine St_iff rfl ?_
  refine St_skip ?_
  refine Jm_seq ?_
  refine St_seq ?_
  refine St_region ?_
  refine Ls_make (m := 5) hs Try.underlying28 infq31 rfl rfl rfl (by omega) (by omega) rfl ?_
  intro b8 w9 hs
  refine Ls_run (run_assign rfl) rfl ?_
  refine Ls_nil ?_
  refine Jm_seq ?_
  refine St_seq ?_
  refine St_seq ?_
  refine St_region ?_
  refine Ls_run (run_assign rfl) rfl ?_
  refine Ls_nil ?_
  refine Jm_seq ?_
  refine St_block ?_
  replace hs := hs.front 1 rfl
  simp only [List.cons_append, List.nil_append, List.eraseIdx_cons_zero, List.eraseIdx_cons_succ] at hs
  obtain ⟨En10, hEn10⟩ : ∃ F : Nat × DSt × List Value → Env, ∀ (i : Nat) (st : DSt) (ws : List Value), F (i, st, ws) = [(0, .slice A n c), (1, .slice A2 n2 c2), (5, .pointer (some ⟨b0, 0, none⟩)), (7, .slice (some ⟨b8, 0, none⟩) 5 5), (8, .int .i64 (i : Int))] := ⟨(fun (s : Nat × DSt × List Value) => match s with | (i, st, ws) => [(0, .slice A n c), (1, .slice A2 n2 c2), (5, .pointer (some ⟨b0, 0, none⟩)), (7, .slice (some ⟨b8, 0, none⟩) 5 5), (8, .int .i64 (i : Int))]), fun _ _ _ => rfl⟩
  obtain ⟨Iv11, hIv11⟩ : ∃ F : Nat × DSt × List Value → World → Prop, ∀ (i : Nat) (st : DSt) (ws : List Value) (wr : World), F (i, st, ws) wr = (Sat w wr [DiskA 85 31 5 b0 st, Own 31 1 (.slice (some ⟨b8, 0, none⟩) 5 5) 5 (El.val.flat ws)] ∧ i ≤ n ∧ st.down = false ∧ st.armed = false ∧ st.bl.length = 5 ∧ PartsK (El.int .u8) w ws st.bl ∧ (∀ r ∈ st.bl, IsBytes r ∧ r.length ≤ 1024) ∧ ws.length = 5) := ⟨(fun (s : Nat × DSt × List Value) => match s with | (i, st, ws) => fun (wr : World) => Sat w wr [DiskA 85 31 5 b0 st, Own 31 1 (.slice (some ⟨b8, 0, none⟩) 5 5) 5 (El.val.flat ws)] ∧ i ≤ n ∧ st.down = false ∧ st.armed = false ∧ st.bl.length = 5 ∧ PartsK (El.int .u8) w ws st.bl ∧ (∀ r ∈ st.bl, IsBytes r ∧ r.length ≤ 1024) ∧ ws.length = 5), fun _ _ _ _ => rfl⟩
  obtain ⟨ms12, hms12⟩ : ∃ F : Nat × DSt × List Value → Nat, ∀ (i : Nat) (st : DSt) (ws : List Value), F (i, st, ws) = (n - i) := ⟨(fun (s : Nat × DSt × List Value) => match s with | (i, st, ws) => n - i), fun _ _ _ => rfl⟩
  refine St_loop En10 Iv11 ms12 (0, dnew 5, List.replicate 5 nilV) ?_ ?_ ?_
  · skip
    rw [hIv11]
    refine ⟨by rw [El.val_flat]; exact hs, by omega, rfl, rfl, rfl, PartsK.empty w 5, ?_, rfl⟩
    intro r hr0; simp [dnew] at hr0; subst hr0; exact ⟨by simp [IsBytes], by simp⟩
  · rw [hEn10]; exact (subE_cons rfl (subE_cons rfl (subE_cons rfl (subE_cons rfl (subE_cons rfl subE_nil)))))
  rintro ⟨i, st, ws⟩ wr hI13
  rw [hIv11] at hI13
  obtain ⟨hs, hi, hdn, har, hln, hpw, hbl, hws⟩ := hI13
  refine St_eqE (hEn10 _ _ _) ?_
  refine St_seq ?_
  refine St_seq ?_
  refine St_region ?_
  refine Ls_run (run_move rfl) rfl ?_
  refine Ls_run (run_move rfl) rfl ?_
  refine Ls_run (run_len Try.underlying22 rfl) rfl ?_
  refine Ls_run (run_lss rfl rfl) rfl ?_
  refine Ls_run (run_move rfl) rfl ?_
  refine Ls_partP (t := 30) rfl (fun h14 => ?_) (fun h14 => ?_)
  · skip
    refine Ls_on rfl rfl ?_
    refine Ls_run (run_move rfl) rfl ?_
    refine Ls_on rfl rfl ?_
    refine Ls_run (run_lss rfl rfl) rfl ?_
    refine Ls_run (run_pick_t rfl rfl) rfl ?_
    refine Ls_nil ?_
    refine Jm_seq ?_
    refine St_ifP rfl (fun h15 => ?_) (fun h15 => ?_)
    · skip
      refine St_skip ?_
      refine Jm_seq ?_
      refine St_seq ?_
      refine St_block ?_
      refine St_seq ?_
      refine St_region ?_
      refine Ls_run (run_move rfl) rfl ?_
      refine Ls_run (run_move rfl) rfl ?_
      obtain ⟨⟨pi, Ai, ni, ci⟩, ho⟩ : ∃ o, pl.getD i (0, none, 0, 0) = o := ⟨_, rfl⟩
      have hmem : (pi, Ai, ni, ci) ∈ pl := by rw [← ho]; exact getElem_mem3 (by omega)
      obtain ⟨hpi, l, hri, hbs⟩ := hput _ hmem
      simp only at hpi hri
      obtain ⟨u, hu, hu2⟩ := u64_nat pi
      obtain ⟨k, hk0⟩ : ∃ q, q = u % 5 := ⟨_, rfl⟩
      have hk5 : k < 5 := by omega
      have hll := rdB_len hri
      have hcapi := hri.cap
      obtain ⟨m, hm0⟩ : ∃ q, q = min ni 1024 := ⟨_, rfl⟩
      refine Ls_index (KPut) (hr.inB hs) Try.underlying22 inf33 rfl rfl (by omega) (by omega) ho rfl ?_
      intro b16 o17 hc18
      refine Ls_run (run_field Try.underlying33 rfl inf3 (by decide) rfl) rfl ?_
      refine Ls_run (run_as (run_load sc3 rfl (hc18 0 _ rfl)) (show _ = Value.int .i64 pi from rfl)) rfl ?_
      refine Ls_run (run_as (run_conv_int Try.underlying30 us3 rfl rfl) (show _ = Value.int .u64 (u : Int) by rw [← hu])) rfl ?_
      refine Ls_run (run_rem rfl rfl (by decide) (show _ = (k : Int) by rw [hk0]; exact rem_nn u 5)) rfl ?_
      refine Ls_run (run_conv_int Try.underlying3 us30 rfl (w64 (by omega))) rfl ?_
      refine Ls_run (run_assign rfl) rfl ?_
      refine Ls_nil ?_
      refine Jm_seq ?_
      refine St_seq ?_
      refine St_region ?_
      refine Ls_run (run_move rfl) rfl ?_
      refine Ls_run (run_move rfl) rfl ?_
      refine Ls_index (KPut) (hr.inB hs) Try.underlying22 inf33 rfl rfl (by omega) (by omega) ho rfl ?_
      intro b19 o20 hc21
      refine Ls_run (run_field Try.underlying33 rfl inf31 (by decide) rfl) rfl ?_
      refine Ls_run (run_as (run_load sc31 rfl (hc21 1 _ rfl)) (show _ = Value.slice Ai ni ci from rfl)) rfl ?_
      refine Ls_call Try.func15 nm15 rfl rfl (laid_c wr Ai ni ci hcapi) rfl ?_
      rintro v22 w23 ⟨rfl, rfl⟩
      rw [← hm0]
      have hmn : m ≤ ni := by omega
      refine Ls_run (run_assign rfl) rfl ?_
      refine Ls_nil ?_
      refine Jm_seq ?_
      refine St_seq ?_
      refine St_seq ?_
      refine St_region ?_
      refine Ls_run (run_move rfl) rfl ?_
      refine Ls_run (run_move rfl) rfl ?_
      refine Ls_run (run_move rfl) rfl ?_
      have hwo := dwrite_ok (l := l.take m) hdn har (show k < st.bl.length by omega) (by rw [List.length_take]; omega)
      refine Ls_call Try.func17 nm17 rfl rfl (Write_c w wr _ b0 st hs (fun r hr => (hbl r hr).2) (k : Int) Ai m ci (l.take m) (fun w' X q => (rdB_take hri m (by omega)).inB q) (by omega)) rfl ?_
      rintro v24 w25 ⟨rfl, hs⟩
      rw [hwo.1]
      obtain ⟨s2, hs2⟩ : ∃ q, q = (dwrite st (k : Int) (l.take m)).2 := ⟨_, rfl⟩
      rw [← hs2] at hs hwo
      obtain ⟨_, hd2, ha2, hb2⟩ := hwo
      have hbl2 : ∀ r ∈ s2.bl, IsBytes r ∧ r.length ≤ 1024 := by rw [hb2]; exact set_mem hbl ⟨fun q hq => hbs q (List.mem_of_mem_take hq), by rw [List.length_take]; omega⟩
      have hln2 : s2.bl.length = 5 := by rw [hb2, List.length_set]; exact hln
      refine Ls_run (run_asB (c := false) (run_neq rfl rfl) (by decide)) rfl ?_
      refine Ls_nil ?_
      refine Jm_seq ?_
      refine St_iff rfl ?_
      refine St_skip ?_
      refine Jm_seq ?_
      refine St_seq ?_
      refine St_region ?_
      refine Ls_run (run_move rfl) rfl ?_
      refine Ls_run (run_move rfl) rfl ?_
      refine Ls_run (run_move rfl) rfl ?_
      refine Ls_run (run_index Try.underlying28 inf31 rfl rfl rfl (by omega) (by omega)) rfl ?_
      replace hs := hs.front 1 rfl
      simp only [List.cons_append, List.nil_append, List.eraseIdx_cons_zero, List.eraseIdx_cons_succ] at hs
      refine Ls_storeOwn hs inf31 rfl rfl rfl (by omega) ?_
      intro w27 hs
      refine Ls_nil ?_
      refine Jm_seq ?_
      refine St_seq ?_
      refine St_seq ?_
      refine St_region ?_
      refine Ls_run (run_move rfl) rfl ?_
      refine Ls_run (run_move rfl) rfl ?_
      refine Ls_run (run_len Try.underlying42 rfl) rfl ?_
      refine Ls_run (run_lss rfl rfl) rfl ?_
      refine Ls_run (run_move rfl) rfl ?_
      refine Ls_partP (t := 63) rfl (fun h28 => ?_) (fun h28 => ?_)
      · skip
        refine Ls_on rfl rfl ?_
        refine Ls_run (run_move rfl) rfl ?_
        refine Ls_on rfl rfl ?_
        refine Ls_run (run_move rfl) rfl ?_
        refine Ls_on rfl rfl ?_
        refine Ls_index (KBool) (hr2.inB hs) Try.underlying42 inf4 rfl rfl (by omega) (by omega) rfl rfl ?_
        intro b29 o30 hc31
        refine Ls_on rfl rfl ?_
        refine Ls_run (run_load sc4 rfl (hc31 0 _ rfl)) rfl ?_
        refine Ls_run (run_pick_t rfl rfl) rfl ?_
        refine Ls_nil ?_
        refine Jm_seq ?_
        refine St_if rfl (fun h32 => ?_) (fun h32 => ?_)
        · skip
          refine St_seq ?_
          refine St_region ?_
          refine Ls_run (run_move rfl) rfl ?_
          replace hs := hs.front 1 rfl
          simp only [List.cons_append, List.nil_append, List.eraseIdx_cons_zero, List.eraseIdx_cons_succ] at hs
          obtain ⟨vs0, A0, c0, hv0, hs⟩ := hs.dopen
          refine Ls_call Try.func23 nm23 rfl rfl (Off_c w w27 _ b0 s2 A0 c0 hs) rfl ?_
          rintro v33 w34 ⟨rfl, hs⟩
          replace hs := Sat.dshut (s := doff s2) hv0 hs
          obtain ⟨s3, hs3⟩ : ∃ q, q = doff s2 := ⟨_, rfl⟩
          rw [← hs3] at hs
          refine Ls_nil ?_
          refine Jm_seq ?_
          refine St_seq ?_
          refine St_seq ?_
          refine St_region ?_
          refine Ls_run (run_move rfl) rfl ?_
          refine Ls_run (run_move rfl) rfl ?_
          refine Ls_literal [_, _, _, _] hs Try.underlying31 inf5 rfl rfl rfl rfl rfl rfl ?_
          intro b35 w36 hs
          simp only [List.flatMap_cons, List.flatMap_nil, Value.cells, List.cons_append, List.nil_append] at hs
          refine Ls_stringish hs Try.underlying31 Try.underlying5 rfl rfl ?_
          intro w37 hs
          replace hs := hs.front 1 rfl
          simp only [List.cons_append, List.nil_append, List.eraseIdx_cons_zero, List.eraseIdx_cons_succ] at hs
          have hd3 : s3.down = true := by rw [hs3]; rfl
          have hb3 : s3.bl = s2.bl := by rw [hs3]; rfl
          have hwd := dwrite_down (i := (k : Int)) (l := [108, 111, 115, 116]) hd3
          refine Ls_call Try.func17 nm17 rfl rfl (Write_c w w37 _ b0 s3 hs (fun r hr => (hbl2 r (by rw [← hb3]; exact hr)).2) (k : Int) _ 4 4 [108, 111, 115, 116] (fun w' X q => rd_block (q.is_at 1 rfl).2 1 4 rfl) (by decide)) rfl ?_
          rintro v38 w39 ⟨rfl, hs⟩
          rw [hwd] at hs ⊢
          refine Ls_run (run_asB (c := false) (run_neq rfl rfl) (by simp)) rfl ?_
          refine Ls_nil ?_
          refine Jm_seq ?_
          refine St_iff rfl ?_
          refine St_skip ?_
          refine Jm_seq ?_
          refine St_region ?_
          refine Ls_run (run_move rfl) rfl ?_
          obtain ⟨vs0, A0, c0, hv0, hs⟩ := hs.dopen
          refine Ls_call Try.func22 nm22 rfl rfl (On_c w w39 _ b0 s3 A0 c0 hs) rfl ?_
          rintro v41 w42 ⟨rfl, hs⟩
          replace hs := Sat.dshut (s := don s3) hv0 hs
          obtain ⟨s4, hs4⟩ : ∃ q, q = don s3 := ⟨_, rfl⟩
          rw [← hs4] at hs
          refine Ls_nil ?_
          refine Jm_seq ?_
          refine St_seq ?_
          refine St_region ?_
          refine Ls_run (run_move rfl) rfl ?_
          refine Ls_run (run_move rfl) rfl ?_
          have hb3 : s3.bl = s2.bl := by rw [hs3]; rfl
          have hdc : s4.down = false ∧ s4.armed = false ∧ s4.bl = s2.bl := by rw [hs4]; exact ⟨rfl, rfl, hb3⟩
          have hrd := dread_ok (k := k) hdc.1 (by rw [hdc.2.2]; omega)
          refine Ls_call Try.func18 nm18 rfl rfl (Read_c w w42 _ b0 s4 hs (fun r hr => (hbl2 r (by rw [← hdc.2.2]; exact hr)).2) (k : Int)) rfl ?_
          rintro v43 w44 ⟨Ar, cr, rfl, hs⟩
          have hg : s2.bl.getD k [] = l.take m := by rw [hb2]; simp [List.getD_eq_getElem?_getD, show k < st.bl.length by omega]
          rw [hdc.2.2, hg] at hrd
          rw [hrd.1] at hs ⊢
          rw [hrd.2.1]
          obtain ⟨s5, hs5⟩ : ∃ q, q = (dread s4 (k : Int)).2.2 := ⟨_, rfl⟩
          rw [← hs5] at hs hrd
          have hlt : (l.take m).length = m := by rw [List.length_take]; omega
          refine Ls_run (run_move rfl) rfl ?_
          refine Ls_run (run_extract rfl rfl) rfl ?_
          refine Ls_run (run_extract rfl rfl) rfl ?_
          refine Ls_run (run_assign rfl) rfl ?_
          refine Ls_run (run_assign rfl) rfl ?_
          refine Ls_nil ?_
          refine Jm_seq ?_
          refine St_seq ?_
          refine St_region ?_
          refine Ls_run (run_move rfl) rfl ?_
          refine Ls_run (run_asB (c := false) (run_neq rfl rfl) (by decide)) rfl ?_
          refine Ls_run (run_move rfl) rfl ?_
          refine Ls_on rfl rfl ?_
          refine Ls_run (run_move rfl) rfl ?_
          refine Ls_on rfl rfl ?_
          refine Ls_run (run_string Try.underlying31 Try.underlying5 Try.underlying9 rfl (hs.rd_at 1 rfl)) rfl ?_
          refine Ls_on rfl rfl ?_
          refine Ls_run (run_move rfl) rfl ?_
          refine Ls_on rfl rfl ?_
          refine Ls_run (run_string Try.underlying31 Try.underlying5 Try.underlying9 rfl ((rdB_take hri m hmn).inB hs)) rfl ?_
          refine Ls_on rfl rfl ?_
          refine Ls_run (run_asB (c := false) (run_neq_str rfl rfl) (by simp)) rfl ?_
          refine Ls_run (run_pick_f rfl rfl) rfl ?_
          refine Ls_nil ?_
          refine Jm_seq ?_
          refine St_iff rfl ?_
          refine St_skip ?_
          refine Jm_block_normal (Jm_seq ?_)
          refine St_region ?_
          refine Ls_run (run_move rfl) rfl ?_
          refine Ls_run (run_add rfl rfl (w64 (by omega))) rfl ?_
          refine Ls_run (run_assign rfl) rfl ?_
          refine Ls_nil ?_
          replace hs := hs.erase 1
          simp only [List.cons_append, List.nil_append, List.eraseIdx_cons_zero, List.eraseIdx_cons_succ] at hs
          replace hs := hs.erase 1
          simp only [List.cons_append, List.nil_append, List.eraseIdx_cons_zero, List.eraseIdx_cons_succ] at hs
          refine Jm_round (i + 1, s5, ws.set k (Value.slice Ai m ci)) ?_ ?_ ?_
          · rw [hEn10]; exact (subE_cons rfl (subE_cons rfl (subE_cons rfl (subE_cons rfl (subE_cons rfl subE_nil)))))
          · skip
            rw [hIv11]
            refine ⟨?_, by omega, by rw [hrd.2.2.1]; exact hdc.1, by rw [hrd.2.2.2.1]; exact hdc.2.1, by rw [hrd.2.2.2.2]; exact hln2, ?_, by rw [hrd.2.2.2.2]; exact hbl2, by rw [List.length_set]; exact hws⟩
            · simp only [Nat.zero_add, Nat.mul_one, Int.toNat_natCast, El.val_flat] at hs ⊢; exact hs
            · rw [hrd.2.2.2.2, hb2]; exact hpw.set (rdB_take hri m (by omega)) (by omega)
          · skip
            rw [hms12, hms12]
            omega
        · skip
          refine St_skip ?_
          refine Jm_seq ?_
          refine St_seq ?_
          refine St_region ?_
          refine Ls_run (run_move rfl) rfl ?_
          refine Ls_run (run_move rfl) rfl ?_
          replace hs := hs.front 1 rfl
          simp only [List.cons_append, List.nil_append, List.eraseIdx_cons_zero, List.eraseIdx_cons_succ] at hs
          have hdc : s2.down = false ∧ s2.armed = false ∧ s2.bl = s2.bl := ⟨hd2, ha2, rfl⟩
          have hrd := dread_ok (k := k) hdc.1 (by rw [hdc.2.2]; omega)
          refine Ls_call Try.func18 nm18 rfl rfl (Read_c w w27 _ b0 s2 hs (fun r hr => (hbl2 r (by rw [← hdc.2.2]; exact hr)).2) (k : Int)) rfl ?_
          rintro v46 w47 ⟨Ar, cr, rfl, hs⟩
          have hg : s2.bl.getD k [] = l.take m := by rw [hb2]; simp [List.getD_eq_getElem?_getD, show k < st.bl.length by omega]
          rw [hdc.2.2, hg] at hrd
          rw [hrd.1] at hs ⊢
          rw [hrd.2.1]
          obtain ⟨s5, hs5⟩ : ∃ q, q = (dread s2 (k : Int)).2.2 := ⟨_, rfl⟩
          rw [← hs5] at hs hrd
          have hlt : (l.take m).length = m := by rw [List.length_take]; omega
          refine Ls_run (run_move rfl) rfl ?_
          refine Ls_run (run_extract rfl rfl) rfl ?_
          refine Ls_run (run_extract rfl rfl) rfl ?_
          refine Ls_run (run_assign rfl) rfl ?_
          refine Ls_run (run_assign rfl) rfl ?_
          refine Ls_nil ?_
          refine Jm_seq ?_
          refine St_seq ?_
          refine St_region ?_
          refine Ls_run (run_move rfl) rfl ?_
          refine Ls_run (run_asB (c := false) (run_neq rfl rfl) (by decide)) rfl ?_
          refine Ls_run (run_move rfl) rfl ?_
          refine Ls_on rfl rfl ?_
          refine Ls_run (run_move rfl) rfl ?_
          refine Ls_on rfl rfl ?_
          refine Ls_run (run_string Try.underlying31 Try.underlying5 Try.underlying9 rfl (hs.rd_at 1 rfl)) rfl ?_
          refine Ls_on rfl rfl ?_
          refine Ls_run (run_move rfl) rfl ?_
          refine Ls_on rfl rfl ?_
          refine Ls_run (run_string Try.underlying31 Try.underlying5 Try.underlying9 rfl ((rdB_take hri m hmn).inB hs)) rfl ?_
          refine Ls_on rfl rfl ?_
          refine Ls_run (run_asB (c := false) (run_neq_str rfl rfl) (by simp)) rfl ?_
          refine Ls_run (run_pick_f rfl rfl) rfl ?_
          refine Ls_nil ?_
          refine Jm_seq ?_
          refine St_iff rfl ?_
          refine St_skip ?_
          refine Jm_block_normal (Jm_seq ?_)
          refine St_region ?_
          refine Ls_run (run_move rfl) rfl ?_
          refine Ls_run (run_add rfl rfl (w64 (by omega))) rfl ?_
          refine Ls_run (run_assign rfl) rfl ?_
          refine Ls_nil ?_
          replace hs := hs.erase 1
          simp only [List.cons_append, List.nil_append, List.eraseIdx_cons_zero, List.eraseIdx_cons_succ] at hs
          refine Jm_round (i + 1, s5, ws.set k (Value.slice Ai m ci)) ?_ ?_ ?_
          · rw [hEn10]; exact (subE_cons rfl (subE_cons rfl (subE_cons rfl (subE_cons rfl (subE_cons rfl subE_nil)))))
          · skip
            rw [hIv11]
            refine ⟨?_, by omega, by rw [hrd.2.2.1]; exact hdc.1, by rw [hrd.2.2.2.1]; exact hdc.2.1, by rw [hrd.2.2.2.2]; exact hln2, ?_, by rw [hrd.2.2.2.2]; exact hbl2, by rw [List.length_set]; exact hws⟩
            · simp only [Nat.zero_add, Nat.mul_one, Int.toNat_natCast, El.val_flat] at hs ⊢; exact hs
            · rw [hrd.2.2.2.2, hb2]; exact hpw.set (rdB_take hri m (by omega)) (by omega)
          · skip
            rw [hms12, hms12]
            omega
      · skip
        refine Ls_off rfl rfl rfl rfl ?_
        refine Ls_off rfl rfl rfl rfl ?_
        refine Ls_off rfl rfl rfl rfl ?_
        refine Ls_off rfl rfl rfl rfl ?_
        refine Ls_run (run_pick_f rfl rfl) rfl ?_
        refine Ls_nil ?_
        refine Jm_seq ?_
        refine St_iff rfl ?_
        refine St_skip ?_
        refine Jm_seq ?_
        refine St_seq ?_
        refine St_region ?_
        refine Ls_run (run_move rfl) rfl ?_
        refine Ls_run (run_move rfl) rfl ?_
        replace hs := hs.front 1 rfl
        simp only [List.cons_append, List.nil_append, List.eraseIdx_cons_zero, List.eraseIdx_cons_succ] at hs
        have hdc : s2.down = false ∧ s2.armed = false ∧ s2.bl = s2.bl := ⟨hd2, ha2, rfl⟩
        have hrd := dread_ok (k := k) hdc.1 (by rw [hdc.2.2]; omega)
        refine Ls_call Try.func18 nm18 rfl rfl (Read_c w w27 _ b0 s2 hs (fun r hr => (hbl2 r (by rw [← hdc.2.2]; exact hr)).2) (k : Int)) rfl ?_
        rintro v50 w51 ⟨Ar, cr, rfl, hs⟩
        have hg : s2.bl.getD k [] = l.take m := by rw [hb2]; simp [List.getD_eq_getElem?_getD, show k < st.bl.length by omega]
        rw [hdc.2.2, hg] at hrd
        rw [hrd.1] at hs ⊢
        rw [hrd.2.1]
        obtain ⟨s5, hs5⟩ : ∃ q, q = (dread s2 (k : Int)).2.2 := ⟨_, rfl⟩
        rw [← hs5] at hs hrd
        have hlt : (l.take m).length = m := by rw [List.length_take]; omega
        refine Ls_run (run_move rfl) rfl ?_
        refine Ls_run (run_extract rfl rfl) rfl ?_
        refine Ls_run (run_extract rfl rfl) rfl ?_
        refine Ls_run (run_assign rfl) rfl ?_
        refine Ls_run (run_assign rfl) rfl ?_
        refine Ls_nil ?_
        refine Jm_seq ?_
        refine St_seq ?_
        refine St_region ?_
        refine Ls_run (run_move rfl) rfl ?_
        refine Ls_run (run_asB (c := false) (run_neq rfl rfl) (by decide)) rfl ?_
        refine Ls_run (run_move rfl) rfl ?_
        refine Ls_on rfl rfl ?_
        refine Ls_run (run_move rfl) rfl ?_
        refine Ls_on rfl rfl ?_
        refine Ls_run (run_string Try.underlying31 Try.underlying5 Try.underlying9 rfl (hs.rd_at 1 rfl)) rfl ?_
        refine Ls_on rfl rfl ?_
        refine Ls_run (run_move rfl) rfl ?_
        refine Ls_on rfl rfl ?_
        refine Ls_run (run_string Try.underlying31 Try.underlying5 Try.underlying9 rfl ((rdB_take hri m hmn).inB hs)) rfl ?_
        refine Ls_on rfl rfl ?_
        refine Ls_run (run_asB (c := false) (run_neq_str rfl rfl) (by simp)) rfl ?_
        refine Ls_run (run_pick_f rfl rfl) rfl ?_
        refine Ls_nil ?_
        refine Jm_seq ?_
        refine St_iff rfl ?_
        refine St_skip ?_
        refine Jm_block_normal (Jm_seq ?_)
        refine St_region ?_
        refine Ls_run (run_move rfl) rfl ?_
        refine Ls_run (run_add rfl rfl (w64 (by omega))) rfl ?_
        refine Ls_run (run_assign rfl) rfl ?_
        refine Ls_nil ?_
        replace hs := hs.erase 1
        simp only [List.cons_append, List.nil_append, List.eraseIdx_cons_zero, List.eraseIdx_cons_succ] at hs
        refine Jm_round (i + 1, s5, ws.set k (Value.slice Ai m ci)) ?_ ?_ ?_
        · rw [hEn10]; exact (subE_cons rfl (subE_cons rfl (subE_cons rfl (subE_cons rfl (subE_cons rfl subE_nil)))))
        · skip
          rw [hIv11]
          refine ⟨?_, by omega, by rw [hrd.2.2.1]; exact hdc.1, by rw [hrd.2.2.2.1]; exact hdc.2.1, by rw [hrd.2.2.2.2]; exact hln2, ?_, by rw [hrd.2.2.2.2]; exact hbl2, by rw [List.length_set]; exact hws⟩
          · simp only [Nat.zero_add, Nat.mul_one, Int.toNat_natCast, El.val_flat] at hs ⊢; exact hs
          · rw [hrd.2.2.2.2, hb2]; exact hpw.set (rdB_take hri m (by omega)) (by omega)
        · skip
          rw [hms12, hms12]
          omega
    · skip
      refine St_exit ?_
      refine Jm_then_exit (Jm_then_exit (Jm_block_same (Jm_seq ?_)))
      refine St_seq ?_
      refine St_region ?_
      refine Ls_run (run_move rfl) rfl ?_
      refine Ls_call Try.func21 nm21 rfl rfl (Image_c w wr _ b0 st hs (fun r hr => (hbl r hr).2) (by omega)) rfl ?_
      rintro v53 w54 ⟨Ai, ci, vi, rfl, hvi, hs⟩
      replace hs := Sat.toKeep (F := fun w => Rd w Ai st.bl.length ci 1 (El.val.flat vi) ∧ PartsK (El.int .u8) w vi st.bl) (fun B w q => ⟨q.rd_at 0 rfl, Sat.parts (pre := [_]) q hvi⟩) hs
      refine Ls_run (run_move rfl) rfl ?_
      refine Ls_call Try.func20 nm20 rfl rfl (images_c w54 _ _ _ vi st.bl _ _ _ ws st.bl ((hs.kept 0 rfl).1) (hs.rd_at 2 rfl) (hs.kept 0 rfl).2 (hpw.inB hs) (fun r hr => (hbl r hr).1) (fun r hr => (hbl r hr).1) (by omega)) rfl ?_
      rintro v55 w56 ⟨rfl, hsI⟩
      replace hs := hs.trans hsI
      rw [decide_eq_true (rfl : st.bl = st.bl)]
      refine Ls_run (run_assign rfl) rfl ?_
      refine Ls_nil ?_
      refine Jm_seq ?_
      refine St_ret ?_
      refine Jm_ret1 rfl rfl ?_
      exact ⟨_, rfl, rfl, hs.below⟩
  · skip
    refine Ls_off rfl rfl rfl rfl ?_
    refine Ls_off rfl rfl rfl rfl ?_
    refine Ls_run (run_pick_f rfl rfl) rfl ?_
    refine Ls_nil ?_
    refine Jm_seq ?_
    refine St_iff rfl ?_
    refine St_exit ?_
    refine Jm_then_exit (Jm_then_exit (Jm_block_same (Jm_seq ?_)))
    refine St_seq ?_
    refine St_region ?_
    refine Ls_run (run_move rfl) rfl ?_
    refine Ls_call Try.func21 nm21 rfl rfl (Image_c w wr _ b0 st hs (fun r hr => (hbl r hr).2) (by omega)) rfl ?_
    rintro v58 w59 ⟨Ai, ci, vi, rfl, hvi, hs⟩
    replace hs := Sat.toKeep (F := fun w => Rd w Ai st.bl.length ci 1 (El.val.flat vi) ∧ PartsK (El.int .u8) w vi st.bl) (fun B w q => ⟨q.rd_at 0 rfl, Sat.parts (pre := [_]) q hvi⟩) hs
    refine Ls_run (run_move rfl) rfl ?_
    refine Ls_call Try.func20 nm20 rfl rfl (images_c w59 _ _ _ vi st.bl _ _ _ ws st.bl ((hs.kept 0 rfl).1) (hs.rd_at 2 rfl) (hs.kept 0 rfl).2 (hpw.inB hs) (fun r hr => (hbl r hr).1) (fun r hr => (hbl r hr).1) (by omega)) rfl ?_
    rintro v60 w61 ⟨rfl, hsI⟩
    replace hs := hs.trans hsI
    rw [decide_eq_true (rfl : st.bl = st.bl)]
    refine Ls_run (run_assign rfl) rfl ?_
    refine Ls_nil ?_
    refine Jm_seq ?_
    refine St_ret ?_
    refine Jm_ret1 rfl rfl ?_
    exact ⟨_, rfl, rfl, hs.below⟩
end Go.Proofs.Ytpmkedgennnekaa.Lg
