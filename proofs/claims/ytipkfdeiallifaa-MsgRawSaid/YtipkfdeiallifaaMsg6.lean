/-
  awake of the messages' laws; the laws MsgBytes and MsgKinds, walked. By program (gen/msg6.py).
-/
import Derived.Test.YtipkfdeiallifaaMsg3
import Derived.Test.YtipkfdeiallifaaMsg5
set_option linter.unusedVariables false
set_option linter.unusedSimpArgs false
namespace Go.Proofs.Ytipkfdeiallifaa.Lg
open Go Go.RowKit Go.Proofs.Ytipkfdeiallifaa.WirePure
def Mout (x : MC) : List Int := if Msound x then Menc x else []
def Merr (x : MC) : Int := if Msound x then 0 else 150
def xA : MC := ⟨2, 1, 0, 2, 300, 0, [5, 0], [], []⟩
def xB : MC := ⟨5, 3, 1, 2, 7, 130, [], [], []⟩
def x9 : MC := ⟨9, 0, 0, 0, 0, 0, [], [], []⟩
theorem sA : Msound xA := by simp [Msound, xA, mof, endsOk]
theorem sB : Msound xB := by simp [Msound, xB, mof]
theorem s9 : ¬ Msound x9 := by simp [Msound, x9, mof]
theorem eA : Mout xA = [2, 1, 0, 2, 172, 2, 2, 5, 0] := by
  have hb : bodyB xA = nm [5, 0] := body_1 (by simp [xA, mof])
  unfold Mout
  rw [if_pos sA]
  unfold Menc
  rw [hb]
  show pb 2 ++ (pb 1 ++ (pb 0 ++ (pb 2 ++ (pb 300 ++ [])))) ++ (pb 2 ++ (pb 5 ++ (pb 0 ++ []))) = _
  rw [pb_300, pb_small (n := 2) (by decide), pb_small (n := 1) (by decide), pb_small (n := 0) (by decide), pb_small (n := 5) (by decide)]
  rfl
theorem dB : Mdec [5, 3, 1, 2, 7, 130, 1] = (xB, 0) := by
  rw [Mdec_t (r := [3, 1, 2, 7, 130, 1]) (q := [130, 1]) (h0 := [3, 1, 2, 7]) (x := 5) (by decide) (by omega) (by decide)]
  exact tailD_ok (y := xB) (r := []) (by decide) (by simp) sB
theorem Msound_k {x : MC} {k : Int} (h : Msound x) (e : mof k = mof x.k) : Msound { x with k := k } := by unfold Msound at *; simp only [e]; exact h
theorem kinds_out {x : MC} {k : Int} (hk : k < 1 ∨ k > 8) : ¬ Msound { x with k := k } := fun h => by
  have := (sound_num h).1
  simp only at this
  unfold mof at this
  repeat (first | omega | split at this)
theorem mof1 (k : Int) : mof k = 1 ↔ (k = 1 ∨ k = 2 ∨ k = 3 ∨ k = 8) := by unfold mof; repeat' (first | omega | split)
theorem mof2 (k : Int) : mof k = 2 ↔ k = 4 := by unfold mof; repeat' (first | omega | split)
theorem mof3 (k : Int) : mof k = 3 ↔ k = 6 := by unfold mof; repeat' (first | omega | split)
theorem mof4 (k : Int) : mof k = 4 ↔ (k = 5 ∨ k = 7) := by unfold mof; repeat' (first | omega | split)
theorem kinds_e {x : MC} {k : Int} (h : Msound x) (hl : 0 < x.es.length) (hk : 1 ≤ k ∧ k ≤ 8) : Msound { x with k := k } ↔ (k ≤ 3 ∨ k = 8) := by
  have hn := sound_num h
  have e1 : mof x.k = 1 := by omega
  refine ⟨fun q => ?_, fun q => Msound_k h (by rw [e1, mof1]; omega)⟩
  have hq := sound_num q
  simp only at hq
  have := mof1 k
  omega
theorem kinds_c {x : MC} {k : Int} (h : Msound x) (hl : x.c > 0) (hk : 1 ≤ k ∧ k ≤ 8) : Msound { x with k := k } ↔ (k = 5 ∨ k = 7) := by
  have hn := sound_num h
  have e1 : mof x.k = 4 := by omega
  refine ⟨fun q => ?_, fun q => Msound_k h (by rw [e1, mof4]; omega)⟩
  have hq := sound_num q
  simp only at hq
  have := mof4 k
  omega
theorem kinds_k {x : MC} {k : Int} (h : Msound x) (hl : 0 < x.ks.length) (hk : 1 ≤ k ∧ k ≤ 8) : Msound { x with k := k } ↔ k = 4 := by
  have hn := sound_num h
  have e1 : mof x.k = 2 := by omega
  refine ⟨fun q => ?_, fun q => Msound_k h (by rw [e1, mof2]; omega)⟩
  have hq := sound_num q
  simp only at hq
  have := mof2 k
  omega
theorem kinds_p {x : MC} {k : Int} (h : Msound x) (hl : 0 < x.ps.length) (hk : 1 ≤ k ∧ k ≤ 8) : Msound { x with k := k } ↔ k = 6 := by
  have hn := sound_num h
  have e1 : mof x.k = 3 := by omega
  refine ⟨fun q => ?_, fun q => Msound_k h (by rw [e1, mof3]; omega)⟩
  have hq := sound_num q
  simp only at hq
  have := mof3 k
  omega
theorem kinds_1 {x : MC} (h : Msound x) (hl : 0 < x.es.length) : ¬ Msound { x with c := 1 } := fun q => by
  have hn := sound_num h
  have hq := sound_num q
  simp only at hq
  omega
theorem kinds_0 {x : MC} (h : Msound x) (hl : 0 < x.es.length) : ¬ Msound { x with es := [] } := fun q => by
  have hn := sound_num h
  have hq := sound_num q
  simp only [List.length_nil] at hq
  omega
theorem kinds_f {x : MC} {y : Int} (h : Msound x) : Msound { x with f := y } ↔ (y ≥ 0 ∧ y < 9) := by
  obtain ⟨h1, h2, h3, h4, h5, h6⟩ := h
  exact ⟨fun q => by have := q.2.1; simp only at this; omega, fun q => ⟨h1, by simp only; omega, h3, h4, h5, h6⟩⟩
theorem kinds_t {x : MC} {y : Int} (h : Msound x) : Msound { x with t := y } ↔ (y ≥ 0 ∧ y < 9) := by
  obtain ⟨h1, h2, h3, h4, h5, h6⟩ := h
  exact ⟨fun q => by have := q.2.2.1; simp only at this; omega, fun q => ⟨h1, h2, by simp only; omega, h4, h5, h6⟩⟩
theorem kinds_b {x : MC} {y : Int} (h : Msound x) : Msound { x with b := y } ↔ (y ≥ 1 ∧ y ≤ 1099511627776) := by
  obtain ⟨h1, h2, h3, h4, h5, h6⟩ := h
  exact ⟨fun q => by have := q.2.2.2.1; simp only at this; omega, fun q => ⟨h1, h2, h3, by simp only; omega, h5, h6⟩⟩
theorem kinds_a {x : MC} {y : Int} (h : Msound x) : Msound { x with a := y } ↔ (y ≥ 1 ∧ y ≤ 1099511627776) := by
  obtain ⟨h1, h2, h3, h4, h5, h6⟩ := h
  exact ⟨fun q => by have := q.2.2.2.2.1; simp only at this; omega, fun q => ⟨h1, h2, h3, h4, by simp only; omega, h6⟩⟩
theorem in_A : MIn xA := ⟨by simp [xA], by simp [xA], by simp [xA]⟩
theorem ne_t {p : Prop} [Decidable p] (h : p) : (!(decide p == true)) = false := by simp [h]
theorem ne_f {p : Prop} [Decidable p] (h : ¬ p) : (!(decide p == false)) = false := by simp [h]
theorem ne_d {p q : Prop} [Decidable p] [Decidable q] (h : p ↔ q) : (!(decide p == decide q)) = false := by simp [decide_eq_decide.2 h]
theorem eq_t {p : Prop} [Decidable p] (h : p) : (decide p == true) = true := by simp [h]
theorem eq_f {p : Prop} [Decidable p] (h : ¬ p) : (decide p == false) = true := by simp [h]
theorem eq_d {p q : Prop} [Decidable p] [Decidable q] (h : p ↔ q) : (decide p == decide q) = true := by simp [decide_eq_decide.2 h]

theorem EncodeU_c (w : World) (x : MC) (p : MP) (hm : MRd w x p) (hze : p.en ≤ 9223372036854775807) (hzk : p.kn ≤ 9223372036854775807) (hzp : p.pn ≤ 9223372036854775807) (hin : MIn x) : Calls Try.prog 16 [.agg #[.int .i64 x.k, .int .i64 x.f, .int .i64 x.t, .int .i64 x.b, .int .i64 x.a, .int .i64 x.c, .slice p.eA p.en p.ec, .slice p.kA p.kn p.kc, .slice p.pA p.pn p.pc]].toArray w (Ret (fun v' w' => ∃ A c, v' = .tuple #[.slice A (Mout x).length c, .int .i64 (Merr x)] ∧ Sat w w' [Own 5 1 (.slice A (Mout x).length c) (Mout x).length (bytesV (Mout x))])) := by
  refine (Encode_c w x p hm hze hzk hzp hin).mono ?_
  rintro e w' ⟨v, rfl, ⟨hn, rfl, hs⟩ | ⟨hs0, A, c, rfl, hs⟩⟩
  · refine ⟨_, rfl, none, 0, ?_, ?_⟩
    · simp [Mout, Merr, hn]
    · simp only [Mout, if_neg hn]; exact hs.own_nil 5 1
  · refine ⟨_, rfl, A, c, ?_, ?_⟩
    · simp [Mout, Merr, hs0]
    · simp only [Mout, if_pos hs0]; exact hs

theorem rEncodeU_c (w : World) (x : MC) (p : MP) (hm : MRd w x p) (hze : p.en ≤ 9223372036854775807) (hzk : p.kn ≤ 9223372036854775807) (hzp : p.pn ≤ 9223372036854775807) (hin : MIn x) : Calls Try.prog 17 [.agg #[.int .i64 x.k, .int .i64 x.f, .int .i64 x.t, .int .i64 x.b, .int .i64 x.a, .int .i64 x.c, .slice p.eA p.en p.ec, .slice p.kA p.kn p.kc, .slice p.pA p.pn p.pc]].toArray w (Ret (fun v' w' => ∃ A c, v' = .tuple #[.slice A (Mout x).length c, .int .i64 (Merr x)] ∧ Sat w w' [Own 5 1 (.slice A (Mout x).length c) (Mout x).length (bytesV (Mout x))])) := by
  refine (rEncode_c w x p hm hze hzk hzp hin).mono ?_
  rintro e w' ⟨v, rfl, ⟨hn, rfl, hs⟩ | ⟨hs0, A, c, rfl, hs⟩⟩
  · refine ⟨_, rfl, none, 0, ?_, ?_⟩
    · simp [Mout, Merr, hn]
    · simp only [Mout, if_neg hn]; exact hs.own_nil 5 1
  · refine ⟨_, rfl, A, c, ?_, ?_⟩
    · simp [Mout, Merr, hs0]
    · simp only [Mout, if_pos hs0]; exact hs
set_option maxRecDepth 100000 in
set_option maxHeartbeats 1000000 in
theorem mawake_c (w : World) :
    Calls Try.prog 15 [].toArray w (Ret (fun v' w' => v' = .bool true ∧ Sat w w' [])) := by
  have hs := Sat.start w
  refine Calls_body Try.func15 rfl rfl rfl envE_nil ?_
  refine St_seq ?_
  refine St_region ?_
  refine Ls_run (run_assign rfl) rfl ?_
  refine Ls_nil ?_
  refine Jm_seq ?_
  refine St_seq ?_
  refine St_region ?_
  refine Ls_literal [_, _] hs Try.underlying22 inf3 rfl rfl rfl rfl rfl rfl ?_
  intro b1 w2 hs
  simp only [List.flatMap_cons, List.flatMap_nil, Value.cells, List.cons_append, List.nil_append] at hs
  refine Ls_run (run_buildO (pv := [(0, _), (1, _), (3, _), (4, _), (6, _)]) rfl (bld26_0_1_3_4_6 _ _ _ _ _ _ _)) rfl ?_
  refine Ls_alloc hs inf26 rfl ?_
  intro b4 w3 hs
  refine Ls_storeAgg hs inf26 rfl rfl rfl rfl (by simp [Value.oneCell']) ?_
  intro w5 hs
  refine Ls_nil ?_
  refine Jm_seq ?_
  refine St_seq ?_
  refine St_region ?_
  refine Ls_run (run_as (run_load_agg agg26 inf26 rfl rfl (hs.blk_cells 0 rfl 0 9)) (show _ = Value.agg #[.int .i64 xA.k, .int .i64 xA.f, .int .i64 xA.t, .int .i64 xA.b, .int .i64 xA.a, .int .i64 xA.c, .slice (⟨some ⟨b1, 0, none⟩, 2, 2, none, 0, 0, none, 0, 0⟩ : MP).eA (⟨some ⟨b1, 0, none⟩, 2, 2, none, 0, 0, none, 0, 0⟩ : MP).en (⟨some ⟨b1, 0, none⟩, 2, 2, none, 0, 0, none, 0, 0⟩ : MP).ec, .slice (⟨some ⟨b1, 0, none⟩, 2, 2, none, 0, 0, none, 0, 0⟩ : MP).kA (⟨some ⟨b1, 0, none⟩, 2, 2, none, 0, 0, none, 0, 0⟩ : MP).kn (⟨some ⟨b1, 0, none⟩, 2, 2, none, 0, 0, none, 0, 0⟩ : MP).kc, .slice (⟨some ⟨b1, 0, none⟩, 2, 2, none, 0, 0, none, 0, 0⟩ : MP).pA (⟨some ⟨b1, 0, none⟩, 2, 2, none, 0, 0, none, 0, 0⟩ : MP).pn (⟨some ⟨b1, 0, none⟩, 2, 2, none, 0, 0, none, 0, 0⟩ : MP).pc] from rfl)) rfl ?_
  refine Ls_call Try.func16 nm16 rfl rfl (EncodeU_c w5 xA ⟨some ⟨b1, 0, none⟩, 2, 2, none, 0, 0, none, 0, 0⟩ ⟨rd_block (hs.is_at 1 rfl).2 1 2 rfl, Rd.none _ 1, Rd.none _ 3⟩ (by simp) (by simp) (by simp) in_A ) rfl ?_
  rintro v6 w7 ⟨AE, cE, rfl, hsE⟩
  replace hs := hs.trans hsE
  simp only [List.nil_append, List.cons_append] at hs
  refine Ls_run (run_move rfl) rfl ?_
  refine Ls_run (run_extract rfl rfl) rfl ?_
  refine Ls_run (run_extract rfl rfl) rfl ?_
  refine Ls_run (run_assign rfl) rfl ?_
  refine Ls_run (run_assign rfl) rfl ?_
  refine Ls_nil ?_
  refine Jm_seq ?_
  refine St_seq ?_
  refine St_region ?_
  refine Ls_literal [_, _, _, _, _, _, _] hs Try.underlying28 inf5 rfl rfl rfl rfl rfl rfl ?_
  intro b8 w9 hs
  simp only [List.flatMap_cons, List.flatMap_nil, Value.cells, List.cons_append, List.nil_append] at hs
  refine Ls_stringish hs Try.underlying28 Try.underlying5 rfl rfl ?_
  intro w10 hs
  refine Ls_call Try.func20 nm20 rfl rfl (Decode_c w10 _ 7 _ [5, 3, 1, 2, 7, 130, 1] (rd_block (hs.is_at 0 rfl).2 1 7 rfl) (by simp [IsBytes]) (by decide)) rfl ?_
  rintro v11 w12 ⟨pB, rfl, hsB⟩
  rw [dB] at hsB ⊢
  replace hs := hs.trans hsB
  simp only [List.nil_append, List.cons_append] at hs
  refine Ls_run (run_move rfl) rfl ?_
  refine Ls_run (run_extract rfl rfl) rfl ?_
  refine Ls_run (run_extract rfl rfl) rfl ?_
  refine Ls_alloc hs inf26 rfl ?_
  intro b14 w13 hs
  refine Ls_storeAgg hs inf26 rfl rfl rfl rfl (by simp [Value.oneCell']) ?_
  intro w15 hs
  refine Ls_run (run_assign rfl) rfl ?_
  refine Ls_nil ?_
  refine Jm_seq ?_
  refine St_seq ?_
  refine St_region ?_
  refine Ls_run (run_as (run_load_agg agg26 inf26 rfl rfl (hs.blk_cells 6 rfl 0 9)) (show _ = Value.agg #[.int .i64 xA.k, .int .i64 xA.f, .int .i64 xA.t, .int .i64 xA.b, .int .i64 xA.a, .int .i64 xA.c, .slice (⟨some ⟨b1, 0, none⟩, 2, 2, none, 0, 0, none, 0, 0⟩ : MP).eA (⟨some ⟨b1, 0, none⟩, 2, 2, none, 0, 0, none, 0, 0⟩ : MP).en (⟨some ⟨b1, 0, none⟩, 2, 2, none, 0, 0, none, 0, 0⟩ : MP).ec, .slice (⟨some ⟨b1, 0, none⟩, 2, 2, none, 0, 0, none, 0, 0⟩ : MP).kA (⟨some ⟨b1, 0, none⟩, 2, 2, none, 0, 0, none, 0, 0⟩ : MP).kn (⟨some ⟨b1, 0, none⟩, 2, 2, none, 0, 0, none, 0, 0⟩ : MP).kc, .slice (⟨some ⟨b1, 0, none⟩, 2, 2, none, 0, 0, none, 0, 0⟩ : MP).pA (⟨some ⟨b1, 0, none⟩, 2, 2, none, 0, 0, none, 0, 0⟩ : MP).pn (⟨some ⟨b1, 0, none⟩, 2, 2, none, 0, 0, none, 0, 0⟩ : MP).pc] from rfl)) rfl ?_
  refine Ls_call Try.func18 nm18 rfl rfl (Sound_c w15 xA ⟨some ⟨b1, 0, none⟩, 2, 2, none, 0, 0, none, 0, 0⟩ ⟨rd_block (hs.is_at 7 rfl).2 1 2 rfl, Rd.none _ 1, Rd.none _ 3⟩ (by simp [MP0]) (by simp [MP0]) (by simp [MP0])) rfl ?_
  rintro v16 w17 ⟨rfl, hsQ18⟩
  replace hs := hs.trans hsQ18
  simp only [List.nil_append, List.cons_append] at hs
  rw [decide_eq_true (sA)]
  refine Ls_run (run_move rfl) rfl ?_
  refine Ls_on rfl rfl ?_
  refine Ls_run (run_move rfl) rfl ?_
  refine Ls_on rfl rfl ?_
  refine Ls_run (run_string Try.underlying28 Try.underlying5 Try.underlying9 rfl (hs.rd_at 5 rfl)) rfl ?_
  refine Ls_on rfl rfl ?_
  refine Ls_run (run_asB (c := true) (run_eql_str rfl rfl) (by rw [eA]; exact beq_self_eq_true (strOfNums [2, 1, 0, 2, 172, 2, 2, 5, 0]).toList)) rfl ?_
  refine Ls_run (run_pick_t rfl rfl) rfl ?_
  refine Ls_run (run_move rfl) rfl ?_
  refine Ls_on rfl rfl ?_
  refine Ls_run (run_move rfl) rfl ?_
  refine Ls_on rfl rfl ?_
  refine Ls_run (run_asB (c := true) (run_eql rfl rfl) (by simp [Merr, sA])) rfl ?_
  refine Ls_run (run_pick_t rfl rfl) rfl ?_
  refine Ls_run (run_move rfl) rfl ?_
  refine Ls_on rfl rfl ?_
  refine Ls_run (run_move rfl) rfl ?_
  refine Ls_on rfl rfl ?_
  refine Ls_run (run_asB (c := true) (run_eql rfl rfl) rfl) rfl ?_
  refine Ls_run (run_pick_t rfl rfl) rfl ?_
  refine Ls_run (run_move rfl) rfl ?_
  refine Ls_on rfl rfl ?_
  refine Ls_run (run_as (run_load_agg agg26 inf26 rfl rfl (hs.blk_cells 0 rfl 0 9)) (show _ = Value.agg #[.int .i64 xB.k, .int .i64 xB.f, .int .i64 xB.t, .int .i64 xB.b, .int .i64 xB.a, .int .i64 xB.c, .slice pB.eA pB.en pB.ec, .slice pB.kA pB.kn pB.kc, .slice pB.pA pB.pn pB.pc] from rfl)) rfl ?_
  refine Ls_on rfl rfl ?_
  refine Ls_run (run_as (run_buildO (pv := [(0, _), (1, _), (2, _), (3, _), (4, _), (5, _)]) rfl (bld26_0_1_2_3_4_5 _ _ _ _ _ _)) (show _ = Value.agg #[.int .i64 xB.k, .int .i64 xB.f, .int .i64 xB.t, .int .i64 xB.b, .int .i64 xB.a, .int .i64 xB.c, .slice MP0.eA MP0.en MP0.ec, .slice MP0.kA MP0.kn MP0.kc, .slice MP0.pA MP0.pn MP0.pc] from rfl)) rfl ?_
  refine Ls_on rfl rfl ?_
  refine Ls_call Try.func22 nm22 rfl rfl (same_c w17 xB pB ⟨hs.rd_at 1 rfl, hs.rd_at 2 rfl, hs.rd_at 3 rfl⟩ (hs.own_le 1 rfl) (hs.own_le 2 rfl) (hs.own_le 3 rfl) xB MP0 ⟨Rd.none _ 1, Rd.none _ 1, Rd.none _ 3⟩) rfl ?_
  rintro v19 w20 ⟨rfl, hsS⟩
  replace hs := hs.trans hsS
  simp only [List.nil_append, List.cons_append] at hs
  rw [decide_eq_true (rfl : xB = xB)]
  refine Ls_run (run_pick_t rfl rfl) rfl ?_
  refine Ls_run (run_move rfl) rfl ?_
  refine Ls_on rfl rfl ?_
  refine Ls_run (run_as (run_buildO (pv := [(0, _)]) rfl (bld26_0 _)) (show _ = Value.agg #[.int .i64 x9.k, .int .i64 x9.f, .int .i64 x9.t, .int .i64 x9.b, .int .i64 x9.a, .int .i64 x9.c, .slice MP0.eA MP0.en MP0.ec, .slice MP0.kA MP0.kn MP0.kc, .slice MP0.pA MP0.pn MP0.pc] from rfl)) rfl ?_
  refine Ls_on rfl rfl ?_
  refine Ls_call Try.func18 nm18 rfl rfl (Sound_c w20 x9 MP0 ⟨Rd.none _ 1, Rd.none _ 1, Rd.none _ 3⟩ (by simp [MP0]) (by simp [MP0]) (by simp [MP0])) rfl ?_
  rintro v21 w22 ⟨rfl, hsQ23⟩
  replace hs := hs.trans hsQ23
  simp only [List.nil_append, List.cons_append] at hs
  rw [decide_eq_false (s9)]
  refine Ls_on rfl rfl ?_
  refine Ls_run (run_not rfl) rfl ?_
  refine Ls_run (run_pick_t rfl rfl) rfl ?_
  refine Ls_run (run_assign rfl) rfl ?_
  refine Ls_nil ?_
  refine Jm_seq ?_
  refine St_ret ?_
  refine Jm_ret1 rfl rfl ?_
  exact ⟨_, rfl, rfl, hs.forget⟩
set_option maxRecDepth 100000 in
set_option maxHeartbeats 1000000 in
theorem MsgBytes_c (w : World) (x : MC) (p : MP) (hm : MRd w x p) (hze : p.en ≤ 9223372036854775807) (hzk : p.kn ≤ 9223372036854775807) (hzp : p.pn ≤ 9223372036854775807) (hin : MIn x) :
    Calls Try.prog 3 [.agg #[.int .i64 x.k, .int .i64 x.f, .int .i64 x.t, .int .i64 x.b, .int .i64 x.a, .int .i64 x.c, .slice p.eA p.en p.ec, .slice p.kA p.kn p.kc, .slice p.pA p.pn p.pc]].toArray w (Ret (fun v' w' => v' = .bool true ∧ Below w.heap.size w w')) := by
  have hs := Sat.start w
  have hen := hm.en
  have hkn := hm.kn
  have hpn := hm.pn
  have hmr := mof_range x.k
  refine Calls_body Try.func3 rfl rfl rfl (envE_cons (i := 0) (v := .agg #[.int .i64 x.k, .int .i64 x.f, .int .i64 x.t, .int .i64 x.b, .int .i64 x.a, .int .i64 x.c, .slice p.eA p.en p.ec, .slice p.kA p.kn p.kc, .slice p.pA p.pn p.pc]) rfl envE_nil) ?_
  refine St_seq ?_
  refine St_region ?_
  refine Ls_box hs rfl rfl ?_
  intro b2 w1 hs
  refine Ls_run (run_assign rfl) rfl ?_
  refine Ls_nil ?_
  refine Jm_seq ?_
  refine St_seq ?_
  refine St_seq ?_
  refine St_region ?_
  refine Ls_call Try.func15 nm15 rfl rfl (mawake_c w1) rfl ?_
  rintro v3 w4 ⟨rfl, hsA5⟩
  replace hs := hs.trans hsA5
  simp only [List.nil_append, List.cons_append] at hs
  refine Ls_run (run_not rfl) rfl ?_
  refine Ls_nil ?_
  refine Jm_seq ?_
  refine St_iff rfl ?_
  refine St_skip ?_
  refine Jm_seq ?_
  refine St_seq ?_
  refine St_region ?_
  refine Ls_run (run_as (run_load_agg agg26 inf26 rfl rfl (hs.blk_cells 0 rfl 0 9)) (show _ = Value.agg #[.int .i64 x.k, .int .i64 x.f, .int .i64 x.t, .int .i64 x.b, .int .i64 x.a, .int .i64 x.c, .slice p.eA p.en p.ec, .slice p.kA p.kn p.kc, .slice p.pA p.pn p.pc] from rfl)) rfl ?_
  refine Ls_call Try.func16 nm16 rfl rfl (EncodeU_c w4 x p (hm.inB hs) hze hzk hzp hin ) rfl ?_
  rintro v7 w9 ⟨AE, cE, rfl, hsE⟩
  replace hs := hs.trans hsE
  simp only [List.nil_append, List.cons_append] at hs
  refine Ls_run (run_move rfl) rfl ?_
  refine Ls_run (run_extract rfl rfl) rfl ?_
  refine Ls_run (run_extract rfl rfl) rfl ?_
  refine Ls_run (run_assign rfl) rfl ?_
  refine Ls_run (run_assign rfl) rfl ?_
  refine Ls_nil ?_
  refine Jm_seq ?_
  refine St_seq ?_
  refine St_region ?_
  refine Ls_run (run_as (run_load_agg agg26 inf26 rfl rfl (hs.blk_cells 1 rfl 0 9)) (show _ = Value.agg #[.int .i64 x.k, .int .i64 x.f, .int .i64 x.t, .int .i64 x.b, .int .i64 x.a, .int .i64 x.c, .slice p.eA p.en p.ec, .slice p.kA p.kn p.kc, .slice p.pA p.pn p.pc] from rfl)) rfl ?_
  refine Ls_call Try.func17 nm17 rfl rfl (rEncodeU_c w9 x p (hm.inB hs) hze hzk hzp hin ) rfl ?_
  rintro v10 w11 ⟨AF, cF, rfl, hsF⟩
  replace hs := hs.trans hsF
  simp only [List.nil_append, List.cons_append] at hs
  refine Ls_run (run_move rfl) rfl ?_
  refine Ls_run (run_extract rfl rfl) rfl ?_
  refine Ls_run (run_extract rfl rfl) rfl ?_
  refine Ls_run (run_assign rfl) rfl ?_
  refine Ls_run (run_assign rfl) rfl ?_
  refine Ls_nil ?_
  refine Jm_seq ?_
  refine St_seq ?_
  refine St_draw (fun x => Below w11.heap.size w11 x) mixed ?_
  intro w12 q13
  have hH := q13.below
  replace hs := hs.quiet q13
  refine An_grow hH ?_
  replace hH := Below.refl w12.heap.size w12
  refine An_take 0 rfl (by kernel_rfl) (by kernel_rfl) (by kernel_rfl) (fun _ _ _ h => h) hH (fun x hx => run_load_agg agg26 inf26 rfl rfl ((hs.grow hx).blk_cells 2 rfl 0 9)) rfl ?_
  refine An_take 2 rfl (by kernel_rfl) (by kernel_rfl) (by kernel_rfl) (fun _ _ _ h => h) hH (fun x hx => run_load_agg agg26 inf26 rfl rfl ((hs.grow hx).blk_cells 2 rfl 0 9)) rfl ?_
  refine An_only 1 (by kernel_rfl) rfl ?_
  refine Ls_call Try.func18 nm18 rfl rfl (Sound_c w12 x p (hm.inB hs) hze hzk hzp) rfl ?_
  rintro v14 w15 ⟨rfl, hsQ16⟩
  replace hs := hs.trans hsQ16
  simp only [List.nil_append, List.cons_append] at hs
  replace hH := (hsQ16.below : Below w12.heap.size w12 w15)
  refine Ls_nil (Jm_An hH ?_)
  refine An_grow hH ?_
  replace hH := Below.refl w15.heap.size w15
  refine An_only 3 (by kernel_rfl) rfl ?_
  refine Ls_call Try.func19 nm19 rfl rfl (rSound_c w15 x p (hm.inB hs) hze hzk hzp) rfl ?_
  rintro v17 w18 ⟨rfl, hsQ19⟩
  replace hs := hs.trans hsQ19
  simp only [List.nil_append, List.cons_append] at hs
  replace hH := (hsQ19.below : Below w15.heap.size w15 w18)
  refine Ls_nil (Jm_An hH ?_)
  refine An_grow hH ?_
  replace hH := Below.refl w18.heap.size w18
  refine An_take 4 rfl (by kernel_rfl) (by kernel_rfl) (by kernel_rfl) (fun _ _ _ h => h) hH (fun x hx => run_asB (c := true) (run_eql_bool Try.underlying4 rfl rfl) (by simp)) rfl ?_
  refine An_take 5 rfl (by kernel_rfl) (by kernel_rfl) (by kernel_rfl) (fun _ _ _ h => h) hH (fun x hx => run_move rfl) rfl ?_
  refine An_take_on 6 rfl (by kernel_rfl) (by kernel_rfl) (by kernel_rfl) rfl rfl (fun _ _ _ h => h) hH (fun x hx => run_move rfl) rfl ?_
  refine An_take_on 7 rfl (by kernel_rfl) (by kernel_rfl) (by kernel_rfl) rfl rfl (fun _ _ _ h => h) hH (fun x hx => run_string Try.underlying28 Try.underlying5 Try.underlying9 rfl ((hs.rd_at 1 rfl).grow hx)) rfl ?_
  refine An_take_on 8 rfl (by kernel_rfl) (by kernel_rfl) (by kernel_rfl) rfl rfl (fun _ _ _ h => h) hH (fun x hx => run_move rfl) rfl ?_
  refine An_take_on 9 rfl (by kernel_rfl) (by kernel_rfl) (by kernel_rfl) rfl rfl (fun _ _ _ h => h) hH (fun x hx => run_string Try.underlying28 Try.underlying5 Try.underlying9 rfl ((hs.rd_at 0 rfl).grow hx)) rfl ?_
  refine An_take_on 10 rfl (by kernel_rfl) (by kernel_rfl) (by kernel_rfl) rfl rfl (fun _ _ _ h => h) hH (fun x hx => run_asB (c := true) (run_eql_str rfl rfl) (by simp)) rfl ?_
  refine An_take 11 rfl (by kernel_rfl) (by kernel_rfl) (by kernel_rfl) (fun _ _ _ h => h) hH (fun x hx => run_pick_t rfl rfl) rfl ?_
  refine An_take 12 rfl (by kernel_rfl) (by kernel_rfl) (by kernel_rfl) (fun _ _ _ h => h) hH (fun x hx => run_move rfl) rfl ?_
  refine An_take_on 13 rfl (by kernel_rfl) (by kernel_rfl) (by kernel_rfl) rfl rfl (fun _ _ _ h => h) hH (fun x hx => run_move rfl) rfl ?_
  refine An_take_on 14 rfl (by kernel_rfl) (by kernel_rfl) (by kernel_rfl) rfl rfl (fun _ _ _ h => h) hH (fun x hx => run_move rfl) rfl ?_
  refine An_take_on 15 rfl (by kernel_rfl) (by kernel_rfl) (by kernel_rfl) rfl rfl (fun _ _ _ h => h) hH (fun x hx => run_asB (c := true) (run_eql rfl rfl) (by simp)) rfl ?_
  refine An_take 16 rfl (by kernel_rfl) (by kernel_rfl) (by kernel_rfl) (fun _ _ _ h => h) hH (fun x hx => run_pick_t rfl rfl) rfl ?_
  refine An_take 17 rfl (by kernel_rfl) (by kernel_rfl) (by kernel_rfl) (fun _ _ _ h => h) hH (fun x hx => run_assign rfl) rfl ?_
  refine An_done (by kernel_rfl) ?_
  refine Jm_seq ?_
  refine St_ret ?_
  refine Jm_ret1 rfl rfl ?_
  exact ⟨_, rfl, rfl, hs.below⟩
end Go.Proofs.Ytipkfdeiallifaa.Lg
