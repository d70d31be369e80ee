/-
  The law MsgMemory: a message that is handed in stays, its lists' spare room too; what is answered is new memory. For every message: no condition.
-/
import Derived.Test.YtipkfdeiallifaaRows
import Derived.Test.YtipkfdeiallifaaRo
import Derived.Test.YtipkfdeiallifaaDec
import Derived.Test.YtipkfdeiallifaaRb
import Derived.Test.YtipkfdeiallifaaMsg7m
set_option linter.unusedVariables false
set_option linter.unusedSimpArgs false
namespace Go.Proofs.Ytipkfdeiallifaa.msgMemory
open Go.ChangeShapes Go.WideShapes Go.ChangeAt Go.RowKit
open Go.Proofs.Ytipkfdeiallifaa.Lg
theorem own : ownKnob Try.prog.godebug = none := by kernel_rfl
theorem laidOut : laidOutB Try.prog = true := by kernel_rfl
set_option maxRecDepth 100000 in
theorem lifted (os : Os) (started : os.Started) (H : Type) (enc : TypeId × Value → H) :
    ReturnsInHanded {} Try.checked os 8 .any (Rows.msgMemorySpec.pre6 enc Try.prog Try.f8 Rows.msgMemoryRow.domain false) (Rows.msgMemorySpec.post enc Try.prog Try.f8 false true false false) := by
  refine returnsInHanded_of_change_sized (C := Try.checked) own started (by kernel_rfl) Try.func8
    (ChangeSpec.witness6 (enc := enc) (C := Try.checked) false ⟨#[], #[.agg #[.int .i64 0, .int .i64 0, .int .i64 0, .int .i64 0, .int .i64 0, .int .i64 0, .slice none 0 0, .slice none 0 0, .slice none 0 0]], []⟩ 8 (by kernel_rfl) (by kernel_rfl) (by kernel_rfl) (by kernel_rfl)) ?_
  intro W base args ds gs before hval0 hW hcnd hsz0 _
  have hsz : (DataW.weightsEach Try.prog (Try.f8.params.toList ++ Rows.msgMemorySpec.plain.varTypes Try.prog) (ds ++ gs)).all (· ≤ reachBytes) = true := hsz0
  have hval : ∀ (j : Nat) t v, Try.f8.params[j]? = some t → args[j]? = some v → Value.okWide Try.prog W .any base t v := hval0
  have hW' := hW
  obtain ⟨p, q, hA0, hV, rfl, hfz, hnd⟩ := hW
  have hA : DataW.TrodAll enc Try.prog W 0 (fun _ => true) true Try.f8.params.toList args.toList ds p := hA0
  rw [Try.params8] at hA hval hsz
  obtain ⟨v0, vs0, d0, ds0, p0, q0, hargs, rfl, rfl, h0, r0⟩ := trodAll_cons hA
  obtain ⟨rfl, rfl, rfl⟩ := trodAll_nil r0
  obtain rfl : args = #[v0] := by cases args; simp_all
  obtain ⟨rfl, rfl⟩ := trodVars_none hV
  obtain ⟨cs0, rfl, _⟩ := okWide_struct Try.underlying26 (hval 0 26 v0 rfl rfl)
  have k0 := h0
  have lt0 : ∀ x ∈ p0, x.block < W.heap.size := by obtain ⟨m, hm⟩ := k0; exact DataW.trod_lt m _ _ _ hm
  obtain ⟨fu0, hf0⟩ := h0
  obtain ⟨s0_0, s0_1, s0_2, s0_3, s0_4, s0_5, s0_6, s0_6n, s0_6c, s0_7, s0_7n, s0_7c, s0_8, s0_8n, s0_8c, ec0, g0_0, g0_1, g0_2, g0_3, g0_4, g0_5, g0_6, g0_7, g0_8, g0_9, g0_10, g0_11, g0_12, g0_13, g0_14⟩ := dec26 hf0
  obtain rfl : cs0 = #[.int .i64 s0_0, .int .i64 s0_1, .int .i64 s0_2, .int .i64 s0_3, .int .i64 s0_4, .int .i64 s0_5, .slice s0_6 s0_6n s0_6c, .slice s0_7 s0_7n s0_7c, .slice s0_8 s0_8n s0_8c] := Array.ext' ec0
  obtain ⟨_, _, te0, _, he0⟩ := g0_6
  obtain ⟨es0, re0, _, we0⟩ := rd_ints Try.underlying22 Try.underlying3 (by kernel_rfl) te0
  obtain ⟨_, _, tk0, _, hk0⟩ := g0_9
  obtain ⟨ks0, rk0, _, wk0⟩ := rd_ints Try.underlying23 Try.underlying38 (by kernel_rfl) tk0
  obtain ⟨_, _, tp0, _, hp0⟩ := g0_12
  obtain ⟨ps0, rp0, _, wp0⟩ := rd_slice' KP (fun y => (0 ≤ y.1 ∧ y.1 < 18446744073709551616) ∧ 0 ≤ y.2.2 ∧ y.2.2 < 18446744073709551616) Try.underlying24 (by kernel_rfl) (by decide) (fun n cs y hy => by obtain ⟨a, b, c, e, q1, q2⟩ := dec42 hy; exact ⟨(a, b, c), e.symm, wf_u64 q1, wf_u64 q2⟩) tp0
  have me0 : s0_6n ≤ 9223372036854775807 := by have := g0_7; have := g0_8; simp only [maxLen] at this; omega
  have mk0 : s0_7n ≤ 9223372036854775807 := by have := g0_10; have := g0_11; simp only [maxLen] at this; omega
  have mp0 : s0_8n ≤ 9223372036854775807 := by have := g0_13; have := g0_14; simp only [maxLen] at this; omega
  have in0 : MIn ⟨s0_0, s0_1, s0_2, s0_3, s0_4, s0_5, es0, ks0, ps0⟩ := ⟨fun q hq => wf_i64 (we0 q hq), fun q hq => wf_u64 (wk0 q hq), fun q hq => wp0 q hq⟩
  have rd0 : MRd W ⟨s0_0, s0_1, s0_2, s0_3, s0_4, s0_5, es0, ks0, ps0⟩ ⟨s0_6, s0_6n, s0_6c, s0_7, s0_7n, s0_7c, s0_8, s0_8n, s0_8c⟩ := ⟨re0, rk0, rp0⟩
  have ze0 := len_light Try.underlying22 (B := 8) (by kernel_rfl) (fun m hm => (light_of hsz (j := 0) rfl rfl) m (he0 m hm)) te0
  have zk0 := len_light Try.underlying23 (B := 8) (by kernel_rfl) (fun m hm => (light_of hsz (j := 0) rfl rfl) m (hk0 m hm)) tk0
  have zp0 := len_light Try.underlying24 (B := 24) (by kernel_rfl) (fun m hm => (light_of hsz (j := 0) rfl rfl) m (hp0 m hm)) tp0
  clear hA0 hval0 hsz0 hsz
  refine (MsgMemory_c W ⟨s0_0, s0_1, s0_2, s0_3, s0_4, s0_5, es0, ks0, ps0⟩ ⟨s0_6, s0_6n, s0_6c, s0_7, s0_7n, s0_7c, s0_8, s0_8n, s0_8c⟩ rd0 me0 mk0 mp0 in0 (by simp only; omega) (by simp only; omega) (by simp only; omega)).mono fun e W' ⟨v, he, hv, bel⟩ => ?_
  subst he
  subst hv
  exact ⟨_, rfl, _, _, _, [], _, [], hW', trodAll_mk1 (shut_bool Try.underlying4 _), (trodAll_cons_mk (Below.trod laidOut (by kernel_rfl) (of_decide_eq_true (by kernel_rfl)) k0 bel lt0) trodAll_mk0), rfl, bel.frame _, fun h => by cases h⟩
theorem over : Rows.msgMemoryRow.holds Try.pinned (OpenSpec.ofChange Rows.msgMemorySpec) :=
  OpenClaim.holds_of_wide 8 Try.f8 rfl rfl rfl rfl rfl rfl rfl ⟨rfl, rfl, rfl, rfl, rfl⟩ rfl rfl rfl rfl rfl (by kernel_rfl) Try.func8 (by kernel_rfl)
    (of_decide_eq_true (by kernel_rfl)) (by unfold Func.isWrapper; first | (rw [if_pos (by decide +kernel)]; kernel_rfl) | (rw [if_neg (by decide +kernel)]; exact ⟨rfl, rfl⟩))
    (fun os started H enc _ => lifted os started H enc)
end Go.Proofs.Ytipkfdeiallifaa.msgMemory
namespace Go.Proofs.Ytipkfdeiallifaa
/-- The row, under a short name, for the claim. -/
theorem msgMemory_holds : Rows.MsgMemorySaid := msgMemory.over
end Go.Proofs.Ytipkfdeiallifaa
