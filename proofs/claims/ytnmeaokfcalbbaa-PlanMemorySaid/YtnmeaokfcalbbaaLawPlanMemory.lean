/-
  The law PlanMemory: lists that are handed in stay, their spare room too; what Deal answers is new memory, each list its own. For every plan and every list of pairs: no condition.
-/
import Derived.Test.YtnmeaokfcalbbaaRows
import Derived.Test.YtnmeaokfcalbbaaRo
import Derived.Test.YtnmeaokfcalbbaaDec
import Derived.Test.YtnmeaokfcalbbaaRb
import Derived.Test.YtnmeaokfcalbbaaPlan6
set_option linter.unusedVariables false
set_option linter.unusedSimpArgs false
namespace Go.Proofs.Ytnmeaokfcalbbaa.planMemory
open Go.ChangeShapes Go.WideShapes Go.ChangeAt Go.RowKit
open Go.Proofs.Ytnmeaokfcalbbaa.Lg Go.Proofs.Ytnmeaokfcalbbaa.PlanPure
theorem own : ownKnob Try.prog.godebug = none := by kernel_rfl
theorem laidOut : laidOutB Try.prog = true := by kernel_rfl
set_option maxRecDepth 100000 in
theorem lifted (os : Os) (started : os.Started) (H : Type) (enc : TypeId × Value → H) :
    ReturnsInHanded {} Try.checked os 9 .any (Rows.planMemorySpec.pre6 enc Try.prog Try.f9 Rows.planMemoryRow.domain false) (Rows.planMemorySpec.post enc Try.prog Try.f9 false true false false) := by
  refine returnsInHanded_of_change_sized (C := Try.checked) own started (by kernel_rfl) Try.func9
    (ChangeSpec.witness6 (enc := enc) (C := Try.checked) false ⟨#[], #[.agg #[.int .i64 0, .int .i64 0, .int .i64 0, .slice none 0 0, .int .i64 0, .int .i64 0, .int .i64 0, .int .i64 0], .slice none 0 0], []⟩ 8 (by kernel_rfl) (by kernel_rfl) (by kernel_rfl) (by kernel_rfl)) ?_
  intro W base args ds gs before hval0 hW hcnd hsz0 _
  have hsz : (DataW.weightsEach Try.prog (Try.f9.params.toList ++ Rows.planMemorySpec.plain.varTypes Try.prog) (ds ++ gs)).all (· ≤ reachBytes) = true := hsz0
  have hval : ∀ (j : Nat) t v, Try.f9.params[j]? = some t → args[j]? = some v → Value.okWide Try.prog W .any base t v := hval0
  have hW' := hW
  obtain ⟨p, q, hA0, hV, rfl, hfz, hnd⟩ := hW
  have hA : DataW.TrodAll enc Try.prog W 0 (fun _ => true) true Try.f9.params.toList args.toList ds p := hA0
  rw [Try.params9] at hA hval hsz
  obtain ⟨v0, vs0, d0, ds0, p0, q0, hargs, rfl, rfl, h0, r0⟩ := trodAll_cons hA
  obtain ⟨v1, vs1, d1, ds1, p1, q1, rfl, rfl, rfl, h1, r1⟩ := trodAll_cons r0
  obtain ⟨rfl, rfl, rfl⟩ := trodAll_nil r1
  obtain rfl : args = #[v0, v1] := by cases args; simp_all
  obtain ⟨rfl, rfl⟩ := trodVars_none hV
  obtain ⟨cs0, rfl, _⟩ := okWide_struct Try.underlying34 (hval 0 34 v0 rfl rfl)
  have k0 := h0
  have lt0 : ∀ x ∈ p0, x.block < W.heap.size := by obtain ⟨m, hm⟩ := k0; exact DataW.trod_lt m _ _ _ hm
  obtain ⟨fu0, hf0⟩ := h0
  obtain ⟨s0_0, s0_1, s0_2, s0_3, s0_3n, s0_3c, s0_4, s0_5, s0_6, s0_7, ec0, g0_0, g0_1, g0_2, g0_3, g0_4, g0_5, g0_6, g0_7, g0_8, g0_9⟩ := dec34 hf0
  obtain rfl : cs0 = #[.int .i64 s0_0, .int .i64 s0_1, .int .i64 s0_2, .slice s0_3 s0_3n s0_3c, .int .i64 s0_4, .int .i64 s0_5, .int .i64 s0_6, .int .i64 s0_7] := Array.ext' ec0
  obtain ⟨od0, op0, ot0, _⟩ := g0_3
  obtain ⟨ops0, rdo0, _, _⟩ := rd_slice' KOp (fun _ => True) Try.underlying32 (by kernel_rfl) (by decide) (fun n cs y hy => by obtain ⟨a, b, c, e, _⟩ := dec80 hy; exact ⟨(a, b, c), e.symm, trivial⟩) ot0
  have mo0 : s0_3n ≤ 9223372036854775807 := by have := g0_4; have := g0_5; simp only [maxLen] at this; omega
  obtain ⟨A1, len1, cap1, rfl⟩ := okWide_slice Try.underlying41 (hval 1 41 v1 rfl rfl)
  have k1 := h1
  have lt1 : ∀ x ∈ p1, x.block < W.heap.size := by obtain ⟨m, hm⟩ := k1; exact DataW.trod_lt m _ _ _ hm
  obtain ⟨l, rd1, ln1, gd1⟩ := rd_slice' KP (fun a => 0 ≤ a.1 ∧ a.1 < 18446744073709551616) Try.underlying41 (by kernel_rfl) (by decide) (fun n cs y hy => by obtain ⟨a, b, c, e, q1, q2⟩ := dec50 hy; exact ⟨(a, b, c), e.symm, wf_u64 q1⟩) h1
  have sz1 : len1 * 24 ≤ 140737488351232 := sized_any hsz (j := 1) (t := 41) rfl rfl Try.underlying41 (by kernel_rfl) h1
  clear hA0 hval0 hsz0 hsz
  refine (PlanMemory_c W ⟨s0_0, s0_1, s0_2, s0_3, s0_3n, s0_3c, s0_4, s0_5, s0_6, s0_7⟩ ops0 rdo0 mo0 A1 len1 cap1 l rd1 gd1 (by omega)).mono fun e W' ⟨v, he, hv, bel⟩ => ?_
  subst he
  subst hv
  exact ⟨_, rfl, _, _, _, [], _, [], hW', trodAll_mk1 (shut_bool Try.underlying4 _), (trodAll_cons_mk (Below.trod laidOut (by kernel_rfl) (of_decide_eq_true (by kernel_rfl)) k0 bel lt0) (trodAll_cons_mk (Below.trod laidOut (by kernel_rfl) (of_decide_eq_true (by kernel_rfl)) k1 bel lt1) trodAll_mk0)), rfl, bel.frame _, fun h => by cases h⟩
theorem over : Rows.planMemoryRow.holds Try.pinned (OpenSpec.ofChange Rows.planMemorySpec) :=
  OpenClaim.holds_of_wide 9 Try.f9 rfl rfl rfl rfl rfl rfl rfl ⟨rfl, rfl, rfl, rfl, rfl⟩ rfl rfl rfl rfl rfl (by kernel_rfl) Try.func9 (by kernel_rfl)
    (of_decide_eq_true (by kernel_rfl)) (by unfold Func.isWrapper; first | (rw [if_pos (by decide +kernel)]; kernel_rfl) | (rw [if_neg (by decide +kernel)]; exact ⟨rfl, rfl⟩))
    (fun os started H enc _ => lifted os started H enc)
end Go.Proofs.Ytnmeaokfcalbbaa.planMemory
namespace Go.Proofs.Ytnmeaokfcalbbaa
/-- The row, under a short name, for the claim. -/
theorem planMemory_holds : Rows.PlanMemorySaid := planMemory.over
end Go.Proofs.Ytnmeaokfcalbbaa
