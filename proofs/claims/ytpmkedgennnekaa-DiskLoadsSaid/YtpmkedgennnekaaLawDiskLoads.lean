/-
  The law DiskLoads: a disk's image, loaded, is a disk that reads alike, and has the same image; of one that is down too. For every image and every list of writes: no condition.
-/
import Derived.Test.YtpmkedgennnekaaRows
import Derived.Test.YtpmkedgennnekaaRo
import Derived.Test.YtpmkedgennnekaaDec
import Derived.Test.YtpmkedgennnekaaRb
import Derived.Test.YtpmkedgennnekaaDisk10
set_option linter.unusedVariables false
set_option linter.unusedSimpArgs false
namespace Go.Proofs.Ytpmkedgennnekaa.diskLoads
open Go.ChangeShapes Go.WideShapes Go.ChangeAt Go.RowKit
open Go.Proofs.Ytpmkedgennnekaa.Lg
theorem own : ownKnob Try.prog.godebug = none := by kernel_rfl
theorem laidOut : laidOutB Try.prog = true := by kernel_rfl
set_option maxRecDepth 100000 in
theorem lifted (os : Os) (started : os.Started) (H : Type) (enc : TypeId × Value → H) :
    ReturnsInHanded {} Try.checked os 7 .any (Rows.diskLoadsSpec.pre6 enc Try.prog Try.f7 Rows.diskLoadsRow.domain false) (Rows.diskLoadsSpec.post enc Try.prog Try.f7 false true false false) := by
  refine returnsInHanded_of_change_sized (C := Try.checked) own started (by kernel_rfl) Try.func7
    (ChangeSpec.witness6 (enc := enc) (C := Try.checked) false ⟨#[], #[.slice none 0 0, .slice none 0 0], []⟩ 8 (by kernel_rfl) (by kernel_rfl) (by kernel_rfl) (by kernel_rfl)) ?_
  intro W base args ds gs before hval0 hW hcnd hsz0 _
  have hsz : (DataW.weightsEach Try.prog (Try.f7.params.toList ++ Rows.diskLoadsSpec.plain.varTypes Try.prog) (ds ++ gs)).all (· ≤ reachBytes) = true := hsz0
  have hval : ∀ (j : Nat) t v, Try.f7.params[j]? = some t → args[j]? = some v → Value.okWide Try.prog W .any base t v := hval0
  have hW' := hW
  obtain ⟨p, q, hA0, hV, rfl, hfz, hnd⟩ := hW
  have hA : DataW.TrodAll enc Try.prog W 0 (fun _ => true) true Try.f7.params.toList args.toList ds p := hA0
  rw [Try.params7] at hA hval hsz
  obtain ⟨v0, vs0, d0, ds0, p0, q0, hargs, rfl, rfl, h0, r0⟩ := trodAll_cons hA
  obtain ⟨v1, vs1, d1, ds1, p1, q1, rfl, rfl, rfl, h1, r1⟩ := trodAll_cons r0
  obtain ⟨rfl, rfl, rfl⟩ := trodAll_nil r1
  obtain rfl : args = #[v0, v1] := by cases args; simp_all
  obtain ⟨rfl, rfl⟩ := trodVars_none hV
  obtain ⟨A0, len0, cap0, rfl⟩ := okWide_slice Try.underlying28 (hval 0 28 v0 rfl rfl)
  have k0 := h0
  have lt0 : ∀ x ∈ p0, x.block < W.heap.size := by obtain ⟨m, hm⟩ := k0; exact DataW.trod_lt m _ _ _ hm
  obtain ⟨blV, bl, rd0, pt0, ln0, wf0, kb0⟩ := rd_parts Try.underlying28 Try.underlying31 Try.underlying5 (by kernel_rfl) (by kernel_rfl) h0
  have sz0 : len0 * 24 ≤ 140737488351232 := sized_any hsz (j := 0) (t := 28) rfl rfl Try.underlying28 (by kernel_rfl) h0
  obtain ⟨A1, len1, cap1, rfl⟩ := okWide_slice Try.underlying22 (hval 1 22 v1 rfl rfl)
  have k1 := h1
  have lt1 : ∀ x ∈ p1, x.block < W.heap.size := by obtain ⟨m, hm⟩ := k1; exact DataW.trod_lt m _ _ _ hm
  obtain ⟨pl, rd1, ln1, gd1⟩ := rd_slice' KPut (PutOk W) Try.underlying22 (by kernel_rfl) (by decide) (fun n cs y hy => by obtain ⟨a, b, bn, bc, e, w0, ⟨d, ps, T, _⟩, _, _⟩ := dec33 hy; obtain ⟨l, r, _, wf⟩ := rd_ints Try.underlying31 Try.underlying5 (by kernel_rfl) T; exact ⟨(a, b, bn, bc), e.symm, wf_i64 w0, l, by rw [bytesV_flat]; exact r, fun q hq => wf_u8 (wf q hq)⟩) h1
  have sz1 : len1 * 32 ≤ 140737488351232 := sized_any hsz (j := 1) (t := 22) rfl rfl Try.underlying22 (by kernel_rfl) h1
  clear hA0 hval0 hsz0 hsz
  refine (DiskLoads_c W A0 len0 cap0 blV bl A1 len1 cap1 pl rd0 pt0.toK wf0 rd1 gd1 (by omega) (by omega)).mono fun e W' ⟨v, he, hv, bel⟩ => ?_
  subst he
  subst hv
  exact ⟨_, rfl, _, _, _, [], _, [], hW', trodAll_mk1 (shut_bool Try.underlying4 _), (trodAll_cons_mk (Below.trod laidOut (by kernel_rfl) (of_decide_eq_true (by kernel_rfl)) k0 bel lt0) (trodAll_cons_mk (Below.trod laidOut (by kernel_rfl) (of_decide_eq_true (by kernel_rfl)) k1 bel lt1) trodAll_mk0)), rfl, bel.frame _, fun h => by cases h⟩
theorem over : Rows.diskLoadsRow.holds Try.pinned (OpenSpec.ofChange Rows.diskLoadsSpec) :=
  OpenClaim.holds_of_wide 7 Try.f7 rfl rfl rfl rfl rfl rfl rfl ⟨rfl, rfl, rfl, rfl, rfl⟩ rfl rfl rfl rfl rfl (by kernel_rfl) Try.func7 (by kernel_rfl)
    (of_decide_eq_true (by kernel_rfl)) (by unfold Func.isWrapper; first | (rw [if_pos (by decide +kernel)]; kernel_rfl) | (rw [if_neg (by decide +kernel)]; exact ⟨rfl, rfl⟩))
    (fun os started H enc _ => lifted os started H enc)
end Go.Proofs.Ytpmkedgennnekaa.diskLoads
namespace Go.Proofs.Ytpmkedgennnekaa
/-- The row, under a short name, for the claim. -/
theorem diskLoads_holds : Rows.DiskLoadsSaid := diskLoads.over
end Go.Proofs.Ytpmkedgennnekaa
