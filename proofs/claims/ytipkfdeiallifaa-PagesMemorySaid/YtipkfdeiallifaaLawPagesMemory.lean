/-
  The law PagesMemory: what is handed to a Put stays, spare room and all, and is not kept; what Get answers is new memory. For every list: no condition.
-/
import Derived.Test.YtipkfdeiallifaaRows
import Derived.Test.YtipkfdeiallifaaRo
import Derived.Test.YtipkfdeiallifaaDec
import Derived.Test.YtipkfdeiallifaaRb
import Derived.Test.YtipkfdeiallifaaPg15
import Derived.Test.YtipkfdeiallifaaRw
set_option linter.unusedVariables false
set_option linter.unusedSimpArgs false
namespace Go.Proofs.Ytipkfdeiallifaa.pagesMemory
open Go.ChangeShapes Go.WideShapes Go.ChangeAt Go.RowKit
open Go.Proofs.Ytipkfdeiallifaa.Lg
theorem own : ownKnob Try.prog.godebug = none := by kernel_rfl
theorem laidOut : laidOutB Try.prog = true := by kernel_rfl
set_option maxRecDepth 100000 in
theorem lifted (os : Os) (started : os.Started) (H : Type) (enc : TypeId × Value → H) :
    ReturnsInHanded {} Try.checked os 10 .any (Rows.pagesMemorySpec.pre6 enc Try.prog Try.f10 Rows.pagesMemoryRow.domain false) (Rows.pagesMemorySpec.post enc Try.prog Try.f10 false true false false) := by
  refine returnsInHanded_of_change_sized (C := Try.checked) own started (by kernel_rfl) Try.func10
    (ChangeSpec.witness6 (enc := enc) (C := Try.checked) false ⟨#[], #[.slice none 0 0], []⟩ 8 (by kernel_rfl) (by kernel_rfl) (by kernel_rfl) (by kernel_rfl)) ?_
  intro W base args ds gs before hval0 hW hcnd hsz0 _
  have hsz : (DataW.weightsEach Try.prog (Try.f10.params.toList ++ Rows.pagesMemorySpec.plain.varTypes Try.prog) (ds ++ gs)).all (· ≤ reachBytes) = true := hsz0
  have hval : ∀ (j : Nat) t v, Try.f10.params[j]? = some t → args[j]? = some v → Value.okWide Try.prog W .any base t v := hval0
  have hW' := hW
  obtain ⟨p, q, hA0, hV, rfl, hfz, hnd⟩ := hW
  have hA : DataW.TrodAll enc Try.prog W 0 (fun _ => true) true Try.f10.params.toList args.toList ds p := hA0
  rw [Try.params10] at hA hval hsz
  obtain ⟨v0, vs0, d0, ds0, p0, q0, hargs, rfl, rfl, h0, r0⟩ := trodAll_cons hA
  obtain ⟨rfl, rfl, rfl⟩ := trodAll_nil r0
  obtain rfl : args = #[v0] := by cases args; simp_all
  obtain ⟨rfl, rfl⟩ := trodVars_none hV
  obtain ⟨A0, len0, cap0, rfl⟩ := okWide_slice Try.underlying51 (hval 0 51 v0 rfl rfl)
  have k0 := h0
  have lt0 : ∀ x ∈ p0, x.block < W.heap.size := by obtain ⟨m, hm⟩ := k0; exact DataW.trod_lt m _ _ _ hm
  have lg0 : Light Try.prog 51 d0 := light_of hsz (j := 0) rfl rfl
  obtain ⟨vw0, rv0, _, gv0⟩ := rd_sliceW KW (GoodW W) Try.underlying51 (by kernel_rfl) (by decide) lg0 (fun n cs y hy2 => by obtain ⟨pv, b, bn, bc, e2, w2, ⟨d2, ps2, T2, _, hw2⟩, _, _⟩ := dec45 hy2; obtain ⟨l, r, ll, wf⟩ := rd_ints Try.underlying28 Try.underlying5 (by kernel_rfl) T2; exact ⟨(pv, b, bn, bc), e2.symm, fun hl2 => ⟨wf_i64 w2, l, by rw [bytesV_flat]; exact r, fun q hq => wf_u8 (wf q hq), by have := len_light Try.underlying28 (B := 1) (by kernel_rfl) (fun m hm => hl2 m (hw2 m hm)) T2; omega⟩⟩) h0
  obtain ⟨ww0, pw0, ok0⟩ := PWs.of rv0 gv0
  have lw0 := len_light Try.underlying51 (B := 32) (by kernel_rfl) lg0 h0
  clear hA0 hval0 hsz0 hsz
  refine (PagesMemory_c W A0 len0 cap0 vw0 ww0 pw0 ok0 (by omega)).mono fun e W' ⟨v, he, hv, bel⟩ => ?_
  subst he
  subst hv
  exact ⟨_, rfl, _, _, _, [], _, [], hW', trodAll_mk1 (shut_bool Try.underlying4 _), (trodAll_cons_mk (Below.trod laidOut (by kernel_rfl) (of_decide_eq_true (by kernel_rfl)) k0 bel lt0) trodAll_mk0), rfl, bel.frame _, fun h => by cases h⟩
theorem over : Rows.pagesMemoryRow.holds Try.pinned (OpenSpec.ofChange Rows.pagesMemorySpec) :=
  OpenClaim.holds_of_wide 10 Try.f10 rfl rfl rfl rfl rfl rfl rfl ⟨rfl, rfl, rfl, rfl, rfl⟩ rfl rfl rfl rfl rfl (by kernel_rfl) Try.func10 (by kernel_rfl)
    (of_decide_eq_true (by kernel_rfl)) (by unfold Func.isWrapper; first | (rw [if_pos (by decide +kernel)]; kernel_rfl) | (rw [if_neg (by decide +kernel)]; exact ⟨rfl, rfl⟩))
    (fun os started H enc _ => lifted os started H enc)
end Go.Proofs.Ytipkfdeiallifaa.pagesMemory
namespace Go.Proofs.Ytipkfdeiallifaa
/-- The row, under a short name, for the claim. -/
theorem pagesMemory_holds : Rows.PagesMemorySaid := pagesMemory.over
end Go.Proofs.Ytipkfdeiallifaa
