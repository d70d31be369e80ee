/-
  The law PagesShadow: with any one root put back as it was ahead of a Put, the book still opens, and if that root was the new one, it has the pages of before. For every lists: no condition.
-/
import Derived.Test.YtipkfdeiallifaaRows
import Derived.Test.YtipkfdeiallifaaRo
import Derived.Test.YtipkfdeiallifaaDec
import Derived.Test.YtipkfdeiallifaaRb
import Derived.Test.YtipkfdeiallifaaPg13
import Derived.Test.YtipkfdeiallifaaRw
set_option linter.unusedVariables false
set_option linter.unusedSimpArgs false
namespace Go.Proofs.Ytipkfdeiallifaa.pagesShadow
open Go.ChangeShapes Go.WideShapes Go.ChangeAt Go.RowKit
open Go.Proofs.Ytipkfdeiallifaa.Lg
theorem own : ownKnob Try.prog.godebug = none := by kernel_rfl
theorem laidOut : laidOutB Try.prog = true := by kernel_rfl
set_option maxRecDepth 100000 in
theorem lifted (os : Os) (started : os.Started) (H : Type) (enc : TypeId × Value → H) :
    ReturnsInHanded {} Try.checked os 14 .any (Rows.pagesShadowSpec.pre6 enc Try.prog Try.f14 Rows.pagesShadowRow.domain false) (Rows.pagesShadowSpec.post enc Try.prog Try.f14 false true false false) := by
  refine returnsInHanded_of_change_sized (C := Try.checked) own started (by kernel_rfl) Try.func14
    (ChangeSpec.witness6 (enc := enc) (C := Try.checked) false ⟨#[], #[.slice none 0 0], []⟩ 8 (by kernel_rfl) (by kernel_rfl) (by kernel_rfl) (by kernel_rfl)) ?_
  intro W base args ds gs before hval0 hW hcnd hsz0 _
  have hsz : (DataW.weightsEach Try.prog (Try.f14.params.toList ++ Rows.pagesShadowSpec.plain.varTypes Try.prog) (ds ++ gs)).all (· ≤ reachBytes) = true := hsz0
  have hval : ∀ (j : Nat) t v, Try.f14.params[j]? = some t → args[j]? = some v → Value.okWide Try.prog W .any base t v := hval0
  have hW' := hW
  obtain ⟨p, q, hA0, hV, rfl, hfz, hnd⟩ := hW
  have hA : DataW.TrodAll enc Try.prog W 0 (fun _ => true) true Try.f14.params.toList args.toList ds p := hA0
  rw [Try.params14] at hA hval hsz
  obtain ⟨v0, vs0, d0, ds0, p0, q0, hargs, rfl, rfl, h0, r0⟩ := trodAll_cons hA
  obtain ⟨rfl, rfl, rfl⟩ := trodAll_nil r0
  obtain rfl : args = #[v0] := by cases args; simp_all
  obtain ⟨rfl, rfl⟩ := trodVars_none hV
  obtain ⟨A0, len0, cap0, rfl⟩ := okWide_slice Try.underlying43 (hval 0 43 v0 rfl rfl)
  have k0 := h0
  have lt0 : ∀ x ∈ p0, x.block < W.heap.size := by obtain ⟨m, hm⟩ := k0; exact DataW.trod_lt m _ _ _ hm
  obtain ⟨ls0, rd0, _, gd0⟩ := rd_sliceW El.val (LL W) Try.underlying43 (by kernel_rfl) (by decide) (light_of hsz (j := 0) rfl rfl) (fun n cs y hy => by
    rcases Go.Deep.open_slice Try.underlying51 hy with ⟨hcs, hx⟩ | ⟨a, len', cap', m, n', D, Pl, hcs, _⟩
    · subst hcs
      exact ⟨_, rfl, fun _ => ⟨none, 0, 0, [], [], rfl, PWs.none_ W, by simp [PWok], by decide⟩⟩
    · subst hcs
      have hT : DataW.Trod enc Try.prog W 0 (fun _ => true) true 51 (.slice (some a) len' cap') y.1 y.2 := ⟨n, hy⟩
      exact ⟨_, rfl, fun hl => by obtain ⟨vs, rv, _, gv⟩ := rd_sliceW KW (GoodW W) Try.underlying51 (by kernel_rfl) (by decide) hl (fun n cs y hy2 => by obtain ⟨pv, b, bn, bc, e2, w2, ⟨d2, ps2, T2, _, hw2⟩, _, _⟩ := dec45 hy2; obtain ⟨l, r, ll, wf⟩ := rd_ints Try.underlying28 Try.underlying5 (by kernel_rfl) T2; exact ⟨(pv, b, bn, bc), e2.symm, fun hl2 => ⟨wf_i64 w2, l, by rw [bytesV_flat]; exact r, fun q hq => wf_u8 (wf q hq), by have := len_light Try.underlying28 (B := 1) (by kernel_rfl) (fun m hm => hl2 m (hw2 m hm)) T2; omega⟩⟩) hT; obtain ⟨ws, h1, h2⟩ := PWs.of rv gv; exact ⟨_, _, _, vs, ws, rfl, h1, h2, by have := len_light Try.underlying51 (B := 32) (by kernel_rfl) hl hT; omega⟩⟩) h0
  have ll0 := sized_any hsz (j := 0) (t := 43) rfl rfl Try.underlying43 (B := 24) (by kernel_rfl) h0
  clear hA0 hval0 hsz0 hsz
  refine (PagesShadow_c W A0 len0 cap0 ls0 rd0 gd0 (by omega)).mono fun e W' ⟨v, he, hv, bel⟩ => ?_
  subst he
  subst hv
  exact ⟨_, rfl, _, _, _, [], _, [], hW', trodAll_mk1 (shut_bool Try.underlying4 _), (trodAll_cons_mk (Below.trod laidOut (by kernel_rfl) (of_decide_eq_true (by kernel_rfl)) k0 bel lt0) trodAll_mk0), rfl, bel.frame _, fun h => by cases h⟩
theorem over : Rows.pagesShadowRow.holds Try.pinned (OpenSpec.ofChange Rows.pagesShadowSpec) :=
  OpenClaim.holds_of_wide 14 Try.f14 rfl rfl rfl rfl rfl rfl rfl ⟨rfl, rfl, rfl, rfl, rfl⟩ rfl rfl rfl rfl rfl (by kernel_rfl) Try.func14 (by kernel_rfl)
    (of_decide_eq_true (by kernel_rfl)) (by unfold Func.isWrapper; first | (rw [if_pos (by decide +kernel)]; kernel_rfl) | (rw [if_neg (by decide +kernel)]; exact ⟨rfl, rfl⟩))
    (fun os started H enc _ => lifted os started H enc)
end Go.Proofs.Ytipkfdeiallifaa.pagesShadow
namespace Go.Proofs.Ytipkfdeiallifaa
/-- The row, under a short name, for the claim. -/
theorem pagesShadow_holds : Rows.PagesShadowSaid := pagesShadow.over
end Go.Proofs.Ytipkfdeiallifaa
