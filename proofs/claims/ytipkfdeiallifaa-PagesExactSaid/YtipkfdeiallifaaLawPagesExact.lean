/-
  The law PagesExact: of every script over a disk and the book on it, every answer is the document's, and so are the disk's image and how often it was read and written. For every number of blocks and of pages and every script: no condition.
-/
import Derived.Test.YtipkfdeiallifaaRows
import Derived.Test.YtipkfdeiallifaaRo
import Derived.Test.YtipkfdeiallifaaDec
import Derived.Test.YtipkfdeiallifaaRb
import Derived.Test.YtipkfdeiallifaaPg9
set_option linter.unusedVariables false
set_option linter.unusedSimpArgs false
namespace Go.Proofs.Ytipkfdeiallifaa.pagesExact
open Go.ChangeShapes Go.WideShapes Go.ChangeAt Go.RowKit
open Go.Proofs.Ytipkfdeiallifaa.Lg
theorem own : ownKnob Try.prog.godebug = none := by kernel_rfl
theorem laidOut : laidOutB Try.prog = true := by kernel_rfl
set_option maxRecDepth 100000 in
theorem lifted (os : Os) (started : os.Started) (H : Type) (enc : TypeId × Value → H) :
    ReturnsInHanded {} Try.checked os 12 .any (Rows.pagesExactSpec.pre6 enc Try.prog Try.f12 Rows.pagesExactRow.domain false) (Rows.pagesExactSpec.post enc Try.prog Try.f12 false true false false) := by
  refine returnsInHanded_of_change_sized (C := Try.checked) own started (by kernel_rfl) Try.func12
    (ChangeSpec.witness6 (enc := enc) (C := Try.checked) false ⟨#[], #[.int .i64 0, .int .i64 0, .slice none 0 0], []⟩ 8 (by kernel_rfl) (by kernel_rfl) (by kernel_rfl) (by kernel_rfl)) ?_
  intro W base args ds gs before hval0 hW hcnd hsz0 _
  have hsz : (DataW.weightsEach Try.prog (Try.f12.params.toList ++ Rows.pagesExactSpec.plain.varTypes Try.prog) (ds ++ gs)).all (· ≤ reachBytes) = true := hsz0
  have hval : ∀ (j : Nat) t v, Try.f12.params[j]? = some t → args[j]? = some v → Value.okWide Try.prog W .any base t v := hval0
  have hW' := hW
  obtain ⟨p, q, hA0, hV, rfl, hfz, hnd⟩ := hW
  have hA : DataW.TrodAll enc Try.prog W 0 (fun _ => true) true Try.f12.params.toList args.toList ds p := hA0
  rw [Try.params12] at hA hval hsz
  obtain ⟨v0, vs0, d0, ds0, p0, q0, hargs, rfl, rfl, h0, r0⟩ := trodAll_cons hA
  obtain ⟨v1, vs1, d1, ds1, p1, q1, rfl, rfl, rfl, h1, r1⟩ := trodAll_cons r0
  obtain ⟨v2, vs2, d2, ds2, p2, q2, rfl, rfl, rfl, h2, r2⟩ := trodAll_cons r1
  obtain ⟨rfl, rfl, rfl⟩ := trodAll_nil r2
  obtain rfl : args = #[v0, v1, v2] := by cases args; simp_all
  obtain ⟨rfl, rfl⟩ := trodVars_none hV
  obtain ⟨a0, rfl, rfl, rfl, w0⟩ := open_int Try.underlying3 (hval 0 3 v0 rfl rfl) h0
  have b0 := wf_i64 w0
  obtain ⟨a1, rfl, rfl, rfl, w1⟩ := open_int Try.underlying3 (hval 1 3 v1 rfl rfl) h1
  have b1 := wf_i64 w1
  obtain ⟨A2, len2, cap2, rfl⟩ := okWide_slice Try.underlying67 (hval 2 67 v2 rfl rfl)
  have k2 := h2
  have lt2 : ∀ x ∈ p2, x.block < W.heap.size := by obtain ⟨m, hm⟩ := k2; exact DataW.trod_lt m _ _ _ hm
  obtain ⟨pl, rd2, ln2, gd2⟩ := rd_sliceW KOpP (OpPOk W) Try.underlying67 (by kernel_rfl) (by decide) (light_of hsz (j := 2) rfl rfl) (fun n cs y hy => by obtain ⟨kd, nn, a, an, ac, e, w0, w1, ⟨d, ps, T, _, hw⟩, _, _⟩ := dec78 hy; exact ⟨(kd, nn, a, an, ac), e.symm, fun hl => ⟨(wf_i64 w1).2, by obtain ⟨vs, rv, _, gv⟩ := rd_sliceW KW (GoodW W) Try.underlying51 (by kernel_rfl) (by decide) (fun m hm => hl m (hw m hm)) (fun n cs y hy2 => by obtain ⟨pv, b, bn, bc, e2, w2, ⟨d2, ps2, T2, _, hw2⟩, _, _⟩ := dec45 hy2; obtain ⟨l, r, ll, wf⟩ := rd_ints Try.underlying28 Try.underlying5 (by kernel_rfl) T2; exact ⟨(pv, b, bn, bc), e2.symm, fun hl2 => ⟨wf_i64 w2, l, by rw [bytesV_flat]; exact r, fun q hq => wf_u8 (wf q hq), by have := len_light Try.underlying28 (B := 1) (by kernel_rfl) (fun m hm => hl2 m (hw2 m hm)) T2; omega⟩⟩) T; obtain ⟨ws, h1, h2⟩ := PWs.of rv gv; exact ⟨vs, ws, h1, h2⟩, by have := len_light Try.underlying51 (B := 32) (by kernel_rfl) (fun m hm => hl m (hw m hm)) T; show an ≤ _; omega⟩⟩) h2
  have sz2 : len2 * 40 ≤ 140737488351232 := sized_any hsz (j := 2) (t := 67) rfl rfl Try.underlying67 (by kernel_rfl) h2
  clear hA0 hval0 hsz0 hsz
  refine (PagesExact_c W a0 a1 A2 len2 cap2 pl rd2 gd2 (by omega)).mono fun e W' ⟨v, he, hv, bel⟩ => ?_
  subst he
  subst hv
  exact ⟨_, rfl, _, _, _, [], _, [], hW', trodAll_mk1 (shut_bool Try.underlying4 _), (trodAll_cons_mk (shut_int Try.underlying3 w0) (trodAll_cons_mk (shut_int Try.underlying3 w1) (trodAll_cons_mk (Below.trod laidOut (by kernel_rfl) (of_decide_eq_true (by kernel_rfl)) k2 bel lt2) trodAll_mk0))), rfl, bel.frame _, fun h => by cases h⟩
theorem over : Rows.pagesExactRow.holds Try.pinned (OpenSpec.ofChange Rows.pagesExactSpec) :=
  OpenClaim.holds_of_wide 12 Try.f12 rfl rfl rfl rfl rfl rfl rfl ⟨rfl, rfl, rfl, rfl, rfl⟩ rfl rfl rfl rfl rfl (by kernel_rfl) Try.func12 (by kernel_rfl)
    (of_decide_eq_true (by kernel_rfl)) (by unfold Func.isWrapper; first | (rw [if_pos (by decide +kernel)]; kernel_rfl) | (rw [if_neg (by decide +kernel)]; exact ⟨rfl, rfl⟩))
    (fun os started H enc _ => lifted os started H enc)
end Go.Proofs.Ytipkfdeiallifaa.pagesExact
namespace Go.Proofs.Ytipkfdeiallifaa
/-- The row, under a short name, for the claim. -/
theorem pagesExact_holds : Rows.PagesExactSaid := pagesExact.over
end Go.Proofs.Ytipkfdeiallifaa
