/-
  The law PagesRefuses: a list that is refused changes nothing, and its code is as the document says. For every lists, every write and every choice: no condition.
-/
import Derived.Test.YtipkfdeiallifaaRows
import Derived.Test.YtipkfdeiallifaaRo
import Derived.Test.YtipkfdeiallifaaDec
import Derived.Test.YtipkfdeiallifaaRb
import Derived.Test.YtipkfdeiallifaaPg14
import Derived.Test.YtipkfdeiallifaaRw
set_option linter.unusedVariables false
set_option linter.unusedSimpArgs false
namespace Go.Proofs.Ytipkfdeiallifaa.pagesRefuses
open Go.ChangeShapes Go.WideShapes Go.ChangeAt Go.RowKit
open Go.Proofs.Ytipkfdeiallifaa.Lg
theorem own : ownKnob Try.prog.godebug = none := by kernel_rfl
theorem laidOut : laidOutB Try.prog = true := by kernel_rfl
set_option maxRecDepth 100000 in
theorem lifted (os : Os) (started : os.Started) (H : Type) (enc : TypeId × Value → H) :
    ReturnsInHanded {} Try.checked os 9 .any (Rows.pagesRefusesSpec.pre6 enc Try.prog Try.f9 Rows.pagesRefusesRow.domain false) (Rows.pagesRefusesSpec.post enc Try.prog Try.f9 false true false false) := by
  refine returnsInHanded_of_change_sized (C := Try.checked) own started (by kernel_rfl) Try.func9
    (ChangeSpec.witness6 (enc := enc) (C := Try.checked) false ⟨#[], #[.slice none 0 0, .agg #[.int .i64 0, .slice none 0 0], .int .i64 0], []⟩ 8 (by kernel_rfl) (by kernel_rfl) (by kernel_rfl) (by kernel_rfl)) ?_
  intro W base args ds gs before hval0 hW hcnd hsz0 _
  have hsz : (DataW.weightsEach Try.prog (Try.f9.params.toList ++ Rows.pagesRefusesSpec.plain.varTypes Try.prog) (ds ++ gs)).all (· ≤ reachBytes) = true := hsz0
  have hval : ∀ (j : Nat) t v, Try.f9.params[j]? = some t → args[j]? = some v → Value.okWide Try.prog W .any base t v := hval0
  have hW' := hW
  obtain ⟨p, q, hA0, hV, rfl, hfz, hnd⟩ := hW
  have hA : DataW.TrodAll enc Try.prog W 0 (fun _ => true) true Try.f9.params.toList args.toList ds p := hA0
  rw [Try.params9] at hA hval hsz
  obtain ⟨v0, vs0, d0, ds0, p0, q0, hargs, rfl, rfl, h0, r0⟩ := trodAll_cons hA
  obtain ⟨v1, vs1, d1, ds1, p1, q1, rfl, rfl, rfl, h1, r1⟩ := trodAll_cons r0
  obtain ⟨v2, vs2, d2, ds2, p2, q2, rfl, rfl, rfl, h2, r2⟩ := trodAll_cons r1
  obtain ⟨rfl, rfl, rfl⟩ := trodAll_nil r2
  obtain rfl : args = #[v0, v1, v2] := by cases args; simp_all
  obtain ⟨rfl, rfl⟩ := trodVars_none hV
  obtain ⟨A0, len0, cap0, rfl⟩ := okWide_slice Try.underlying43 (hval 0 43 v0 rfl rfl)
  have k0 := h0
  have lt0 : ∀ x ∈ p0, x.block < W.heap.size := by obtain ⟨m, hm⟩ := k0; exact DataW.trod_lt m _ _ _ hm
  obtain ⟨ls0, rd0, _, gd0⟩ := rd_sliceW El.val (LL W) Try.underlying43 (by kernel_rfl) (by decide) (light_of hsz (j := 0) rfl rfl) (fun n cs y hy => by
    rcases Go.Deep.open_slice Try.underlying51 hy with ⟨hcs, hx⟩ | ⟨a, len', cap', m, n', D, Pl, hcs, _⟩
    · subst hcs
      exact ⟨_, rfl, fun _ => ⟨none, 0, 0, [], [], rfl, PWs.none_ W, by simp [PWok], by decide⟩⟩
    · subst hcs
      have hT : DataW.Trod enc Try.prog W 0 (fun _ => true) true 51 (.slice (some a) len' cap') y.1 y.2 := ⟨n, hy⟩
      exact ⟨_, rfl, fun hl => by obtain ⟨vs, rv, _, gv⟩ := rd_sliceW KW (GoodW W) Try.underlying51 (by kernel_rfl) (by decide) hl (fun n cs y hy2 => by obtain ⟨pv, b, bn, bc, e2, w2, ⟨d2, ps2, T2, _, hw2⟩, _, _⟩ := dec45 hy2; obtain ⟨l, r, ll, wf⟩ := rd_ints Try.underlying28 Try.underlying5 (by kernel_rfl) T2; exact ⟨(pv, b, bn, bc), e2.symm, fun hl2 => ⟨wf_i64 w2, l, by rw [bytesV_flat]; exact r, fun q hq => wf_u8 (wf q hq), by have := len_light Try.underlying28 (B := 1) (by kernel_rfl) (fun m hm => hl2 m (hw2 m hm)) T2; omega⟩⟩) hT; obtain ⟨ws, h1, h2⟩ := PWs.of rv gv; exact ⟨_, _, _, vs, ws, rfl, h1, h2, by have := len_light Try.underlying51 (B := 32) (by kernel_rfl) hl hT; omega⟩⟩) h0
  have ll0 := sized_any hsz (j := 0) (t := 43) rfl rfl Try.underlying43 (B := 24) (by kernel_rfl) h0
  obtain ⟨cs1, rfl, _⟩ := okWide_struct Try.underlying45 (hval 1 45 v1 rfl rfl)
  have k1 := h1
  have lt1 : ∀ x ∈ p1, x.block < W.heap.size := by obtain ⟨m, hm⟩ := k1; exact DataW.trod_lt m _ _ _ hm
  obtain ⟨fu1, hf1⟩ := h1
  obtain ⟨s1_0, s1_1, s1_1n, s1_1c, ec1, g1_0, g1_1, g1_2, g1_3⟩ := dec45 hf1
  obtain rfl : cs1 = #[.int .i64 s1_0, .slice s1_1 s1_1n s1_1c] := Array.ext' ec1
  obtain ⟨dy, psy, Ty, _, hwy⟩ := g1_1
  obtain ⟨lx, rx, llx, wfx⟩ := rd_ints Try.underlying28 Try.underlying5 (by kernel_rfl) Ty
  have lgx : Light Try.prog 45 d1 := light_of hsz (j := 1) rfl rfl
  have lenx := len_light Try.underlying28 (B := 1) (by kernel_rfl) (fun m hm => lgx m (hwy m hm)) Ty
  obtain ⟨a2, rfl, rfl, rfl, w2⟩ := open_int Try.underlying3 (hval 2 3 v2 rfl rfl) h2
  have b2 := wf_i64 w2
  clear hA0 hval0 hsz0 hsz
  refine (PagesRefuses_c W A0 len0 cap0 ls0 s1_0 s1_1 s1_1n s1_1c lx a2 rd0 gd0 (wf_i64 g1_0) (by rw [bytesV_flat]; exact rx) (fun q hq => wf_u8 (wfx q hq)) (by omega) (by omega)).mono fun e W' ⟨v, he, hv, bel⟩ => ?_
  subst he
  subst hv
  exact ⟨_, rfl, _, _, _, [], _, [], hW', trodAll_mk1 (shut_bool Try.underlying4 _), (trodAll_cons_mk (Below.trod laidOut (by kernel_rfl) (of_decide_eq_true (by kernel_rfl)) k0 bel lt0) (trodAll_cons_mk (Below.trod laidOut (by kernel_rfl) (of_decide_eq_true (by kernel_rfl)) k1 bel lt1) (trodAll_cons_mk (shut_int Try.underlying3 w2) trodAll_mk0))), rfl, bel.frame _, fun h => by cases h⟩
theorem over : Rows.pagesRefusesRow.holds Try.pinned (OpenSpec.ofChange Rows.pagesRefusesSpec) :=
  OpenClaim.holds_of_wide 9 Try.f9 rfl rfl rfl rfl rfl rfl rfl ⟨rfl, rfl, rfl, rfl, rfl⟩ rfl rfl rfl rfl rfl (by kernel_rfl) Try.func9 (by kernel_rfl)
    (of_decide_eq_true (by kernel_rfl)) (by unfold Func.isWrapper; first | (rw [if_pos (by decide +kernel)]; kernel_rfl) | (rw [if_neg (by decide +kernel)]; exact ⟨rfl, rfl⟩))
    (fun os started H enc _ => lifted os started H enc)
end Go.Proofs.Ytipkfdeiallifaa.pagesRefuses
namespace Go.Proofs.Ytipkfdeiallifaa
/-- The row, under a short name, for the claim. -/
theorem pagesRefuses_holds : Rows.PagesRefusesSaid := pagesRefuses.over
end Go.Proofs.Ytipkfdeiallifaa
