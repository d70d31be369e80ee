/-
  The law JournalExact: of every script over a disk and the journal on it, every answer is the document's, and so are the disk's image and how often it was written. For every number of blocks and of partitions and every script: no condition.
-/
import Derived.Test.YtpmkedgennnekaaRows
import Derived.Test.YtpmkedgennnekaaRo
import Derived.Test.YtpmkedgennnekaaDec
import Derived.Test.YtpmkedgennnekaaRb
import Derived.Test.YtpmkedgennnekaaJour15
set_option linter.unusedVariables false
set_option linter.unusedSimpArgs false
namespace Go.Proofs.Ytpmkedgennnekaa.journalExact
open Go.ChangeShapes Go.WideShapes Go.ChangeAt Go.RowKit
open Go.Proofs.Ytpmkedgennnekaa.Lg
theorem own : ownKnob Try.prog.godebug = none := by kernel_rfl
theorem laidOut : laidOutB Try.prog = true := by kernel_rfl
set_option maxRecDepth 100000 in
theorem lifted (os : Os) (started : os.Started) (H : Type) (enc : TypeId × Value → H) :
    ReturnsInHanded {} Try.checked os 10 .any (Rows.journalExactSpec.pre6 enc Try.prog Try.f10 Rows.journalExactRow.domain false) (Rows.journalExactSpec.post enc Try.prog Try.f10 false true false false) := by
  refine returnsInHanded_of_change_sized (C := Try.checked) own started (by kernel_rfl) Try.func10
    (ChangeSpec.witness6 (enc := enc) (C := Try.checked) false ⟨#[], #[.int .i64 0, .int .i64 0, .slice none 0 0], []⟩ 8 (by kernel_rfl) (by kernel_rfl) (by kernel_rfl) (by kernel_rfl)) ?_
  intro W base args ds gs before hval0 hW hcnd hsz0 _
  have hsz : (DataW.weightsEach Try.prog (Try.f10.params.toList ++ Rows.journalExactSpec.plain.varTypes Try.prog) (ds ++ gs)).all (· ≤ reachBytes) = true := hsz0
  have hval : ∀ (j : Nat) t v, Try.f10.params[j]? = some t → args[j]? = some v → Value.okWide Try.prog W .any base t v := hval0
  have hW' := hW
  obtain ⟨p, q, hA0, hV, rfl, hfz, hnd⟩ := hW
  have hA : DataW.TrodAll enc Try.prog W 0 (fun _ => true) true Try.f10.params.toList args.toList ds p := hA0
  rw [Try.params10] at hA hval hsz
  obtain ⟨v0, vs0, d0, ds0, p0, q0, hargs, rfl, rfl, h0, r0⟩ := trodAll_cons hA
  obtain ⟨v1, vs1, d1, ds1, p1, q1, rfl, rfl, rfl, h1, r1⟩ := trodAll_cons r0
  obtain ⟨v2, vs2, d2, ds2, p2, q2, rfl, rfl, rfl, h2, r2⟩ := trodAll_cons r1
  obtain ⟨rfl, rfl, rfl⟩ := trodAll_nil r2
  obtain rfl : args = #[v0, v1, v2] := by cases args; simp_all
  obtain ⟨rfl, rfl⟩ := trodVars_none hV
  obtain ⟨a0, rfl, rfl, rfl, w0⟩ := open_int Try.underlying3 (hval 0 3 v0 rfl rfl) h0
  have b0 := wf_i64 w0
  obtain ⟨a1, rfl, rfl, rfl, w1⟩ := open_int Try.underlying3 (hval 1 3 v1 rfl rfl) h1
  have b1 := wf_i64 w1
  obtain ⟨A2, len2, cap2, rfl⟩ := okWide_slice Try.underlying75 (hval 2 75 v2 rfl rfl)
  have k2 := h2
  have lt2 : ∀ x ∈ p2, x.block < W.heap.size := by obtain ⟨m, hm⟩ := k2; exact DataW.trod_lt m _ _ _ hm
  obtain ⟨pl, rd2, ln2, gd2⟩ := rd_sliceW KOpJ (OpJOk W) Try.underlying75 (by kernel_rfl) (by decide) (light_of hsz (j := 2) rfl rfl) (fun n cs y hy => by obtain ⟨kd, nn, bt, a, an, ac, b, bn, bc, at_, e, _, w1, _, ⟨d, ps, T, _, hw⟩, _, _, ⟨d2, ps2, T2, _, hw2⟩, _, _, _⟩ := dec80 hy; obtain ⟨l, r, _, wf⟩ := rd_ints Try.underlying62 Try.underlying3 (by kernel_rfl) T; obtain ⟨l2, r2, _, wf2⟩ := rd_ints Try.underlying62 Try.underlying3 (by kernel_rfl) T2; exact ⟨(kd, nn, bt, (a, an, ac), (b, bn, bc), at_), e.symm, fun hl => ⟨(wf_i64 w1).2, ⟨l, r⟩, ⟨l2, r2⟩, by have := len_light Try.underlying62 (B := 8) (by kernel_rfl) (fun m hm => hl m (hw m hm)) T; show an ≤ _; omega, by have := len_light Try.underlying62 (B := 8) (by kernel_rfl) (fun m hm => hl m (hw2 m hm)) T2; show bn ≤ _; omega⟩⟩) h2
  have sz2 : len2 * 80 ≤ 140737488351232 := sized_any hsz (j := 2) (t := 75) rfl rfl Try.underlying75 (by kernel_rfl) h2
  clear hA0 hval0 hsz0 hsz
  refine (JournalExact_c W a0 a1 A2 len2 cap2 pl rd2 gd2 (by omega)).mono fun e W' ⟨v, he, hv, bel⟩ => ?_
  subst he
  subst hv
  exact ⟨_, rfl, _, _, _, [], _, [], hW', trodAll_mk1 (shut_bool Try.underlying4 _), (trodAll_cons_mk (shut_int Try.underlying3 w0) (trodAll_cons_mk (shut_int Try.underlying3 w1) (trodAll_cons_mk (Below.trod laidOut (by kernel_rfl) (of_decide_eq_true (by kernel_rfl)) k2 bel lt2) trodAll_mk0))), rfl, bel.frame _, fun h => by cases h⟩
theorem over : Rows.journalExactRow.holds Try.pinned (OpenSpec.ofChange Rows.journalExactSpec) :=
  OpenClaim.holds_of_wide 10 Try.f10 rfl rfl rfl rfl rfl rfl rfl ⟨rfl, rfl, rfl, rfl, rfl⟩ rfl rfl rfl rfl rfl (by kernel_rfl) Try.func10 (by kernel_rfl)
    (of_decide_eq_true (by kernel_rfl)) (by unfold Func.isWrapper; first | (rw [if_pos (by decide +kernel)]; kernel_rfl) | (rw [if_neg (by decide +kernel)]; exact ⟨rfl, rfl⟩))
    (fun os started H enc _ => lifted os started H enc)
end Go.Proofs.Ytpmkedgennnekaa.journalExact
namespace Go.Proofs.Ytpmkedgennnekaa
/-- The row, under a short name, for the claim. -/
theorem journalExact_holds : Rows.JournalExactSaid := journalExact.over
end Go.Proofs.Ytpmkedgennnekaa
