/-
  The law JournalGoes: from note to note, through losses of power and openings anew, the note that holds is the one that was saved last; a note that does not follow is refused and changes nothing. For every number of partitions and every list of turns: no condition.
-/
import Derived.Test.YtpmkedgennnekaaRows
import Derived.Test.YtpmkedgennnekaaRo
import Derived.Test.YtpmkedgennnekaaDec
import Derived.Test.YtpmkedgennnekaaRb
import Derived.Test.YtpmkedgennnekaaJour11
set_option linter.unusedVariables false
set_option linter.unusedSimpArgs false
namespace Go.Proofs.Ytpmkedgennnekaa.journalGoes
open Go.ChangeShapes Go.WideShapes Go.ChangeAt Go.RowKit
open Go.Proofs.Ytpmkedgennnekaa.Lg
theorem own : ownKnob Try.prog.godebug = none := by kernel_rfl
theorem laidOut : laidOutB Try.prog = true := by kernel_rfl
set_option maxRecDepth 100000 in
theorem lifted (os : Os) (started : os.Started) (H : Type) (enc : TypeId × Value → H) :
    ReturnsInHanded {} Try.checked os 11 .any (Rows.journalGoesSpec.pre6 enc Try.prog Try.f11 Rows.journalGoesRow.domain false) (Rows.journalGoesSpec.post enc Try.prog Try.f11 false true false false) := by
  refine returnsInHanded_of_change_sized (C := Try.checked) own started (by kernel_rfl) Try.func11
    (ChangeSpec.witness6 (enc := enc) (C := Try.checked) false ⟨#[], #[.int .i64 0, .slice none 0 0], []⟩ 8 (by kernel_rfl) (by kernel_rfl) (by kernel_rfl) (by kernel_rfl)) ?_
  intro W base args ds gs before hval0 hW hcnd hsz0 _
  have hsz : (DataW.weightsEach Try.prog (Try.f11.params.toList ++ Rows.journalGoesSpec.plain.varTypes Try.prog) (ds ++ gs)).all (· ≤ reachBytes) = true := hsz0
  have hval : ∀ (j : Nat) t v, Try.f11.params[j]? = some t → args[j]? = some v → Value.okWide Try.prog W .any base t v := hval0
  have hW' := hW
  obtain ⟨p, q, hA0, hV, rfl, hfz, hnd⟩ := hW
  have hA : DataW.TrodAll enc Try.prog W 0 (fun _ => true) true Try.f11.params.toList args.toList ds p := hA0
  rw [Try.params11] at hA hval hsz
  obtain ⟨v0, vs0, d0, ds0, p0, q0, hargs, rfl, rfl, h0, r0⟩ := trodAll_cons hA
  obtain ⟨v1, vs1, d1, ds1, p1, q1, rfl, rfl, rfl, h1, r1⟩ := trodAll_cons r0
  obtain ⟨rfl, rfl, rfl⟩ := trodAll_nil r1
  obtain rfl : args = #[v0, v1] := by cases args; simp_all
  obtain ⟨rfl, rfl⟩ := trodVars_none hV
  obtain ⟨a0, rfl, rfl, rfl, w0⟩ := open_int Try.underlying3 (hval 0 3 v0 rfl rfl) h0
  have b0 := wf_i64 w0
  obtain ⟨A1, len1, cap1, rfl⟩ := okWide_slice Try.underlying58 (hval 1 58 v1 rfl rfl)
  have k1 := h1
  have lt1 : ∀ x ∈ p1, x.block < W.heap.size := by obtain ⟨m, hm⟩ := k1; exact DataW.trod_lt m _ _ _ hm
  obtain ⟨pl, rd1, ln1, gd1⟩ := rd_sliceW KTurn (TurnOk W) Try.underlying58 (by kernel_rfl) (by decide) (light_of hsz (j := 1) rfl rfl) (fun n cs y hy => by obtain ⟨b, bn, bc, more, same, cut, bad, e, ⟨d, ps, T, _, hw⟩, _, _, _, _⟩ := dec70 hy; obtain ⟨l, r, _, wf⟩ := rd_ints Try.underlying62 Try.underlying3 (by kernel_rfl) T; exact ⟨(b, bn, bc, more, same, cut, bad), e.symm, fun hl => ⟨by have := len_light Try.underlying62 (B := 8) (by kernel_rfl) (fun m hm => hl m (hw m hm)) T; show bn ≤ _; omega, l, r⟩⟩) h1
  have sz1 : len1 * 48 ≤ 140737488351232 := sized_any hsz (j := 1) (t := 58) rfl rfl Try.underlying58 (by kernel_rfl) h1
  clear hA0 hval0 hsz0 hsz
  refine (JournalGoes_c W A1 len1 cap1 pl rd1 gd1 (by omega) a0).mono fun e W' ⟨v, he, hv, bel⟩ => ?_
  subst he
  subst hv
  exact ⟨_, rfl, _, _, _, [], _, [], hW', trodAll_mk1 (shut_bool Try.underlying4 _), (trodAll_cons_mk (shut_int Try.underlying3 w0) (trodAll_cons_mk (Below.trod laidOut (by kernel_rfl) (of_decide_eq_true (by kernel_rfl)) k1 bel lt1) trodAll_mk0)), rfl, bel.frame _, fun h => by cases h⟩
theorem over : Rows.journalGoesRow.holds Try.pinned (OpenSpec.ofChange Rows.journalGoesSpec) :=
  OpenClaim.holds_of_wide 11 Try.f11 rfl rfl rfl rfl rfl rfl rfl ⟨rfl, rfl, rfl, rfl, rfl⟩ rfl rfl rfl rfl rfl (by kernel_rfl) Try.func11 (by kernel_rfl)
    (of_decide_eq_true (by kernel_rfl)) (by unfold Func.isWrapper; first | (rw [if_pos (by decide +kernel)]; kernel_rfl) | (rw [if_neg (by decide +kernel)]; exact ⟨rfl, rfl⟩))
    (fun os started H enc _ => lifted os started H enc)
end Go.Proofs.Ytpmkedgennnekaa.journalGoes
namespace Go.Proofs.Ytpmkedgennnekaa
/-- The row, under a short name, for the claim. -/
theorem journalGoes_holds : Rows.JournalGoesSaid := journalGoes.over
end Go.Proofs.Ytpmkedgennnekaa
