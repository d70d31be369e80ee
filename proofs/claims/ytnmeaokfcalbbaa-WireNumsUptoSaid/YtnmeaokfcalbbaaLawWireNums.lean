/-
  The law WireNums of the wire, the second form (what it reads is of bulk at most 1048576): Nums of every list answers as the reference, and is read again with any bytes behind it.
-/
import Derived.Test.YtnmeaokfcalbbaaRows
import Derived.Test.YtnmeaokfcalbbaaRo
import Derived.Deep.CondSized
import Derived.Test.YtnmeaokfcalbbaaRb
import Derived.Test.YtnmeaokfcalbbaaWire5
set_option linter.unusedVariables false
set_option linter.unusedSimpArgs false
namespace Go.Proofs.Ytnmeaokfcalbbaa.wireNumsUpto
open Go.ChangeShapes Go.WideShapes Go.ChangeAt Go.RowKit
open Go.Proofs.Ytnmeaokfcalbbaa.Lg Go.Proofs.Ytnmeaokfcalbbaa.WirePure
theorem own : ownKnob Try.prog.godebug = none := by kernel_rfl
theorem laidOut : laidOutB Try.prog = true := by kernel_rfl
set_option maxRecDepth 100000 in
theorem lifted (os : Os) (started : os.Started) (H : Type) (enc : TypeId × Value → H) (F : Stop.Interp) :
    ReturnsInHanded {} Try.checked os 13 .any ((Rows.OpenSpec.upto Rows.wireNumsSpec).pre6 enc Try.prog Try.f13 Rows.wireNumsUptoRow.domain false) (((Rows.OpenSpec.upto Rows.wireNumsSpec).at F).post enc Try.prog Try.f13 false true false false) := by
  refine returnsInHanded_of_cond_sized (C := Try.checked) (s := Rows.OpenSpec.upto Rows.wireNumsSpec) (k := Rows.uptoSmall) rfl own started (by kernel_rfl) Try.func13
    (OpenSpec.witness (enc := enc) (C := Try.checked) (s := Rows.OpenSpec.upto Rows.wireNumsSpec) (k := Rows.uptoSmall) rfl false ⟨#[], #[.slice none 0 0, .slice none 0 0], []⟩ 8 (by kernel_rfl) (by kernel_rfl) (by kernel_rfl)
      (x := ([.nil, .nil], [], [])) (by kernel_rfl) rfl (by kernel_rfl)) ?_
  intro W base args ds gs before hval0 hW hcnd hk0 hsz0 _
  have hsz : (DataW.weightsEach Try.prog (Try.f13.params.toList ++ (Rows.OpenSpec.upto Rows.wireNumsSpec).bare.plain.varTypes Try.prog) (ds ++ gs)).all (· ≤ reachBytes) = true := hsz0
  have hval : ∀ (j : Nat) t v, Try.f13.params[j]? = some t → args[j]? = some v → Value.okWide Try.prog W .any base t v := hval0
  have hW' := hW
  obtain ⟨p, q, hA0, hV, rfl, hfz, hnd⟩ := hW
  have hA : DataW.TrodAll enc Try.prog W 0 (fun _ => true) true Try.f13.params.toList args.toList ds p := hA0
  rw [Try.params13] at hA hval hsz
  obtain ⟨v0, vs0, d0, ds0, p0, q0, hargs, rfl, rfl, h0, r0⟩ := trodAll_cons hA
  obtain ⟨v1, vs1, d1, ds1, p1, q1, rfl, rfl, rfl, h1, r1⟩ := trodAll_cons r0
  obtain ⟨rfl, rfl, rfl⟩ := trodAll_nil r1
  obtain rfl : args = #[v0, v1] := by cases args; simp_all
  obtain ⟨rfl, rfl⟩ := trodVars_none hV
  have hB : Rows.uptoBulkAll ([d0, d1] ++ []) ≤ 1048576 := of_decide_eq_true hk0
  simp only [List.append_nil, Rows.uptoBulkAll] at hB
  have one0 := bulk_one d0
  have one1 := bulk_one d1
  obtain ⟨A0, len0, cap0, rfl⟩ := okWide_slice Try.underlying46 (hval 0 46 v0 rfl rfl)
  have k0 := h0
  have lt0 : ∀ x ∈ p0, x.block < W.heap.size := by obtain ⟨m, hm⟩ := k0; exact DataW.trod_lt m _ _ _ hm
  obtain ⟨l, rd0, ln0, wf0⟩ := rd_ints Try.underlying46 Try.underlying3 (by kernel_rfl) h0
  have sz0 : len0 * 8 ≤ 140737488351232 := sized_nums hsz (j := 0) (t := 46) rfl rfl Try.underlying46 Try.underlying3 (by kernel_rfl) (by kernel_rfl) h0
  have kb0 : len0 + 1 ≤ Rows.uptoBulk d0 := bulk_slice Try.underlying46 h0
  obtain ⟨A1, len1, cap1, rfl⟩ := okWide_slice Try.underlying22 (hval 1 22 v1 rfl rfl)
  have k1 := h1
  have lt1 : ∀ x ∈ p1, x.block < W.heap.size := by obtain ⟨m, hm⟩ := k1; exact DataW.trod_lt m _ _ _ hm
  obtain ⟨r, rd1, ln1, wf1⟩ := rd_ints Try.underlying22 Try.underlying5 (by kernel_rfl) h1
  have sz1 : len1 * 1 ≤ 140737488351232 := sized_nums hsz (j := 1) (t := 22) rfl rfl Try.underlying22 Try.underlying5 (by kernel_rfl) (by kernel_rfl) h1
  have kb1 : len1 + 1 ≤ Rows.uptoBulk d1 := bulk_slice Try.underlying22 h1
  clear hA0 hval0 hsz0 hsz hk0
  refine (WireNums_c W A0 len0 cap0 l A1 len1 cap1 r rd0 (fun q hq => (wf_i64 (wf0 q hq)).2) (by rw [bytesV_flat]; exact rd1) (fun q hq => wf_u8 (wf1 q hq)) (by omega) (by omega)).mono fun e W' ⟨v, he, hv, bel⟩ => ?_
  subst he
  subst hv
  exact ⟨_, rfl, _, _, _, [], _, [], hW', trodAll_mk1 (shut_bool Try.underlying4 _), (trodAll_cons_mk (Below.trod laidOut (by kernel_rfl) (of_decide_eq_true (by kernel_rfl)) k0 bel lt0) (trodAll_cons_mk (Below.trod laidOut (by kernel_rfl) (of_decide_eq_true (by kernel_rfl)) k1 bel lt1) trodAll_mk0)), rfl, bel.frame _, fun h => by cases h⟩
theorem over : Rows.wireNumsUptoRow.holds Try.pinned (Rows.OpenSpec.upto Rows.wireNumsSpec) :=
  OpenClaim.holds_of_cond 13 Try.f13 rfl rfl rfl rfl rfl rfl rfl ⟨rfl, rfl, rfl, rfl, rfl⟩ rfl rfl rfl rfl rfl (by kernel_rfl) Try.func13 (by kernel_rfl)
    (of_decide_eq_true (by kernel_rfl)) (by unfold Func.isWrapper; first | (rw [if_pos (by decide +kernel)]; kernel_rfl) | (rw [if_neg (by decide +kernel)]; exact ⟨rfl, rfl⟩))
    (fun os started H enc _ F => lifted os started H enc F)
end Go.Proofs.Ytnmeaokfcalbbaa.wireNumsUpto
namespace Go.Proofs.Ytnmeaokfcalbbaa
/-- The row, under a short name, for the claim. -/
theorem wireNumsUpto_holds : Rows.WireNumsUptoSaid := wireNumsUpto.over
end Go.Proofs.Ytnmeaokfcalbbaa
