/-
  No cell of these rows narrows 'for every input' (looked for: loops, veiled, ifaces, maps, wideKeys, modest, calm, conditions, laid).
  DERIVED. THE GIVEN ROWS OF THIS SEAT. 12 by the template 'for every input the law returns true; each argument reads behind the call as it read before'; 0 by the template 'total and deterministic' (their statements: YtnmeaokfcalbbaaTotals.lean).
  GIVEN WITH THE SEED: the statements are not yours to turn. If you find one false, say at which input.
  Laid BY PROGRAM, IN A SANDBOX (cutbox-rows.mjs): the forced cells as the released guide's own fill.sh prints them over the translation a2690aed3bd31496… (all of the seat's roots in one cut). By AI agents, Wed Nov 11 2026. No macro, syntax, notation, axiom, sorry.
-/
import Derived.Test.YtnmeaokfcalbbaaChecked
import GoSem.Claim
import GoSem.ClaimJoined
import GoSem.ClaimMapViews
import Derived.JoinedTies
import Derived.KernelRfl
namespace Go.Proofs.Ytnmeaokfcalbbaa
/- THE CELL 'sum', in the pinned program and in every row, IS THE sha256 OF THE DUMP (.gsa) THAT YtnmeaokfcalbbaaProg.lean LOADS. Nothing in Lean hashes anything: it is a label: what it is worth is what the hold of that sum in a sandbox is worth. -/
noncomputable def Try.pinned : Pinned := { name := "ytnmeaokfcalbbaa", sum := "a2690aed3bd31496173ee54dd7e85ff3f1c3f82f92cb359aef2eb347005d00a5", checked := Try.checked }
namespace Rows
def none {H : Type} : Left H := { results := [], args := [] }

/-- 'repriselaw02.WireForm': WHATEVER THE INPUT: true; the input reads as it did. -/
def wireFormSpec : ChangeSpec := { name := "wireForm", fn := fun _ => fun
  | [d1, d2] => { results := [.lit (.bool true)], args := [d1, d2] }
  | _ => none }
def wireFormRow : OpenClaim := { program := "ytnmeaokfcalbbaa", sum := "a2690aed3bd31496173ee54dd7e85ff3f1c3f82f92cb359aef2eb347005d00a5", func := "reprise/repriselaw02.WireForm", spec := "wireForm", apart := false }
def WireFormSaid : Prop := wireFormRow.holds Try.pinned (OpenSpec.ofChange wireFormSpec)

/-- ITS FALSE NEIGHBOUR: 'it returns false'. Refute it at one input. -/
def wireFormWrong : ChangeSpec := { name := "wireForm", fn := fun _ => fun
  | [d1, d2] => { results := [.lit (.bool false)], args := [d1, d2] }
  | _ => none }
def WireFormWrongFalsely : Prop := wireFormRow.holds Try.pinned (OpenSpec.ofChange wireFormWrong)

/-- 'repriselaw02.WireRises': WHATEVER THE INPUT: true; the input reads as it did. -/
def wireRisesSpec : ChangeSpec := { name := "wireRises", fn := fun _ => fun
  | [d1, d2] => { results := [.lit (.bool true)], args := [d1, d2] }
  | _ => none }
def wireRisesRow : OpenClaim := { program := "ytnmeaokfcalbbaa", sum := "a2690aed3bd31496173ee54dd7e85ff3f1c3f82f92cb359aef2eb347005d00a5", func := "reprise/repriselaw02.WireRises", spec := "wireRises", apart := false }
def WireRisesSaid : Prop := wireRisesRow.holds Try.pinned (OpenSpec.ofChange wireRisesSpec)

/-- ITS FALSE NEIGHBOUR: 'it returns false'. Refute it at one input. -/
def wireRisesWrong : ChangeSpec := { name := "wireRises", fn := fun _ => fun
  | [d1, d2] => { results := [.lit (.bool false)], args := [d1, d2] }
  | _ => none }
def WireRisesWrongFalsely : Prop := wireRisesRow.holds Try.pinned (OpenSpec.ofChange wireRisesWrong)

/-- 'repriselaw14.PlanCheck': WHATEVER THE INPUT: true; the input reads as it did. -/
def planCheckSpec : ChangeSpec := { name := "planCheck", fn := fun _ => fun
  | [d] => { results := [.lit (.bool true)], args := [d] }
  | _ => none }
def planCheckRow : OpenClaim := { program := "ytnmeaokfcalbbaa", sum := "a2690aed3bd31496173ee54dd7e85ff3f1c3f82f92cb359aef2eb347005d00a5", func := "reprise/repriselaw14.PlanCheck", spec := "planCheck", apart := false }
def PlanCheckSaid : Prop := planCheckRow.holds Try.pinned (OpenSpec.ofChange planCheckSpec)

/-- ITS FALSE NEIGHBOUR: 'it returns false'. Refute it at one input. -/
def planCheckWrong : ChangeSpec := { name := "planCheck", fn := fun _ => fun
  | [d] => { results := [.lit (.bool false)], args := [d] }
  | _ => none }
def PlanCheckWrongFalsely : Prop := planCheckRow.holds Try.pinned (OpenSpec.ofChange planCheckWrong)

/-- 'repriselaw14.PlanNodes': WHATEVER THE INPUT: true; the input reads as it did. -/
def planNodesSpec : ChangeSpec := { name := "planNodes", fn := fun _ => fun
  | [d1, d2, d3] => { results := [.lit (.bool true)], args := [d1, d2, d3] }
  | _ => none }
def planNodesRow : OpenClaim := { program := "ytnmeaokfcalbbaa", sum := "a2690aed3bd31496173ee54dd7e85ff3f1c3f82f92cb359aef2eb347005d00a5", func := "reprise/repriselaw14.PlanNodes", spec := "planNodes", apart := false }
def PlanNodesSaid : Prop := planNodesRow.holds Try.pinned (OpenSpec.ofChange planNodesSpec)

/-- ITS FALSE NEIGHBOUR: 'it returns false'. Refute it at one input. -/
def planNodesWrong : ChangeSpec := { name := "planNodes", fn := fun _ => fun
  | [d1, d2, d3] => { results := [.lit (.bool false)], args := [d1, d2, d3] }
  | _ => none }
def PlanNodesWrongFalsely : Prop := planNodesRow.holds Try.pinned (OpenSpec.ofChange planNodesWrong)

/-- 'repriselaw14.PlanDeals': WHATEVER THE INPUT: true; the input reads as it did. -/
def planDealsSpec : ChangeSpec := { name := "planDeals", fn := fun _ => fun
  | [d1, d2] => { results := [.lit (.bool true)], args := [d1, d2] }
  | _ => none }
def planDealsRow : OpenClaim := { program := "ytnmeaokfcalbbaa", sum := "a2690aed3bd31496173ee54dd7e85ff3f1c3f82f92cb359aef2eb347005d00a5", func := "reprise/repriselaw14.PlanDeals", spec := "planDeals", apart := false }
def PlanDealsSaid : Prop := planDealsRow.holds Try.pinned (OpenSpec.ofChange planDealsSpec)

/-- ITS FALSE NEIGHBOUR: 'it returns false'. Refute it at one input. -/
def planDealsWrong : ChangeSpec := { name := "planDeals", fn := fun _ => fun
  | [d1, d2] => { results := [.lit (.bool false)], args := [d1, d2] }
  | _ => none }
def PlanDealsWrongFalsely : Prop := planDealsRow.holds Try.pinned (OpenSpec.ofChange planDealsWrong)

/-- 'repriselaw14.PlanShares': WHATEVER THE INPUT: true; the input reads as it did. -/
def planSharesSpec : ChangeSpec := { name := "planShares", fn := fun _ => fun
  | [d1, d2, d3] => { results := [.lit (.bool true)], args := [d1, d2, d3] }
  | _ => none }
def planSharesRow : OpenClaim := { program := "ytnmeaokfcalbbaa", sum := "a2690aed3bd31496173ee54dd7e85ff3f1c3f82f92cb359aef2eb347005d00a5", func := "reprise/repriselaw14.PlanShares", spec := "planShares", apart := false }
def PlanSharesSaid : Prop := planSharesRow.holds Try.pinned (OpenSpec.ofChange planSharesSpec)

/-- ITS FALSE NEIGHBOUR: 'it returns false'. Refute it at one input. -/
def planSharesWrong : ChangeSpec := { name := "planShares", fn := fun _ => fun
  | [d1, d2, d3] => { results := [.lit (.bool false)], args := [d1, d2, d3] }
  | _ => none }
def PlanSharesWrongFalsely : Prop := planSharesRow.holds Try.pinned (OpenSpec.ofChange planSharesWrong)

/-- 'repriselaw14.PlanMemory': WHATEVER THE INPUT: true; the input reads as it did. -/
def planMemorySpec : ChangeSpec := { name := "planMemory", fn := fun _ => fun
  | [d1, d2] => { results := [.lit (.bool true)], args := [d1, d2] }
  | _ => none }
def planMemoryRow : OpenClaim := { program := "ytnmeaokfcalbbaa", sum := "a2690aed3bd31496173ee54dd7e85ff3f1c3f82f92cb359aef2eb347005d00a5", func := "reprise/repriselaw14.PlanMemory", spec := "planMemory", apart := false }
def PlanMemorySaid : Prop := planMemoryRow.holds Try.pinned (OpenSpec.ofChange planMemorySpec)

/-- ITS FALSE NEIGHBOUR: 'it returns false'. Refute it at one input. -/
def planMemoryWrong : ChangeSpec := { name := "planMemory", fn := fun _ => fun
  | [d1, d2] => { results := [.lit (.bool false)], args := [d1, d2] }
  | _ => none }
def PlanMemoryWrongFalsely : Prop := planMemoryRow.holds Try.pinned (OpenSpec.ofChange planMemoryWrong)

/-- 'repriselaw02.WireNumbers': WHATEVER THE INPUT: true; the input reads as it did. -/
def wireNumbersSpec : ChangeSpec := { name := "wireNumbers", fn := fun _ => fun
  | [d1, d2] => { results := [.lit (.bool true)], args := [d1, d2] }
  | _ => none }
def wireNumbersRow : OpenClaim := { program := "ytnmeaokfcalbbaa", sum := "a2690aed3bd31496173ee54dd7e85ff3f1c3f82f92cb359aef2eb347005d00a5", func := "reprise/repriselaw02.WireNumbers", spec := "wireNumbers", apart := false }
def WireNumbersSaid : Prop := wireNumbersRow.holds Try.pinned (OpenSpec.ofChange wireNumbersSpec)

/-- ITS FALSE NEIGHBOUR: 'it returns false'. Refute it at one input. -/
def wireNumbersWrong : ChangeSpec := { name := "wireNumbers", fn := fun _ => fun
  | [d1, d2] => { results := [.lit (.bool false)], args := [d1, d2] }
  | _ => none }
def WireNumbersWrongFalsely : Prop := wireNumbersRow.holds Try.pinned (OpenSpec.ofChange wireNumbersWrong)

/-- 'repriselaw02.WireRuns': WHATEVER THE INPUT: true; the input reads as it did. -/
def wireRunsSpec : ChangeSpec := { name := "wireRuns", fn := fun _ => fun
  | [d] => { results := [.lit (.bool true)], args := [d] }
  | _ => none }
def wireRunsRow : OpenClaim := { program := "ytnmeaokfcalbbaa", sum := "a2690aed3bd31496173ee54dd7e85ff3f1c3f82f92cb359aef2eb347005d00a5", func := "reprise/repriselaw02.WireRuns", spec := "wireRuns", apart := false }
def WireRunsSaid : Prop := wireRunsRow.holds Try.pinned (OpenSpec.ofChange wireRunsSpec)

/-- ITS FALSE NEIGHBOUR: 'it returns false'. Refute it at one input. -/
def wireRunsWrong : ChangeSpec := { name := "wireRuns", fn := fun _ => fun
  | [d] => { results := [.lit (.bool false)], args := [d] }
  | _ => none }
def WireRunsWrongFalsely : Prop := wireRunsRow.holds Try.pinned (OpenSpec.ofChange wireRunsWrong)

/-- 'repriselaw02.WireMemory': WHATEVER THE INPUT: true; the input reads as it did. -/
def wireMemorySpec : ChangeSpec := { name := "wireMemory", fn := fun _ => fun
  | [d1, d2] => { results := [.lit (.bool true)], args := [d1, d2] }
  | _ => none }
def wireMemoryRow : OpenClaim := { program := "ytnmeaokfcalbbaa", sum := "a2690aed3bd31496173ee54dd7e85ff3f1c3f82f92cb359aef2eb347005d00a5", func := "reprise/repriselaw02.WireMemory", spec := "wireMemory", apart := false }
def WireMemorySaid : Prop := wireMemoryRow.holds Try.pinned (OpenSpec.ofChange wireMemorySpec)

/-- ITS FALSE NEIGHBOUR: 'it returns false'. Refute it at one input. -/
def wireMemoryWrong : ChangeSpec := { name := "wireMemory", fn := fun _ => fun
  | [d1, d2] => { results := [.lit (.bool false)], args := [d1, d2] }
  | _ => none }
def WireMemoryWrongFalsely : Prop := wireMemoryRow.holds Try.pinned (OpenSpec.ofChange wireMemoryWrong)

/-- 'repriselaw02.WireNums': WHATEVER THE INPUT: true; the input reads as it did. -/
def wireNumsSpec : ChangeSpec := { name := "wireNums", fn := fun _ => fun
  | [d1, d2] => { results := [.lit (.bool true)], args := [d1, d2] }
  | _ => none }
def wireNumsRow : OpenClaim := { program := "ytnmeaokfcalbbaa", sum := "a2690aed3bd31496173ee54dd7e85ff3f1c3f82f92cb359aef2eb347005d00a5", func := "reprise/repriselaw02.WireNums", spec := "wireNums", apart := false }
def WireNumsSaid : Prop := wireNumsRow.holds Try.pinned (OpenSpec.ofChange wireNumsSpec)

/-- ITS FALSE NEIGHBOUR: 'it returns false'. Refute it at one input. -/
def wireNumsWrong : ChangeSpec := { name := "wireNums", fn := fun _ => fun
  | [d1, d2] => { results := [.lit (.bool false)], args := [d1, d2] }
  | _ => none }
def WireNumsWrongFalsely : Prop := wireNumsRow.holds Try.pinned (OpenSpec.ofChange wireNumsWrong)

/-- 'repriselaw02.WireTakes': WHATEVER THE INPUT: true; the input reads as it did. -/
def wireTakesSpec : ChangeSpec := { name := "wireTakes", fn := fun _ => fun
  | [d1, d2] => { results := [.lit (.bool true)], args := [d1, d2] }
  | _ => none }
def wireTakesRow : OpenClaim := { program := "ytnmeaokfcalbbaa", sum := "a2690aed3bd31496173ee54dd7e85ff3f1c3f82f92cb359aef2eb347005d00a5", func := "reprise/repriselaw02.WireTakes", spec := "wireTakes", apart := false }
def WireTakesSaid : Prop := wireTakesRow.holds Try.pinned (OpenSpec.ofChange wireTakesSpec)

/-- ITS FALSE NEIGHBOUR: 'it returns false'. Refute it at one input. -/
def wireTakesWrong : ChangeSpec := { name := "wireTakes", fn := fun _ => fun
  | [d1, d2] => { results := [.lit (.bool false)], args := [d1, d2] }
  | _ => none }
def WireTakesWrongFalsely : Prop := wireTakesRow.holds Try.pinned (OpenSpec.ofChange wireTakesWrong)

/- THE SECOND FORM. 'bulk': how many values and letters a reading holds, each counted each time it is reached (what is shared counts as often as it is met; a slice's spare places count too). A statement '..UptoSaid' is the law's where the arguments, and the package variables that the reading takes, are together of bulk at most 1048576: NARROWER than '..Said'. Prove '..Said' where nothing that the law and all that it calls make is longer than what came in: it says more and counts as full. Else prove '..UptoSaid'. A law counts once. -/
mutual
def uptoBulk {H : Type} : DataW H → Nat
  | .lit (.string bytes) => bytes.length + 1
  | .lit _ => 1
  | .nil => 1
  | .ptr d => uptoBulk d + 1
  | .slice elems spare => uptoBulkAll elems + uptoBulkAll spare + 1
  | .agg parts => uptoBulkAll parts + 1
  | .iface _ d => uptoBulk d + 1
  | .map entries => uptoBulkEntries entries + 1
  | .held _ => 1
def uptoBulkAll {H : Type} : List (DataW H) → Nat
  | [] => 0
  | d :: r => uptoBulk d + uptoBulkAll r
def uptoBulkEntries {H : Type} : List (Lit × DataW H) → Nat
  | [] => 0
  | x :: r => uptoBulkEntry x + uptoBulkEntries r
def uptoBulkEntry {H : Type} : Lit × DataW H → Nat
  | (.string bytes, d) => bytes.length + uptoBulk d + 1
  | (_, d) => uptoBulk d + 1
 end
def uptoSmall : (H : Type) → List (DataW H) → Bool := fun _ ds => decide (uptoBulkAll ds ≤ 1048576)
def OpenSpec.upto (s : _root_.Go.ChangeSpec) : _root_.Go.OpenSpec := { _root_.Go.OpenSpec.ofChange s with cond := some uptoSmall }

/-- 'repriselaw02.WireForm', WHERE WHAT IT READS IS OF BULK AT MOST 1048576: true; the input reads as it did. -/
def wireFormUptoRow : OpenClaim := { program := "ytnmeaokfcalbbaa", sum := "a2690aed3bd31496173ee54dd7e85ff3f1c3f82f92cb359aef2eb347005d00a5", func := "reprise/repriselaw02.WireForm", spec := "wireForm", apart := false, narrowed := true }
def WireFormUptoSaid : Prop := wireFormUptoRow.holds Try.pinned (OpenSpec.upto wireFormSpec)

/-- 'repriselaw02.WireRises', WHERE WHAT IT READS IS OF BULK AT MOST 1048576: true; the input reads as it did. -/
def wireRisesUptoRow : OpenClaim := { program := "ytnmeaokfcalbbaa", sum := "a2690aed3bd31496173ee54dd7e85ff3f1c3f82f92cb359aef2eb347005d00a5", func := "reprise/repriselaw02.WireRises", spec := "wireRises", apart := false, narrowed := true }
def WireRisesUptoSaid : Prop := wireRisesUptoRow.holds Try.pinned (OpenSpec.upto wireRisesSpec)

/-- 'repriselaw14.PlanCheck', WHERE WHAT IT READS IS OF BULK AT MOST 1048576: true; the input reads as it did. -/
def planCheckUptoRow : OpenClaim := { program := "ytnmeaokfcalbbaa", sum := "a2690aed3bd31496173ee54dd7e85ff3f1c3f82f92cb359aef2eb347005d00a5", func := "reprise/repriselaw14.PlanCheck", spec := "planCheck", apart := false, narrowed := true }
def PlanCheckUptoSaid : Prop := planCheckUptoRow.holds Try.pinned (OpenSpec.upto planCheckSpec)

/-- 'repriselaw14.PlanNodes', WHERE WHAT IT READS IS OF BULK AT MOST 1048576: true; the input reads as it did. -/
def planNodesUptoRow : OpenClaim := { program := "ytnmeaokfcalbbaa", sum := "a2690aed3bd31496173ee54dd7e85ff3f1c3f82f92cb359aef2eb347005d00a5", func := "reprise/repriselaw14.PlanNodes", spec := "planNodes", apart := false, narrowed := true }
def PlanNodesUptoSaid : Prop := planNodesUptoRow.holds Try.pinned (OpenSpec.upto planNodesSpec)

/-- 'repriselaw14.PlanDeals', WHERE WHAT IT READS IS OF BULK AT MOST 1048576: true; the input reads as it did. -/
def planDealsUptoRow : OpenClaim := { program := "ytnmeaokfcalbbaa", sum := "a2690aed3bd31496173ee54dd7e85ff3f1c3f82f92cb359aef2eb347005d00a5", func := "reprise/repriselaw14.PlanDeals", spec := "planDeals", apart := false, narrowed := true }
def PlanDealsUptoSaid : Prop := planDealsUptoRow.holds Try.pinned (OpenSpec.upto planDealsSpec)

/-- 'repriselaw14.PlanShares', WHERE WHAT IT READS IS OF BULK AT MOST 1048576: true; the input reads as it did. -/
def planSharesUptoRow : OpenClaim := { program := "ytnmeaokfcalbbaa", sum := "a2690aed3bd31496173ee54dd7e85ff3f1c3f82f92cb359aef2eb347005d00a5", func := "reprise/repriselaw14.PlanShares", spec := "planShares", apart := false, narrowed := true }
def PlanSharesUptoSaid : Prop := planSharesUptoRow.holds Try.pinned (OpenSpec.upto planSharesSpec)

/-- 'repriselaw14.PlanMemory', WHERE WHAT IT READS IS OF BULK AT MOST 1048576: true; the input reads as it did. -/
def planMemoryUptoRow : OpenClaim := { program := "ytnmeaokfcalbbaa", sum := "a2690aed3bd31496173ee54dd7e85ff3f1c3f82f92cb359aef2eb347005d00a5", func := "reprise/repriselaw14.PlanMemory", spec := "planMemory", apart := false, narrowed := true }
def PlanMemoryUptoSaid : Prop := planMemoryUptoRow.holds Try.pinned (OpenSpec.upto planMemorySpec)

/-- 'repriselaw02.WireNumbers', WHERE WHAT IT READS IS OF BULK AT MOST 1048576: true; the input reads as it did. -/
def wireNumbersUptoRow : OpenClaim := { program := "ytnmeaokfcalbbaa", sum := "a2690aed3bd31496173ee54dd7e85ff3f1c3f82f92cb359aef2eb347005d00a5", func := "reprise/repriselaw02.WireNumbers", spec := "wireNumbers", apart := false, narrowed := true }
def WireNumbersUptoSaid : Prop := wireNumbersUptoRow.holds Try.pinned (OpenSpec.upto wireNumbersSpec)

/-- 'repriselaw02.WireRuns', WHERE WHAT IT READS IS OF BULK AT MOST 1048576: true; the input reads as it did. -/
def wireRunsUptoRow : OpenClaim := { program := "ytnmeaokfcalbbaa", sum := "a2690aed3bd31496173ee54dd7e85ff3f1c3f82f92cb359aef2eb347005d00a5", func := "reprise/repriselaw02.WireRuns", spec := "wireRuns", apart := false, narrowed := true }
def WireRunsUptoSaid : Prop := wireRunsUptoRow.holds Try.pinned (OpenSpec.upto wireRunsSpec)

/-- 'repriselaw02.WireMemory', WHERE WHAT IT READS IS OF BULK AT MOST 1048576: true; the input reads as it did. -/
def wireMemoryUptoRow : OpenClaim := { program := "ytnmeaokfcalbbaa", sum := "a2690aed3bd31496173ee54dd7e85ff3f1c3f82f92cb359aef2eb347005d00a5", func := "reprise/repriselaw02.WireMemory", spec := "wireMemory", apart := false, narrowed := true }
def WireMemoryUptoSaid : Prop := wireMemoryUptoRow.holds Try.pinned (OpenSpec.upto wireMemorySpec)

/-- 'repriselaw02.WireNums', WHERE WHAT IT READS IS OF BULK AT MOST 1048576: true; the input reads as it did. -/
def wireNumsUptoRow : OpenClaim := { program := "ytnmeaokfcalbbaa", sum := "a2690aed3bd31496173ee54dd7e85ff3f1c3f82f92cb359aef2eb347005d00a5", func := "reprise/repriselaw02.WireNums", spec := "wireNums", apart := false, narrowed := true }
def WireNumsUptoSaid : Prop := wireNumsUptoRow.holds Try.pinned (OpenSpec.upto wireNumsSpec)

/-- 'repriselaw02.WireTakes', WHERE WHAT IT READS IS OF BULK AT MOST 1048576: true; the input reads as it did. -/
def wireTakesUptoRow : OpenClaim := { program := "ytnmeaokfcalbbaa", sum := "a2690aed3bd31496173ee54dd7e85ff3f1c3f82f92cb359aef2eb347005d00a5", func := "reprise/repriselaw02.WireTakes", spec := "wireTakes", apart := false, narrowed := true }
def WireTakesUptoSaid : Prop := wireTakesUptoRow.holds Try.pinned (OpenSpec.upto wireTakesSpec)

end Rows
end Go.Proofs.Ytnmeaokfcalbbaa
