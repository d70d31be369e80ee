/-
  No cell of these rows narrows 'for every input' (looked for: loops, veiled, ifaces, maps, wideKeys, modest, calm, conditions, laid).
  DERIVED. THE GIVEN ROWS OF THIS SEAT. 9 by the template 'for every input the law returns true; each argument reads behind the call as it read before'; 0 by the template 'total and deterministic' (their statements: YtpmkedgennnekaaTotals.lean).
  GIVEN WITH THE SEED: the statements are not yours to turn. If you find one false, say at which input.
  Laid BY PROGRAM, IN A SANDBOX (cutbox-rows.mjs): the forced cells as the released guide's own fill.sh prints them over the translation 9faeaa63ff6f198f… (all of the seat's roots in one cut). By AI agents, Wed Nov 11 2026. No macro, syntax, notation, axiom, sorry.
-/
import Derived.Test.YtpmkedgennnekaaChecked
import GoSem.Claim
import GoSem.ClaimJoined
import GoSem.ClaimMapViews
import Derived.JoinedTies
import Derived.KernelRfl
namespace Go.Proofs.Ytpmkedgennnekaa
/- THE CELL 'sum', in the pinned program and in every row, IS THE sha256 OF THE DUMP (.gsa) THAT YtpmkedgennnekaaProg.lean LOADS. Nothing in Lean hashes anything: it is a label: what it is worth is what the hold of that sum in a sandbox is worth. -/
noncomputable def Try.pinned : Pinned := { name := "ytpmkedgennnekaa", sum := "9faeaa63ff6f198f066ad50bd5a56b4680432a18b2ba06a4b770b29d68d1a4ce", checked := Try.checked }
namespace Rows
def none {H : Type} : Left H := { results := [], args := [] }

/-- 'repriselaw08.DiskCut': WHATEVER THE INPUT: true; the input reads as it did. -/
def diskCutSpec : ChangeSpec := { name := "diskCut", fn := fun _ => fun
  | [d1, d2] => { results := [.lit (.bool true)], args := [d1, d2] }
  | _ => none }
def diskCutRow : OpenClaim := { program := "ytpmkedgennnekaa", sum := "9faeaa63ff6f198f066ad50bd5a56b4680432a18b2ba06a4b770b29d68d1a4ce", func := "reprise/repriselaw08.DiskCut", spec := "diskCut", apart := false }
def DiskCutSaid : Prop := diskCutRow.holds Try.pinned (OpenSpec.ofChange diskCutSpec)

/-- ITS FALSE NEIGHBOUR: 'it returns false'. Refute it at one input. -/
def diskCutWrong : ChangeSpec := { name := "diskCut", fn := fun _ => fun
  | [d1, d2] => { results := [.lit (.bool false)], args := [d1, d2] }
  | _ => none }
def DiskCutWrongFalsely : Prop := diskCutRow.holds Try.pinned (OpenSpec.ofChange diskCutWrong)

/-- 'repriselaw08.DiskLast': WHATEVER THE INPUT: true; the input reads as it did. -/
def diskLastSpec : ChangeSpec := { name := "diskLast", fn := fun _ => fun
  | [d1, d2] => { results := [.lit (.bool true)], args := [d1, d2] }
  | _ => none }
def diskLastRow : OpenClaim := { program := "ytpmkedgennnekaa", sum := "9faeaa63ff6f198f066ad50bd5a56b4680432a18b2ba06a4b770b29d68d1a4ce", func := "reprise/repriselaw08.DiskLast", spec := "diskLast", apart := false }
def DiskLastSaid : Prop := diskLastRow.holds Try.pinned (OpenSpec.ofChange diskLastSpec)

/-- ITS FALSE NEIGHBOUR: 'it returns false'. Refute it at one input. -/
def diskLastWrong : ChangeSpec := { name := "diskLast", fn := fun _ => fun
  | [d1, d2] => { results := [.lit (.bool false)], args := [d1, d2] }
  | _ => none }
def DiskLastWrongFalsely : Prop := diskLastRow.holds Try.pinned (OpenSpec.ofChange diskLastWrong)

/-- 'repriselaw08.DiskMemory': WHATEVER THE INPUT: true; the input reads as it did. -/
def diskMemorySpec : ChangeSpec := { name := "diskMemory", fn := fun _ => fun
  | [d1, d2] => { results := [.lit (.bool true)], args := [d1, d2] }
  | _ => none }
def diskMemoryRow : OpenClaim := { program := "ytpmkedgennnekaa", sum := "9faeaa63ff6f198f066ad50bd5a56b4680432a18b2ba06a4b770b29d68d1a4ce", func := "reprise/repriselaw08.DiskMemory", spec := "diskMemory", unfollowed := true, recurses := true, apart := false }
def DiskMemorySaid : Prop := diskMemoryRow.holds Try.pinned (OpenSpec.ofChange diskMemorySpec)

/-- ITS FALSE NEIGHBOUR: 'it returns false'. Refute it at one input. -/
def diskMemoryWrong : ChangeSpec := { name := "diskMemory", fn := fun _ => fun
  | [d1, d2] => { results := [.lit (.bool false)], args := [d1, d2] }
  | _ => none }
def DiskMemoryWrongFalsely : Prop := diskMemoryRow.holds Try.pinned (OpenSpec.ofChange diskMemoryWrong)

/-- 'repriselaw08.DiskExact': WHATEVER THE INPUT: true; the input reads as it did. -/
def diskExactSpec : ChangeSpec := { name := "diskExact", fn := fun _ => fun
  | [d1, d2, d3] => { results := [.lit (.bool true)], args := [d1, d2, d3] }
  | _ => none }
def diskExactRow : OpenClaim := { program := "ytpmkedgennnekaa", sum := "9faeaa63ff6f198f066ad50bd5a56b4680432a18b2ba06a4b770b29d68d1a4ce", func := "reprise/repriselaw08.DiskExact", spec := "diskExact", unfollowed := true, recurses := true, apart := false }
def DiskExactSaid : Prop := diskExactRow.holds Try.pinned (OpenSpec.ofChange diskExactSpec)

/-- ITS FALSE NEIGHBOUR: 'it returns false'. Refute it at one input. -/
def diskExactWrong : ChangeSpec := { name := "diskExact", fn := fun _ => fun
  | [d1, d2, d3] => { results := [.lit (.bool false)], args := [d1, d2, d3] }
  | _ => none }
def DiskExactWrongFalsely : Prop := diskExactRow.holds Try.pinned (OpenSpec.ofChange diskExactWrong)

/-- 'repriselaw08.DiskLoads': WHATEVER THE INPUT: true; the input reads as it did. -/
def diskLoadsSpec : ChangeSpec := { name := "diskLoads", fn := fun _ => fun
  | [d1, d2] => { results := [.lit (.bool true)], args := [d1, d2] }
  | _ => none }
def diskLoadsRow : OpenClaim := { program := "ytpmkedgennnekaa", sum := "9faeaa63ff6f198f066ad50bd5a56b4680432a18b2ba06a4b770b29d68d1a4ce", func := "reprise/repriselaw08.DiskLoads", spec := "diskLoads", unfollowed := true, recurses := true, apart := false }
def DiskLoadsSaid : Prop := diskLoadsRow.holds Try.pinned (OpenSpec.ofChange diskLoadsSpec)

/-- ITS FALSE NEIGHBOUR: 'it returns false'. Refute it at one input. -/
def diskLoadsWrong : ChangeSpec := { name := "diskLoads", fn := fun _ => fun
  | [d1, d2] => { results := [.lit (.bool false)], args := [d1, d2] }
  | _ => none }
def DiskLoadsWrongFalsely : Prop := diskLoadsRow.holds Try.pinned (OpenSpec.ofChange diskLoadsWrong)

/-- 'repriselaw18.JournalMemory': WHATEVER THE INPUT: true; the input reads as it did. -/
def journalMemorySpec : ChangeSpec := { name := "journalMemory", fn := fun _ => fun
  | [d1, d2] => { results := [.lit (.bool true)], args := [d1, d2] }
  | _ => none }
def journalMemoryRow : OpenClaim := { program := "ytpmkedgennnekaa", sum := "9faeaa63ff6f198f066ad50bd5a56b4680432a18b2ba06a4b770b29d68d1a4ce", func := "reprise/repriselaw18.JournalMemory", spec := "journalMemory", apart := false }
def JournalMemorySaid : Prop := journalMemoryRow.holds Try.pinned (OpenSpec.ofChange journalMemorySpec)

/-- ITS FALSE NEIGHBOUR: 'it returns false'. Refute it at one input. -/
def journalMemoryWrong : ChangeSpec := { name := "journalMemory", fn := fun _ => fun
  | [d1, d2] => { results := [.lit (.bool false)], args := [d1, d2] }
  | _ => none }
def JournalMemoryWrongFalsely : Prop := journalMemoryRow.holds Try.pinned (OpenSpec.ofChange journalMemoryWrong)

/-- 'repriselaw18.JournalFits': WHATEVER THE INPUT: true; the input reads as it did. -/
def journalFitsSpec : ChangeSpec := { name := "journalFits", fn := fun _ => fun
  | [d1, d2, d3] => { results := [.lit (.bool true)], args := [d1, d2, d3] }
  | _ => none }
def journalFitsRow : OpenClaim := { program := "ytpmkedgennnekaa", sum := "9faeaa63ff6f198f066ad50bd5a56b4680432a18b2ba06a4b770b29d68d1a4ce", func := "reprise/repriselaw18.JournalFits", spec := "journalFits", apart := false }
def JournalFitsSaid : Prop := journalFitsRow.holds Try.pinned (OpenSpec.ofChange journalFitsSpec)

/-- ITS FALSE NEIGHBOUR: 'it returns false'. Refute it at one input. -/
def journalFitsWrong : ChangeSpec := { name := "journalFits", fn := fun _ => fun
  | [d1, d2, d3] => { results := [.lit (.bool false)], args := [d1, d2, d3] }
  | _ => none }
def JournalFitsWrongFalsely : Prop := journalFitsRow.holds Try.pinned (OpenSpec.ofChange journalFitsWrong)

/-- 'repriselaw18.JournalExact': WHATEVER THE INPUT: true; the input reads as it did. -/
def journalExactSpec : ChangeSpec := { name := "journalExact", fn := fun _ => fun
  | [d1, d2, d3] => { results := [.lit (.bool true)], args := [d1, d2, d3] }
  | _ => none }
def journalExactRow : OpenClaim := { program := "ytpmkedgennnekaa", sum := "9faeaa63ff6f198f066ad50bd5a56b4680432a18b2ba06a4b770b29d68d1a4ce", func := "reprise/repriselaw18.JournalExact", spec := "journalExact", apart := false }
def JournalExactSaid : Prop := journalExactRow.holds Try.pinned (OpenSpec.ofChange journalExactSpec)

/-- ITS FALSE NEIGHBOUR: 'it returns false'. Refute it at one input. -/
def journalExactWrong : ChangeSpec := { name := "journalExact", fn := fun _ => fun
  | [d1, d2, d3] => { results := [.lit (.bool false)], args := [d1, d2, d3] }
  | _ => none }
def JournalExactWrongFalsely : Prop := journalExactRow.holds Try.pinned (OpenSpec.ofChange journalExactWrong)

/-- 'repriselaw18.JournalGoes': WHATEVER THE INPUT: true; the input reads as it did. -/
def journalGoesSpec : ChangeSpec := { name := "journalGoes", fn := fun _ => fun
  | [d1, d2] => { results := [.lit (.bool true)], args := [d1, d2] }
  | _ => none }
def journalGoesRow : OpenClaim := { program := "ytpmkedgennnekaa", sum := "9faeaa63ff6f198f066ad50bd5a56b4680432a18b2ba06a4b770b29d68d1a4ce", func := "reprise/repriselaw18.JournalGoes", spec := "journalGoes", apart := false }
def JournalGoesSaid : Prop := journalGoesRow.holds Try.pinned (OpenSpec.ofChange journalGoesSpec)

/-- ITS FALSE NEIGHBOUR: 'it returns false'. Refute it at one input. -/
def journalGoesWrong : ChangeSpec := { name := "journalGoes", fn := fun _ => fun
  | [d1, d2] => { results := [.lit (.bool false)], args := [d1, d2] }
  | _ => none }
def JournalGoesWrongFalsely : Prop := journalGoesRow.holds Try.pinned (OpenSpec.ofChange journalGoesWrong)

/- THE SECOND FORM. 'bulk': how many values and letters a reading holds, each counted each time it is reached (what is shared counts as often as it is met; a slice's spare places count too). A statement '..UptoSaid' is the law's where the arguments, and the package variables that the reading takes, are together of bulk at most 1048576: NARROWER than '..Said'. Prove '..Said' where nothing that the law and all that it calls make is longer than what came in: it says more and counts as full. Else prove '..UptoSaid'. A law counts once. -/
mutual
def uptoBulk {H : Type} : DataW H → Nat
  | .lit (.string bytes) => bytes.length + 1
  | .lit _ => 1
  | .nil => 1
  | .ptr d => uptoBulk d + 1
  | .slice elems spare => uptoBulkAll elems + uptoBulkAll spare + 1
  | .agg parts => uptoBulkAll parts + 1
  | .iface _ d => uptoBulk d + 1
  | .map entries => uptoBulkEntries entries + 1
  | .held _ => 1
def uptoBulkAll {H : Type} : List (DataW H) → Nat
  | [] => 0
  | d :: r => uptoBulk d + uptoBulkAll r
def uptoBulkEntries {H : Type} : List (Lit × DataW H) → Nat
  | [] => 0
  | x :: r => uptoBulkEntry x + uptoBulkEntries r
def uptoBulkEntry {H : Type} : Lit × DataW H → Nat
  | (.string bytes, d) => bytes.length + uptoBulk d + 1
  | (_, d) => uptoBulk d + 1
 end
def uptoSmall : (H : Type) → List (DataW H) → Bool := fun _ ds => decide (uptoBulkAll ds ≤ 1048576)
def OpenSpec.upto (s : _root_.Go.ChangeSpec) : _root_.Go.OpenSpec := { _root_.Go.OpenSpec.ofChange s with cond := some uptoSmall }

/-- 'repriselaw08.DiskCut', WHERE WHAT IT READS IS OF BULK AT MOST 1048576: true; the input reads as it did. -/
def diskCutUptoRow : OpenClaim := { program := "ytpmkedgennnekaa", sum := "9faeaa63ff6f198f066ad50bd5a56b4680432a18b2ba06a4b770b29d68d1a4ce", func := "reprise/repriselaw08.DiskCut", spec := "diskCut", apart := false, narrowed := true }
def DiskCutUptoSaid : Prop := diskCutUptoRow.holds Try.pinned (OpenSpec.upto diskCutSpec)

/-- 'repriselaw08.DiskLast', WHERE WHAT IT READS IS OF BULK AT MOST 1048576: true; the input reads as it did. -/
def diskLastUptoRow : OpenClaim := { program := "ytpmkedgennnekaa", sum := "9faeaa63ff6f198f066ad50bd5a56b4680432a18b2ba06a4b770b29d68d1a4ce", func := "reprise/repriselaw08.DiskLast", spec := "diskLast", apart := false, narrowed := true }
def DiskLastUptoSaid : Prop := diskLastUptoRow.holds Try.pinned (OpenSpec.upto diskLastSpec)

/-- 'repriselaw08.DiskMemory', WHERE WHAT IT READS IS OF BULK AT MOST 1048576: true; the input reads as it did. -/
def diskMemoryUptoRow : OpenClaim := { program := "ytpmkedgennnekaa", sum := "9faeaa63ff6f198f066ad50bd5a56b4680432a18b2ba06a4b770b29d68d1a4ce", func := "reprise/repriselaw08.DiskMemory", spec := "diskMemory", unfollowed := true, recurses := true, apart := false, narrowed := true }
def DiskMemoryUptoSaid : Prop := diskMemoryUptoRow.holds Try.pinned (OpenSpec.upto diskMemorySpec)

/-- 'repriselaw08.DiskExact', WHERE WHAT IT READS IS OF BULK AT MOST 1048576: true; the input reads as it did. -/
def diskExactUptoRow : OpenClaim := { program := "ytpmkedgennnekaa", sum := "9faeaa63ff6f198f066ad50bd5a56b4680432a18b2ba06a4b770b29d68d1a4ce", func := "reprise/repriselaw08.DiskExact", spec := "diskExact", unfollowed := true, recurses := true, apart := false, narrowed := true }
def DiskExactUptoSaid : Prop := diskExactUptoRow.holds Try.pinned (OpenSpec.upto diskExactSpec)

/-- 'repriselaw08.DiskLoads', WHERE WHAT IT READS IS OF BULK AT MOST 1048576: true; the input reads as it did. -/
def diskLoadsUptoRow : OpenClaim := { program := "ytpmkedgennnekaa", sum := "9faeaa63ff6f198f066ad50bd5a56b4680432a18b2ba06a4b770b29d68d1a4ce", func := "reprise/repriselaw08.DiskLoads", spec := "diskLoads", unfollowed := true, recurses := true, apart := false, narrowed := true }
def DiskLoadsUptoSaid : Prop := diskLoadsUptoRow.holds Try.pinned (OpenSpec.upto diskLoadsSpec)

/-- 'repriselaw18.JournalMemory', WHERE WHAT IT READS IS OF BULK AT MOST 1048576: true; the input reads as it did. -/
def journalMemoryUptoRow : OpenClaim := { program := "ytpmkedgennnekaa", sum := "9faeaa63ff6f198f066ad50bd5a56b4680432a18b2ba06a4b770b29d68d1a4ce", func := "reprise/repriselaw18.JournalMemory", spec := "journalMemory", apart := false, narrowed := true }
def JournalMemoryUptoSaid : Prop := journalMemoryUptoRow.holds Try.pinned (OpenSpec.upto journalMemorySpec)

/-- 'repriselaw18.JournalFits', WHERE WHAT IT READS IS OF BULK AT MOST 1048576: true; the input reads as it did. -/
def journalFitsUptoRow : OpenClaim := { program := "ytpmkedgennnekaa", sum := "9faeaa63ff6f198f066ad50bd5a56b4680432a18b2ba06a4b770b29d68d1a4ce", func := "reprise/repriselaw18.JournalFits", spec := "journalFits", apart := false, narrowed := true }
def JournalFitsUptoSaid : Prop := journalFitsUptoRow.holds Try.pinned (OpenSpec.upto journalFitsSpec)

/-- 'repriselaw18.JournalExact', WHERE WHAT IT READS IS OF BULK AT MOST 1048576: true; the input reads as it did. -/
def journalExactUptoRow : OpenClaim := { program := "ytpmkedgennnekaa", sum := "9faeaa63ff6f198f066ad50bd5a56b4680432a18b2ba06a4b770b29d68d1a4ce", func := "reprise/repriselaw18.JournalExact", spec := "journalExact", apart := false, narrowed := true }
def JournalExactUptoSaid : Prop := journalExactUptoRow.holds Try.pinned (OpenSpec.upto journalExactSpec)

/-- 'repriselaw18.JournalGoes', WHERE WHAT IT READS IS OF BULK AT MOST 1048576: true; the input reads as it did. -/
def journalGoesUptoRow : OpenClaim := { program := "ytpmkedgennnekaa", sum := "9faeaa63ff6f198f066ad50bd5a56b4680432a18b2ba06a4b770b29d68d1a4ce", func := "reprise/repriselaw18.JournalGoes", spec := "journalGoes", apart := false, narrowed := true }
def JournalGoesUptoSaid : Prop := journalGoesUptoRow.holds Try.pinned (OpenSpec.upto journalGoesSpec)

end Rows
end Go.Proofs.Ytpmkedgennnekaa
