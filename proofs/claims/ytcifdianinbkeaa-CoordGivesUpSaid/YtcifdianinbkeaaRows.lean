/-
  No cell of these rows narrows 'for every input' (looked for: loops, veiled, ifaces, maps, wideKeys, modest, calm, conditions, laid).
  DERIVED. THE GIVEN ROWS OF THIS SEAT. 5 by the template 'for every input the law returns true; each argument reads behind the call as it read before'; 0 by the template 'total and deterministic' (their statements: YtcifdianinbkeaaTotals.lean).
  GIVEN WITH THE SEED: the statements are not yours to turn. If you find one false, say at which input.
  Laid BY PROGRAM, IN A SANDBOX (cutbox-rows.mjs): the forced cells as the released guide's own fill.sh prints them over the translation 7621f9adf1aaecc4… (all of the seat's roots in one cut). By AI agents, Wed Nov 11 2026. No macro, syntax, notation, axiom, sorry.
-/
import Derived.Test.YtcifdianinbkeaaChecked
import GoSem.Claim
import GoSem.ClaimJoined
import GoSem.ClaimMapViews
import Derived.JoinedTies
import Derived.KernelRfl
namespace Go.Proofs.Ytcifdianinbkeaa
/- THE CELL 'sum', in the pinned program and in every row, IS THE sha256 OF THE DUMP (.gsa) THAT YtcifdianinbkeaaProg.lean LOADS. Nothing in Lean hashes anything: it is a label: what it is worth is what the hold of that sum in a sandbox is worth. -/
noncomputable def Try.pinned : Pinned := { name := "ytcifdianinbkeaa", sum := "7621f9adf1aaecc49af2402d06386c574ef9b5ec0bfc8c227a7a0410e2b56b04", checked := Try.checked }
namespace Rows
def none {H : Type} : Left H := { results := [], args := [] }

/-- 'repriselaw19.CoordMemory': WHATEVER THE INPUT: true; the input reads as it did. -/
def coordMemorySpec : ChangeSpec := { name := "coordMemory", fn := fun _ => fun
  | [d1, d2] => { results := [.lit (.bool true)], args := [d1, d2] }
  | _ => none }
def coordMemoryRow : OpenClaim := { program := "ytcifdianinbkeaa", sum := "7621f9adf1aaecc49af2402d06386c574ef9b5ec0bfc8c227a7a0410e2b56b04", func := "reprise/repriselaw19.CoordMemory", spec := "coordMemory", unfollowed := true, recurses := true, apart := false }
def CoordMemorySaid : Prop := coordMemoryRow.holds Try.pinned (OpenSpec.ofChange coordMemorySpec)

/-- ITS FALSE NEIGHBOUR: 'it returns false'. Refute it at one input. -/
def coordMemoryWrong : ChangeSpec := { name := "coordMemory", fn := fun _ => fun
  | [d1, d2] => { results := [.lit (.bool false)], args := [d1, d2] }
  | _ => none }
def CoordMemoryWrongFalsely : Prop := coordMemoryRow.holds Try.pinned (OpenSpec.ofChange coordMemoryWrong)

/-- 'repriselaw19.CoordNumbers': WHATEVER THE INPUT: true; the input reads as it did. -/
def coordNumbersSpec : ChangeSpec := { name := "coordNumbers", fn := fun _ => fun
  | [d1, d2] => { results := [.lit (.bool true)], args := [d1, d2] }
  | _ => none }
def coordNumbersRow : OpenClaim := { program := "ytcifdianinbkeaa", sum := "7621f9adf1aaecc49af2402d06386c574ef9b5ec0bfc8c227a7a0410e2b56b04", func := "reprise/repriselaw19.CoordNumbers", spec := "coordNumbers", unfollowed := true, recurses := true, apart := false }
def CoordNumbersSaid : Prop := coordNumbersRow.holds Try.pinned (OpenSpec.ofChange coordNumbersSpec)

/-- ITS FALSE NEIGHBOUR: 'it returns false'. Refute it at one input. -/
def coordNumbersWrong : ChangeSpec := { name := "coordNumbers", fn := fun _ => fun
  | [d1, d2] => { results := [.lit (.bool false)], args := [d1, d2] }
  | _ => none }
def CoordNumbersWrongFalsely : Prop := coordNumbersRow.holds Try.pinned (OpenSpec.ofChange coordNumbersWrong)

/-- 'repriselaw19.CoordGivesUp': WHATEVER THE INPUT: true; the input reads as it did. -/
def coordGivesUpSpec : ChangeSpec := { name := "coordGivesUp", fn := fun _ => fun
  | [d1, d2, d3] => { results := [.lit (.bool true)], args := [d1, d2, d3] }
  | _ => none }
def coordGivesUpRow : OpenClaim := { program := "ytcifdianinbkeaa", sum := "7621f9adf1aaecc49af2402d06386c574ef9b5ec0bfc8c227a7a0410e2b56b04", func := "reprise/repriselaw19.CoordGivesUp", spec := "coordGivesUp", unfollowed := true, recurses := true, apart := false }
def CoordGivesUpSaid : Prop := coordGivesUpRow.holds Try.pinned (OpenSpec.ofChange coordGivesUpSpec)

/-- ITS FALSE NEIGHBOUR: 'it returns false'. Refute it at one input. -/
def coordGivesUpWrong : ChangeSpec := { name := "coordGivesUp", fn := fun _ => fun
  | [d1, d2, d3] => { results := [.lit (.bool false)], args := [d1, d2, d3] }
  | _ => none }
def CoordGivesUpWrongFalsely : Prop := coordGivesUpRow.holds Try.pinned (OpenSpec.ofChange coordGivesUpWrong)

/-- 'repriselaw19.CoordIdle': WHATEVER THE INPUT: true; the input reads as it did. -/
def coordIdleSpec : ChangeSpec := { name := "coordIdle", fn := fun _ => fun
  | [d1, d2, d3] => { results := [.lit (.bool true)], args := [d1, d2, d3] }
  | _ => none }
def coordIdleRow : OpenClaim := { program := "ytcifdianinbkeaa", sum := "7621f9adf1aaecc49af2402d06386c574ef9b5ec0bfc8c227a7a0410e2b56b04", func := "reprise/repriselaw19.CoordIdle", spec := "coordIdle", unfollowed := true, recurses := true, apart := false }
def CoordIdleSaid : Prop := coordIdleRow.holds Try.pinned (OpenSpec.ofChange coordIdleSpec)

/-- ITS FALSE NEIGHBOUR: 'it returns false'. Refute it at one input. -/
def coordIdleWrong : ChangeSpec := { name := "coordIdle", fn := fun _ => fun
  | [d1, d2, d3] => { results := [.lit (.bool false)], args := [d1, d2, d3] }
  | _ => none }
def CoordIdleWrongFalsely : Prop := coordIdleRow.holds Try.pinned (OpenSpec.ofChange coordIdleWrong)

/-- 'repriselaw19.CoordOrder': WHATEVER THE INPUT: true; the input reads as it did. -/
def coordOrderSpec : ChangeSpec := { name := "coordOrder", fn := fun _ => fun
  | [d1, d2] => { results := [.lit (.bool true)], args := [d1, d2] }
  | _ => none }
def coordOrderRow : OpenClaim := { program := "ytcifdianinbkeaa", sum := "7621f9adf1aaecc49af2402d06386c574ef9b5ec0bfc8c227a7a0410e2b56b04", func := "reprise/repriselaw19.CoordOrder", spec := "coordOrder", unfollowed := true, recurses := true, apart := false }
def CoordOrderSaid : Prop := coordOrderRow.holds Try.pinned (OpenSpec.ofChange coordOrderSpec)

/-- ITS FALSE NEIGHBOUR: 'it returns false'. Refute it at one input. -/
def coordOrderWrong : ChangeSpec := { name := "coordOrder", fn := fun _ => fun
  | [d1, d2] => { results := [.lit (.bool false)], args := [d1, d2] }
  | _ => none }
def CoordOrderWrongFalsely : Prop := coordOrderRow.holds Try.pinned (OpenSpec.ofChange coordOrderWrong)

/- THE SECOND FORM. 'bulk': how many values and letters a reading holds, each counted each time it is reached (what is shared counts as often as it is met; a slice's spare places count too). A statement '..UptoSaid' is the law's where the arguments, and the package variables that the reading takes, are together of bulk at most 1048576: NARROWER than '..Said'. Prove '..Said' where nothing that the law and all that it calls make is longer than what came in: it says more and counts as full. Else prove '..UptoSaid'. A law counts once. -/
mutual
def uptoBulk {H : Type} : DataW H → Nat
  | .lit (.string bytes) => bytes.length + 1
  | .lit _ => 1
  | .nil => 1
  | .ptr d => uptoBulk d + 1
  | .slice elems spare => uptoBulkAll elems + uptoBulkAll spare + 1
  | .agg parts => uptoBulkAll parts + 1
  | .iface _ d => uptoBulk d + 1
  | .map entries => uptoBulkEntries entries + 1
  | .held _ => 1
def uptoBulkAll {H : Type} : List (DataW H) → Nat
  | [] => 0
  | d :: r => uptoBulk d + uptoBulkAll r
def uptoBulkEntries {H : Type} : List (Lit × DataW H) → Nat
  | [] => 0
  | x :: r => uptoBulkEntry x + uptoBulkEntries r
def uptoBulkEntry {H : Type} : Lit × DataW H → Nat
  | (.string bytes, d) => bytes.length + uptoBulk d + 1
  | (_, d) => uptoBulk d + 1
 end
def uptoSmall : (H : Type) → List (DataW H) → Bool := fun _ ds => decide (uptoBulkAll ds ≤ 1048576)
def OpenSpec.upto (s : _root_.Go.ChangeSpec) : _root_.Go.OpenSpec := { _root_.Go.OpenSpec.ofChange s with cond := some uptoSmall }

/-- 'repriselaw19.CoordMemory', WHERE WHAT IT READS IS OF BULK AT MOST 1048576: true; the input reads as it did. -/
def coordMemoryUptoRow : OpenClaim := { program := "ytcifdianinbkeaa", sum := "7621f9adf1aaecc49af2402d06386c574ef9b5ec0bfc8c227a7a0410e2b56b04", func := "reprise/repriselaw19.CoordMemory", spec := "coordMemory", unfollowed := true, recurses := true, apart := false, narrowed := true }
def CoordMemoryUptoSaid : Prop := coordMemoryUptoRow.holds Try.pinned (OpenSpec.upto coordMemorySpec)

/-- 'repriselaw19.CoordNumbers', WHERE WHAT IT READS IS OF BULK AT MOST 1048576: true; the input reads as it did. -/
def coordNumbersUptoRow : OpenClaim := { program := "ytcifdianinbkeaa", sum := "7621f9adf1aaecc49af2402d06386c574ef9b5ec0bfc8c227a7a0410e2b56b04", func := "reprise/repriselaw19.CoordNumbers", spec := "coordNumbers", unfollowed := true, recurses := true, apart := false, narrowed := true }
def CoordNumbersUptoSaid : Prop := coordNumbersUptoRow.holds Try.pinned (OpenSpec.upto coordNumbersSpec)

/-- 'repriselaw19.CoordGivesUp', WHERE WHAT IT READS IS OF BULK AT MOST 1048576: true; the input reads as it did. -/
def coordGivesUpUptoRow : OpenClaim := { program := "ytcifdianinbkeaa", sum := "7621f9adf1aaecc49af2402d06386c574ef9b5ec0bfc8c227a7a0410e2b56b04", func := "reprise/repriselaw19.CoordGivesUp", spec := "coordGivesUp", unfollowed := true, recurses := true, apart := false, narrowed := true }
def CoordGivesUpUptoSaid : Prop := coordGivesUpUptoRow.holds Try.pinned (OpenSpec.upto coordGivesUpSpec)

/-- 'repriselaw19.CoordIdle', WHERE WHAT IT READS IS OF BULK AT MOST 1048576: true; the input reads as it did. -/
def coordIdleUptoRow : OpenClaim := { program := "ytcifdianinbkeaa", sum := "7621f9adf1aaecc49af2402d06386c574ef9b5ec0bfc8c227a7a0410e2b56b04", func := "reprise/repriselaw19.CoordIdle", spec := "coordIdle", unfollowed := true, recurses := true, apart := false, narrowed := true }
def CoordIdleUptoSaid : Prop := coordIdleUptoRow.holds Try.pinned (OpenSpec.upto coordIdleSpec)

/-- 'repriselaw19.CoordOrder', WHERE WHAT IT READS IS OF BULK AT MOST 1048576: true; the input reads as it did. -/
def coordOrderUptoRow : OpenClaim := { program := "ytcifdianinbkeaa", sum := "7621f9adf1aaecc49af2402d06386c574ef9b5ec0bfc8c227a7a0410e2b56b04", func := "reprise/repriselaw19.CoordOrder", spec := "coordOrder", unfollowed := true, recurses := true, apart := false, narrowed := true }
def CoordOrderUptoSaid : Prop := coordOrderUptoRow.holds Try.pinned (OpenSpec.upto coordOrderSpec)

end Rows
end Go.Proofs.Ytcifdianinbkeaa
