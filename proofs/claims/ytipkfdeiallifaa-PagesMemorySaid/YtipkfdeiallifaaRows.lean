/-
  No cell of these rows narrows 'for every input' (looked for: loops, veiled, ifaces, maps, wideKeys, modest, calm, conditions, laid).
  DERIVED. THE GIVEN ROWS OF THIS SEAT. 12 by the template 'for every input the law returns true; each argument reads behind the call as it read before'; 0 by the template 'total and deterministic' (their statements: YtipkfdeiallifaaTotals.lean).
  GIVEN WITH THE SEED: the statements are not yours to turn. If you find one false, say at which input.
  Laid BY PROGRAM, IN A SANDBOX (cutbox-rows.mjs): the forced cells as the released guide's own fill.sh prints them over the translation 8d4e31f7dc146fdb… (all of the seat's roots in one cut). By AI agents, Wed Nov 11 2026. No macro, syntax, notation, axiom, sorry.
-/
import Derived.Test.YtipkfdeiallifaaChecked
import GoSem.Claim
import GoSem.ClaimJoined
import GoSem.ClaimMapViews
import Derived.JoinedTies
import Derived.KernelRfl
namespace Go.Proofs.Ytipkfdeiallifaa
/- THE CELL 'sum', in the pinned program and in every row, IS THE sha256 OF THE DUMP (.gsa) THAT YtipkfdeiallifaaProg.lean LOADS. Nothing in Lean hashes anything: it is a label: what it is worth is what the hold of that sum in a sandbox is worth. -/
noncomputable def Try.pinned : Pinned := { name := "ytipkfdeiallifaa", sum := "8d4e31f7dc146fdbb81fed4089d504c9b83513cdbb7ac4f40ae5df879a807bf9", checked := Try.checked }
namespace Rows
def none {H : Type} : Left H := { results := [], args := [] }

/-- 'repriselaw15.MsgBytes': WHATEVER THE INPUT: true; the input reads as it did. -/
def msgBytesSpec : ChangeSpec := { name := "msgBytes", fn := fun _ => fun
  | [d] => { results := [.lit (.bool true)], args := [d] }
  | _ => none }
def msgBytesRow : OpenClaim := { program := "ytipkfdeiallifaa", sum := "8d4e31f7dc146fdbb81fed4089d504c9b83513cdbb7ac4f40ae5df879a807bf9", func := "reprise/repriselaw15.MsgBytes", spec := "msgBytes", unfollowed := true, recurses := true, apart := false }
def MsgBytesSaid : Prop := msgBytesRow.holds Try.pinned (OpenSpec.ofChange msgBytesSpec)

/-- ITS FALSE NEIGHBOUR: 'it returns false'. Refute it at one input. -/
def msgBytesWrong : ChangeSpec := { name := "msgBytes", fn := fun _ => fun
  | [d] => { results := [.lit (.bool false)], args := [d] }
  | _ => none }
def MsgBytesWrongFalsely : Prop := msgBytesRow.holds Try.pinned (OpenSpec.ofChange msgBytesWrong)

/-- 'repriselaw15.MsgRaw': WHATEVER THE INPUT: true; the input reads as it did. -/
def msgRawSpec : ChangeSpec := { name := "msgRaw", fn := fun _ => fun
  | [d] => { results := [.lit (.bool true)], args := [d] }
  | _ => none }
def msgRawRow : OpenClaim := { program := "ytipkfdeiallifaa", sum := "8d4e31f7dc146fdbb81fed4089d504c9b83513cdbb7ac4f40ae5df879a807bf9", func := "reprise/repriselaw15.MsgRaw", spec := "msgRaw", unfollowed := true, recurses := true, apart := false }
def MsgRawSaid : Prop := msgRawRow.holds Try.pinned (OpenSpec.ofChange msgRawSpec)

/-- ITS FALSE NEIGHBOUR: 'it returns false'. Refute it at one input. -/
def msgRawWrong : ChangeSpec := { name := "msgRaw", fn := fun _ => fun
  | [d] => { results := [.lit (.bool false)], args := [d] }
  | _ => none }
def MsgRawWrongFalsely : Prop := msgRawRow.holds Try.pinned (OpenSpec.ofChange msgRawWrong)

/-- 'repriselaw15.MsgForm': WHATEVER THE INPUT: true; the input reads as it did. -/
def msgFormSpec : ChangeSpec := { name := "msgForm", fn := fun _ => fun
  | [d] => { results := [.lit (.bool true)], args := [d] }
  | _ => none }
def msgFormRow : OpenClaim := { program := "ytipkfdeiallifaa", sum := "8d4e31f7dc146fdbb81fed4089d504c9b83513cdbb7ac4f40ae5df879a807bf9", func := "reprise/repriselaw15.MsgForm", spec := "msgForm", unfollowed := true, recurses := true, apart := false }
def MsgFormSaid : Prop := msgFormRow.holds Try.pinned (OpenSpec.ofChange msgFormSpec)

/-- ITS FALSE NEIGHBOUR: 'it returns false'. Refute it at one input. -/
def msgFormWrong : ChangeSpec := { name := "msgForm", fn := fun _ => fun
  | [d] => { results := [.lit (.bool false)], args := [d] }
  | _ => none }
def MsgFormWrongFalsely : Prop := msgFormRow.holds Try.pinned (OpenSpec.ofChange msgFormWrong)

/-- 'repriselaw15.MsgBack': WHATEVER THE INPUT: true; the input reads as it did. -/
def msgBackSpec : ChangeSpec := { name := "msgBack", fn := fun _ => fun
  | [d] => { results := [.lit (.bool true)], args := [d] }
  | _ => none }
def msgBackRow : OpenClaim := { program := "ytipkfdeiallifaa", sum := "8d4e31f7dc146fdbb81fed4089d504c9b83513cdbb7ac4f40ae5df879a807bf9", func := "reprise/repriselaw15.MsgBack", spec := "msgBack", unfollowed := true, recurses := true, apart := false }
def MsgBackSaid : Prop := msgBackRow.holds Try.pinned (OpenSpec.ofChange msgBackSpec)

/-- ITS FALSE NEIGHBOUR: 'it returns false'. Refute it at one input. -/
def msgBackWrong : ChangeSpec := { name := "msgBack", fn := fun _ => fun
  | [d] => { results := [.lit (.bool false)], args := [d] }
  | _ => none }
def MsgBackWrongFalsely : Prop := msgBackRow.holds Try.pinned (OpenSpec.ofChange msgBackWrong)

/-- 'repriselaw15.MsgKinds': WHATEVER THE INPUT: true; the input reads as it did. -/
def msgKindsSpec : ChangeSpec := { name := "msgKinds", fn := fun _ => fun
  | [d1, d2, d3] => { results := [.lit (.bool true)], args := [d1, d2, d3] }
  | _ => none }
def msgKindsRow : OpenClaim := { program := "ytipkfdeiallifaa", sum := "8d4e31f7dc146fdbb81fed4089d504c9b83513cdbb7ac4f40ae5df879a807bf9", func := "reprise/repriselaw15.MsgKinds", spec := "msgKinds", unfollowed := true, recurses := true, apart := false }
def MsgKindsSaid : Prop := msgKindsRow.holds Try.pinned (OpenSpec.ofChange msgKindsSpec)

/-- ITS FALSE NEIGHBOUR: 'it returns false'. Refute it at one input. -/
def msgKindsWrong : ChangeSpec := { name := "msgKinds", fn := fun _ => fun
  | [d1, d2, d3] => { results := [.lit (.bool false)], args := [d1, d2, d3] }
  | _ => none }
def MsgKindsWrongFalsely : Prop := msgKindsRow.holds Try.pinned (OpenSpec.ofChange msgKindsWrong)

/-- 'repriselaw15.MsgMemory': WHATEVER THE INPUT: true; the input reads as it did. -/
def msgMemorySpec : ChangeSpec := { name := "msgMemory", fn := fun _ => fun
  | [d] => { results := [.lit (.bool true)], args := [d] }
  | _ => none }
def msgMemoryRow : OpenClaim := { program := "ytipkfdeiallifaa", sum := "8d4e31f7dc146fdbb81fed4089d504c9b83513cdbb7ac4f40ae5df879a807bf9", func := "reprise/repriselaw15.MsgMemory", spec := "msgMemory", unfollowed := true, recurses := true, apart := false }
def MsgMemorySaid : Prop := msgMemoryRow.holds Try.pinned (OpenSpec.ofChange msgMemorySpec)

/-- ITS FALSE NEIGHBOUR: 'it returns false'. Refute it at one input. -/
def msgMemoryWrong : ChangeSpec := { name := "msgMemory", fn := fun _ => fun
  | [d] => { results := [.lit (.bool false)], args := [d] }
  | _ => none }
def MsgMemoryWrongFalsely : Prop := msgMemoryRow.holds Try.pinned (OpenSpec.ofChange msgMemoryWrong)

/-- 'repriselaw09.PagesRefuses': WHATEVER THE INPUT: true; the input reads as it did. -/
def pagesRefusesSpec : ChangeSpec := { name := "pagesRefuses", fn := fun _ => fun
  | [d1, d2, d3] => { results := [.lit (.bool true)], args := [d1, d2, d3] }
  | _ => none }
def pagesRefusesRow : OpenClaim := { program := "ytipkfdeiallifaa", sum := "8d4e31f7dc146fdbb81fed4089d504c9b83513cdbb7ac4f40ae5df879a807bf9", func := "reprise/repriselaw09.PagesRefuses", spec := "pagesRefuses", unfollowed := true, recurses := true, apart := false }
def PagesRefusesSaid : Prop := pagesRefusesRow.holds Try.pinned (OpenSpec.ofChange pagesRefusesSpec)

/-- ITS FALSE NEIGHBOUR: 'it returns false'. Refute it at one input. -/
def pagesRefusesWrong : ChangeSpec := { name := "pagesRefuses", fn := fun _ => fun
  | [d1, d2, d3] => { results := [.lit (.bool false)], args := [d1, d2, d3] }
  | _ => none }
def PagesRefusesWrongFalsely : Prop := pagesRefusesRow.holds Try.pinned (OpenSpec.ofChange pagesRefusesWrong)

/-- 'repriselaw09.PagesMemory': WHATEVER THE INPUT: true; the input reads as it did. -/
def pagesMemorySpec : ChangeSpec := { name := "pagesMemory", fn := fun _ => fun
  | [d] => { results := [.lit (.bool true)], args := [d] }
  | _ => none }
def pagesMemoryRow : OpenClaim := { program := "ytipkfdeiallifaa", sum := "8d4e31f7dc146fdbb81fed4089d504c9b83513cdbb7ac4f40ae5df879a807bf9", func := "reprise/repriselaw09.PagesMemory", spec := "pagesMemory", unfollowed := true, recurses := true, apart := false }
def PagesMemorySaid : Prop := pagesMemoryRow.holds Try.pinned (OpenSpec.ofChange pagesMemorySpec)

/-- ITS FALSE NEIGHBOUR: 'it returns false'. Refute it at one input. -/
def pagesMemoryWrong : ChangeSpec := { name := "pagesMemory", fn := fun _ => fun
  | [d] => { results := [.lit (.bool false)], args := [d] }
  | _ => none }
def PagesMemoryWrongFalsely : Prop := pagesMemoryRow.holds Try.pinned (OpenSpec.ofChange pagesMemoryWrong)

/-- 'repriselaw09.PagesCrash': WHATEVER THE INPUT: true; the input reads as it did. -/
def pagesCrashSpec : ChangeSpec := { name := "pagesCrash", fn := fun _ => fun
  | [d1, d2, d3] => { results := [.lit (.bool true)], args := [d1, d2, d3] }
  | _ => none }
def pagesCrashRow : OpenClaim := { program := "ytipkfdeiallifaa", sum := "8d4e31f7dc146fdbb81fed4089d504c9b83513cdbb7ac4f40ae5df879a807bf9", func := "reprise/repriselaw09.PagesCrash", spec := "pagesCrash", unfollowed := true, recurses := true, apart := false }
def PagesCrashSaid : Prop := pagesCrashRow.holds Try.pinned (OpenSpec.ofChange pagesCrashSpec)

/-- ITS FALSE NEIGHBOUR: 'it returns false'. Refute it at one input. -/
def pagesCrashWrong : ChangeSpec := { name := "pagesCrash", fn := fun _ => fun
  | [d1, d2, d3] => { results := [.lit (.bool false)], args := [d1, d2, d3] }
  | _ => none }
def PagesCrashWrongFalsely : Prop := pagesCrashRow.holds Try.pinned (OpenSpec.ofChange pagesCrashWrong)

/-- 'repriselaw09.PagesExact': WHATEVER THE INPUT: true; the input reads as it did. -/
def pagesExactSpec : ChangeSpec := { name := "pagesExact", fn := fun _ => fun
  | [d1, d2, d3] => { results := [.lit (.bool true)], args := [d1, d2, d3] }
  | _ => none }
def pagesExactRow : OpenClaim := { program := "ytipkfdeiallifaa", sum := "8d4e31f7dc146fdbb81fed4089d504c9b83513cdbb7ac4f40ae5df879a807bf9", func := "reprise/repriselaw09.PagesExact", spec := "pagesExact", unfollowed := true, recurses := true, apart := false }
def PagesExactSaid : Prop := pagesExactRow.holds Try.pinned (OpenSpec.ofChange pagesExactSpec)

/-- ITS FALSE NEIGHBOUR: 'it returns false'. Refute it at one input. -/
def pagesExactWrong : ChangeSpec := { name := "pagesExact", fn := fun _ => fun
  | [d1, d2, d3] => { results := [.lit (.bool false)], args := [d1, d2, d3] }
  | _ => none }
def PagesExactWrongFalsely : Prop := pagesExactRow.holds Try.pinned (OpenSpec.ofChange pagesExactWrong)

/-- 'repriselaw09.PagesImages': WHATEVER THE INPUT: true; the input reads as it did. -/
def pagesImagesSpec : ChangeSpec := { name := "pagesImages", fn := fun _ => fun
  | [d] => { results := [.lit (.bool true)], args := [d] }
  | _ => none }
def pagesImagesRow : OpenClaim := { program := "ytipkfdeiallifaa", sum := "8d4e31f7dc146fdbb81fed4089d504c9b83513cdbb7ac4f40ae5df879a807bf9", func := "reprise/repriselaw09.PagesImages", spec := "pagesImages", unfollowed := true, recurses := true, apart := false }
def PagesImagesSaid : Prop := pagesImagesRow.holds Try.pinned (OpenSpec.ofChange pagesImagesSpec)

/-- ITS FALSE NEIGHBOUR: 'it returns false'. Refute it at one input. -/
def pagesImagesWrong : ChangeSpec := { name := "pagesImages", fn := fun _ => fun
  | [d] => { results := [.lit (.bool false)], args := [d] }
  | _ => none }
def PagesImagesWrongFalsely : Prop := pagesImagesRow.holds Try.pinned (OpenSpec.ofChange pagesImagesWrong)

/-- 'repriselaw09.PagesShadow': WHATEVER THE INPUT: true; the input reads as it did. -/
def pagesShadowSpec : ChangeSpec := { name := "pagesShadow", fn := fun _ => fun
  | [d] => { results := [.lit (.bool true)], args := [d] }
  | _ => none }
def pagesShadowRow : OpenClaim := { program := "ytipkfdeiallifaa", sum := "8d4e31f7dc146fdbb81fed4089d504c9b83513cdbb7ac4f40ae5df879a807bf9", func := "reprise/repriselaw09.PagesShadow", spec := "pagesShadow", unfollowed := true, recurses := true, apart := false }
def PagesShadowSaid : Prop := pagesShadowRow.holds Try.pinned (OpenSpec.ofChange pagesShadowSpec)

/-- ITS FALSE NEIGHBOUR: 'it returns false'. Refute it at one input. -/
def pagesShadowWrong : ChangeSpec := { name := "pagesShadow", fn := fun _ => fun
  | [d] => { results := [.lit (.bool false)], args := [d] }
  | _ => none }
def PagesShadowWrongFalsely : Prop := pagesShadowRow.holds Try.pinned (OpenSpec.ofChange pagesShadowWrong)

/- THE SECOND FORM. 'bulk': how many values and letters a reading holds, each counted each time it is reached (what is shared counts as often as it is met; a slice's spare places count too). A statement '..UptoSaid' is the law's where the arguments, and the package variables that the reading takes, are together of bulk at most 1048576: NARROWER than '..Said'. Prove '..Said' where nothing that the law and all that it calls make is longer than what came in: it says more and counts as full. Else prove '..UptoSaid'. A law counts once. -/
mutual
def uptoBulk {H : Type} : DataW H → Nat
  | .lit (.string bytes) => bytes.length + 1
  | .lit _ => 1
  | .nil => 1
  | .ptr d => uptoBulk d + 1
  | .slice elems spare => uptoBulkAll elems + uptoBulkAll spare + 1
  | .agg parts => uptoBulkAll parts + 1
  | .iface _ d => uptoBulk d + 1
  | .map entries => uptoBulkEntries entries + 1
  | .held _ => 1
def uptoBulkAll {H : Type} : List (DataW H) → Nat
  | [] => 0
  | d :: r => uptoBulk d + uptoBulkAll r
def uptoBulkEntries {H : Type} : List (Lit × DataW H) → Nat
  | [] => 0
  | x :: r => uptoBulkEntry x + uptoBulkEntries r
def uptoBulkEntry {H : Type} : Lit × DataW H → Nat
  | (.string bytes, d) => bytes.length + uptoBulk d + 1
  | (_, d) => uptoBulk d + 1
 end
def uptoSmall : (H : Type) → List (DataW H) → Bool := fun _ ds => decide (uptoBulkAll ds ≤ 1048576)
def OpenSpec.upto (s : _root_.Go.ChangeSpec) : _root_.Go.OpenSpec := { _root_.Go.OpenSpec.ofChange s with cond := some uptoSmall }

/-- 'repriselaw15.MsgBytes', WHERE WHAT IT READS IS OF BULK AT MOST 1048576: true; the input reads as it did. -/
def msgBytesUptoRow : OpenClaim := { program := "ytipkfdeiallifaa", sum := "8d4e31f7dc146fdbb81fed4089d504c9b83513cdbb7ac4f40ae5df879a807bf9", func := "reprise/repriselaw15.MsgBytes", spec := "msgBytes", unfollowed := true, recurses := true, apart := false, narrowed := true }
def MsgBytesUptoSaid : Prop := msgBytesUptoRow.holds Try.pinned (OpenSpec.upto msgBytesSpec)

/-- 'repriselaw15.MsgRaw', WHERE WHAT IT READS IS OF BULK AT MOST 1048576: true; the input reads as it did. -/
def msgRawUptoRow : OpenClaim := { program := "ytipkfdeiallifaa", sum := "8d4e31f7dc146fdbb81fed4089d504c9b83513cdbb7ac4f40ae5df879a807bf9", func := "reprise/repriselaw15.MsgRaw", spec := "msgRaw", unfollowed := true, recurses := true, apart := false, narrowed := true }
def MsgRawUptoSaid : Prop := msgRawUptoRow.holds Try.pinned (OpenSpec.upto msgRawSpec)

/-- 'repriselaw15.MsgForm', WHERE WHAT IT READS IS OF BULK AT MOST 1048576: true; the input reads as it did. -/
def msgFormUptoRow : OpenClaim := { program := "ytipkfdeiallifaa", sum := "8d4e31f7dc146fdbb81fed4089d504c9b83513cdbb7ac4f40ae5df879a807bf9", func := "reprise/repriselaw15.MsgForm", spec := "msgForm", unfollowed := true, recurses := true, apart := false, narrowed := true }
def MsgFormUptoSaid : Prop := msgFormUptoRow.holds Try.pinned (OpenSpec.upto msgFormSpec)

/-- 'repriselaw15.MsgBack', WHERE WHAT IT READS IS OF BULK AT MOST 1048576: true; the input reads as it did. -/
def msgBackUptoRow : OpenClaim := { program := "ytipkfdeiallifaa", sum := "8d4e31f7dc146fdbb81fed4089d504c9b83513cdbb7ac4f40ae5df879a807bf9", func := "reprise/repriselaw15.MsgBack", spec := "msgBack", unfollowed := true, recurses := true, apart := false, narrowed := true }
def MsgBackUptoSaid : Prop := msgBackUptoRow.holds Try.pinned (OpenSpec.upto msgBackSpec)

/-- 'repriselaw15.MsgKinds', WHERE WHAT IT READS IS OF BULK AT MOST 1048576: true; the input reads as it did. -/
def msgKindsUptoRow : OpenClaim := { program := "ytipkfdeiallifaa", sum := "8d4e31f7dc146fdbb81fed4089d504c9b83513cdbb7ac4f40ae5df879a807bf9", func := "reprise/repriselaw15.MsgKinds", spec := "msgKinds", unfollowed := true, recurses := true, apart := false, narrowed := true }
def MsgKindsUptoSaid : Prop := msgKindsUptoRow.holds Try.pinned (OpenSpec.upto msgKindsSpec)

/-- 'repriselaw15.MsgMemory', WHERE WHAT IT READS IS OF BULK AT MOST 1048576: true; the input reads as it did. -/
def msgMemoryUptoRow : OpenClaim := { program := "ytipkfdeiallifaa", sum := "8d4e31f7dc146fdbb81fed4089d504c9b83513cdbb7ac4f40ae5df879a807bf9", func := "reprise/repriselaw15.MsgMemory", spec := "msgMemory", unfollowed := true, recurses := true, apart := false, narrowed := true }
def MsgMemoryUptoSaid : Prop := msgMemoryUptoRow.holds Try.pinned (OpenSpec.upto msgMemorySpec)

/-- 'repriselaw09.PagesRefuses', WHERE WHAT IT READS IS OF BULK AT MOST 1048576: true; the input reads as it did. -/
def pagesRefusesUptoRow : OpenClaim := { program := "ytipkfdeiallifaa", sum := "8d4e31f7dc146fdbb81fed4089d504c9b83513cdbb7ac4f40ae5df879a807bf9", func := "reprise/repriselaw09.PagesRefuses", spec := "pagesRefuses", unfollowed := true, recurses := true, apart := false, narrowed := true }
def PagesRefusesUptoSaid : Prop := pagesRefusesUptoRow.holds Try.pinned (OpenSpec.upto pagesRefusesSpec)

/-- 'repriselaw09.PagesMemory', WHERE WHAT IT READS IS OF BULK AT MOST 1048576: true; the input reads as it did. -/
def pagesMemoryUptoRow : OpenClaim := { program := "ytipkfdeiallifaa", sum := "8d4e31f7dc146fdbb81fed4089d504c9b83513cdbb7ac4f40ae5df879a807bf9", func := "reprise/repriselaw09.PagesMemory", spec := "pagesMemory", unfollowed := true, recurses := true, apart := false, narrowed := true }
def PagesMemoryUptoSaid : Prop := pagesMemoryUptoRow.holds Try.pinned (OpenSpec.upto pagesMemorySpec)

/-- 'repriselaw09.PagesCrash', WHERE WHAT IT READS IS OF BULK AT MOST 1048576: true; the input reads as it did. -/
def pagesCrashUptoRow : OpenClaim := { program := "ytipkfdeiallifaa", sum := "8d4e31f7dc146fdbb81fed4089d504c9b83513cdbb7ac4f40ae5df879a807bf9", func := "reprise/repriselaw09.PagesCrash", spec := "pagesCrash", unfollowed := true, recurses := true, apart := false, narrowed := true }
def PagesCrashUptoSaid : Prop := pagesCrashUptoRow.holds Try.pinned (OpenSpec.upto pagesCrashSpec)

/-- 'repriselaw09.PagesExact', WHERE WHAT IT READS IS OF BULK AT MOST 1048576: true; the input reads as it did. -/
def pagesExactUptoRow : OpenClaim := { program := "ytipkfdeiallifaa", sum := "8d4e31f7dc146fdbb81fed4089d504c9b83513cdbb7ac4f40ae5df879a807bf9", func := "reprise/repriselaw09.PagesExact", spec := "pagesExact", unfollowed := true, recurses := true, apart := false, narrowed := true }
def PagesExactUptoSaid : Prop := pagesExactUptoRow.holds Try.pinned (OpenSpec.upto pagesExactSpec)

/-- 'repriselaw09.PagesImages', WHERE WHAT IT READS IS OF BULK AT MOST 1048576: true; the input reads as it did. -/
def pagesImagesUptoRow : OpenClaim := { program := "ytipkfdeiallifaa", sum := "8d4e31f7dc146fdbb81fed4089d504c9b83513cdbb7ac4f40ae5df879a807bf9", func := "reprise/repriselaw09.PagesImages", spec := "pagesImages", unfollowed := true, recurses := true, apart := false, narrowed := true }
def PagesImagesUptoSaid : Prop := pagesImagesUptoRow.holds Try.pinned (OpenSpec.upto pagesImagesSpec)

/-- 'repriselaw09.PagesShadow', WHERE WHAT IT READS IS OF BULK AT MOST 1048576: true; the input reads as it did. -/
def pagesShadowUptoRow : OpenClaim := { program := "ytipkfdeiallifaa", sum := "8d4e31f7dc146fdbb81fed4089d504c9b83513cdbb7ac4f40ae5df879a807bf9", func := "reprise/repriselaw09.PagesShadow", spec := "pagesShadow", unfollowed := true, recurses := true, apart := false, narrowed := true }
def PagesShadowUptoSaid : Prop := pagesShadowUptoRow.holds Try.pinned (OpenSpec.upto pagesShadowSpec)

end Rows
end Go.Proofs.Ytipkfdeiallifaa
