/-
  What a disk is and what its functions answer, in plain Lean; the memory that it owns. No program in sight.
-/
import Derived.Test.YtipkfdeiallifaaOb
set_option linter.unusedVariables false
set_option linter.unusedSimpArgs false
namespace Go.Proofs.Ytipkfdeiallifaa.Lg
open Go Go.RowKit
structure DSt where
  bl : List (List Int)
  down : Bool
  armed : Bool
  left : Int
  reads : Int
  writes : Int
def dcells (s : DSt) (A : Option Addr) (c : Nat) : List Value := [.slice A s.bl.length c, .bool s.down, .bool s.armed, .int .i64 s.left, .int .i64 s.reads, .int .i64 s.writes]
/-- A disk at block b. -/
def DiskA (TD TS TB : TypeId) (b : Nat) (s : DSt) : Assn := Thing (fun q : List Value × Option Addr × Nat => q.1.length = s.bl.length)
  (fun q => Blk b (dcells s q.2.1 q.2.2) TD :: Own TS 1 (.slice q.2.1 s.bl.length q.2.2) s.bl.length (El.val.flat q.1) :: rowsA TB (El.int .u8) q.1 s.bl)
section
variable {B w : World} {TD TS TB b : Nat} {s : DSt} {L : List Assn}
theorem Sat.dopen (hs : Sat B w (DiskA TD TS TB b s :: L)) : ∃ (vs : List Value) (A : Option Addr) (c : Nat), vs.length = s.bl.length ∧
    Sat B w (Blk b (dcells s A c) TD :: Own TS 1 (.slice A s.bl.length c) s.bl.length (El.val.flat vs) :: (L ++ rowsA TB (El.int .u8) vs s.bl)) := by
  obtain ⟨⟨vs, A, c⟩, h1, h2⟩ := Sat.openObj hs
  exact ⟨vs, A, c, h1, h2.perm perm_rows⟩
theorem Sat.dshut {vs : List Value} {A : Option Addr} {c : Nat} (hv : vs.length = s.bl.length)
    (hs : Sat B w (Blk b (dcells s A c) TD :: Own TS 1 (.slice A s.bl.length c) s.bl.length (El.val.flat vs) :: (L ++ rowsA TB (El.int .u8) vs s.bl))) : Sat B w (DiskA TD TS TB b s :: L) :=
  Sat.shutObj (vs, A, c) hv (hs.perm perm_rows.symm)
end
def dcheck (s : DSt) (i : Int) : Int := if s.down then 80 else if i < 0 ∨ (s.bl.length : Int) ≤ i then 81 else 0
def dset (s : DSt) (down : Bool) (n : Int) : DSt := { s with down := down, armed := decide (0 ≤ n), left := n }
def dcut (s : DSt) (n : Int) : DSt := dset s s.down n
def doff (s : DSt) : DSt := dset s true (-1)
def don (s : DSt) : DSt := dset s false (-1)
def dread (s : DSt) (i : Int) : List Int × Int × DSt := if dcheck s i = 0 then (s.bl.getD i.toNat [], 0, { s with reads := IntKind.i64.wrap (s.reads + 1) }) else ([], dcheck s i, s)
def dwrite (s : DSt) (i : Int) (b : List Int) : Int × DSt :=
  if dcheck s i ≠ 0 then (dcheck s i, s) else if 1024 < b.length then (6, s) else if s.armed = true ∧ s.left = 0 then (80, doff s)
  else (0, { s with left := IntKind.i64.wrap (s.left - 1), bl := s.bl.set i.toNat b, writes := IntKind.i64.wrap (s.writes + 1) })
def dnew (n : Nat) : DSt := ⟨List.replicate n [], false, false, 0, 0, 0⟩
end Go.Proofs.Ytipkfdeiallifaa.Lg
