/-
  The reference's disk, in plain Lean; the memory that it owns. No program in sight.
-/
import Derived.Test.YtipkfdeiallifaaDiskPure
set_option linter.unusedVariables false
set_option linter.unusedSimpArgs false
namespace Go.Proofs.Ytipkfdeiallifaa.Lg
open Go Go.RowKit
structure RSt where
  bl : List (List Int)
  down : Bool
  left : Int
  reads : Int
  writes : Int
def rcells (s : RSt) (A : Option Addr) (c : Nat) : List Value := [.slice A s.bl.length c, .bool s.down, .int .i64 s.left, .int .i64 s.reads, .int .i64 s.writes]
def RefA (TD TS TB : TypeId) (b : Nat) (s : RSt) : Assn := Thing (fun q : List Value × Option Addr × Nat => q.1.length = s.bl.length)
  (fun q => Blk b (rcells s q.2.1 q.2.2) TD :: Own TS 1 (.slice q.2.1 s.bl.length q.2.2) s.bl.length (El.val.flat q.1) :: rowsA TB (El.int .u8) q.1 s.bl)
section
variable {B w : World} {TD TS TB b : Nat} {s : RSt} {L : List Assn}
theorem Sat.ropen (hs : Sat B w (RefA TD TS TB b s :: L)) : ∃ (vs : List Value) (A : Option Addr) (c : Nat), vs.length = s.bl.length ∧
    Sat B w (Blk b (rcells s A c) TD :: Own TS 1 (.slice A s.bl.length c) s.bl.length (El.val.flat vs) :: (L ++ rowsA TB (El.int .u8) vs s.bl)) := by
  obtain ⟨⟨vs, A, c⟩, h1, h2⟩ := Sat.openObj hs
  exact ⟨vs, A, c, h1, h2.perm perm_rows⟩
theorem Sat.rshut {vs : List Value} {A : Option Addr} {c : Nat} (hv : vs.length = s.bl.length)
    (hs : Sat B w (Blk b (rcells s A c) TD :: Own TS 1 (.slice A s.bl.length c) s.bl.length (El.val.flat vs) :: (L ++ rowsA TB (El.int .u8) vs s.bl))) : Sat B w (RefA TD TS TB b s :: L) :=
  Sat.shutObj (vs, A, c) hv (hs.perm perm_rows.symm)
end
def rcheck (s : RSt) (i : Int) : Int := if s.down then 80 else if i < 0 ∨ (s.bl.length : Int) ≤ i then 81 else 0
def roff (s : RSt) : RSt := { s with down := true, left := -1 }
def ron (s : RSt) : RSt := { s with down := false, left := -1 }
def rcut (s : RSt) (n : Int) : RSt := { s with left := if n < 0 then -1 else n }
def rread (s : RSt) (i : Int) : List Int × Int × RSt := if rcheck s i = 0 then (s.bl.getD i.toNat [], 0, { s with reads := IntKind.i64.wrap (s.reads + 1) }) else ([], rcheck s i, s)
def rwrite (s : RSt) (i : Int) (b : List Int) : Int × RSt :=
  if rcheck s i ≠ 0 then (rcheck s i, s) else if 1024 < b.length then (6, s) else if s.left = 0 then (80, roff s)
  else (0, { s with left := if 0 < s.left then s.left - 1 else s.left, bl := s.bl.set i.toNat b, writes := IntKind.i64.wrap (s.writes + 1) })
def rnew (n : Nat) : RSt := ⟨List.replicate n [], false, -1, 0, 0⟩
/-- The disk and the reference's tell the same. -/
def Alike (d : DSt) (r : RSt) : Prop := d.bl = r.bl ∧ d.down = r.down ∧ d.reads = r.reads ∧ d.writes = r.writes ∧ -1 ≤ r.left ∧ d.armed = decide (0 ≤ r.left) ∧ (0 ≤ r.left → d.left = r.left)
theorem alike_new (n : Nat) : Alike (dnew n) (rnew n) := ⟨rfl, rfl, rfl, rfl, by simp [rnew], by simp [rnew, dnew], by simp [rnew]⟩
theorem alike_check {d : DSt} {r : RSt} (h : Alike d r) (i : Int) : dcheck d i = rcheck r i := by
  obtain ⟨h1, h2, _⟩ := h
  unfold dcheck rcheck
  rw [h1, h2]
end Go.Proofs.Ytipkfdeiallifaa.Lg
