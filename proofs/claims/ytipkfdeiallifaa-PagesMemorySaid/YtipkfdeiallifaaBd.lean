/-
  Rules for literals of structs and arrays. No program in sight.
-/
import Derived.Test.YtipkfdeiallifaaMp
import Derived.Laws.Tables
set_option linter.unusedVariables false
set_option linter.unusedSimpArgs false
namespace Go.Proofs.Ytipkfdeiallifaa.Lg
open Go Go.RowKit
section
variable {P : Program} {E : Env} {w : World} {ty t : TypeId}
theorem run_buildO {parts : List (Nat × Operand)} {pv : List (Nat × Value)} {cells : Array Value} (hp : parts.map (fun p => (p.1, ev E p.2)) = pv.map (fun p => (p.1, some p.2))) (hb : P.built t pv = some cells) :
    RunO P E (.build t parts.toArray) ty w (.agg cells) w := fun n D a dst ps af g ha => by
  have hpv := evp_map ha hp
  have hrun := run_build (P := P) w t pv.toArray cells (by simpa using hb)
  simp only [execOp, List.map_toArray, hpv, hrun, Sem.run_bind, Sem.run_pure, Result.andThen_ok]
end
end Go.Proofs.Ytipkfdeiallifaa.Lg
