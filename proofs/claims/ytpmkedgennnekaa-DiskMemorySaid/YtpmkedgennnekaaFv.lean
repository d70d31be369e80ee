/-
  Calls of function values: plain ones, and closures. No program in sight.
-/
import Derived.Test.YtpmkedgennnekaaOb
set_option linter.unusedVariables false
set_option linter.unusedSimpArgs false
namespace Go.Proofs.Ytpmkedgennnekaa.Lg
open Go Go.RowKit
section
variable {P : Program} {ops : Array Oper} {n : Nat} {D : List Deferred} {E : Env} {w : World} {Q : Exit → Act → World → Prop} {rest : List Oper} {ty : TypeId} {ps : String} {af : Array Edge} {d : Nat}
theorem Ls_callv {f : FuncId} {fn : Func} {t : Operand} {cap : List Value} {xs : List Operand} {ts : Array TypeId} {args : List Value} {Φ : Value → World → Prop}
    (hf : P.funcs[f]? = some fn) (hname : (fn.name == "runtime.NumGoroutine") = false) (hb : fn.body.isSome = true) (hv : ev E t = some (.func (.func f) #[] cap.toArray)) (hx : evs E xs = some args)
    (hc : Calls P f (args ++ cap).toArray w (Ret Φ)) (hd : Nat.blt d n = true) (h : ∀ v w', Φ v w' → Ls P ops n D ((d, v) :: E) w' rest Q) :
    Ls P ops n D E w (⟨some d, .call { callee := .value t, args := xs.toArray, argTypes := ts }, ty, ps, af, none⟩ :: rest) Q := fun a ha => by
  have hargs : xs.toArray.map a.eval = args.toArray := by
    rw [List.map_toArray, ha.evals hx]
  have ht := ha.eval hv
  refine wpList_plain rfl fun K hK => ?_
  have he := enters hf hname hb (args ++ cap).toArray w
  have hrun : (execOp a.eval ⟨some d, .call { callee := .value t, args := xs.toArray, argTypes := ts }, ty, ps, af, none⟩).run P w = .ok (.enter f (args ++ cap).toArray) w := by
    unfold execOp
    simp only [resolve, ht, Deferred.ofValue, hargs, Sem.run_bind, Sem.run_pure, Result.andThen_ok, invoke]
    simpa using he
  unfold Oper.wp
  rw [hrun, Oper.upon_enter]
  refine hc.mono fun e w'' hh => ?_
  obtain ⟨u, rfl, hu⟩ := hh
  exact hK _ _ (h u w'' hu _ (ha.put hd u))
theorem Ls_callv0 {f : FuncId} {fn : Func} {t : Operand} {cap : List Value} {xs : List Operand} {ts : Array TypeId} {args : List Value} {Φ : Value → World → Prop}
    (hf : P.funcs[f]? = some fn) (hname : (fn.name == "runtime.NumGoroutine") = false) (hb : fn.body.isSome = true) (hv : ev E t = some (.func (.func f) #[] cap.toArray)) (hx : evs E xs = some args)
    (hc : Calls P f (args ++ cap).toArray w (Ret Φ)) (h : ∀ v w', Φ v w' → Ls P ops n D E w' rest Q) :
    Ls P ops n D E w (⟨none, .call { callee := .value t, args := xs.toArray, argTypes := ts }, ty, ps, af, none⟩ :: rest) Q := fun a ha => by
  have hargs : xs.toArray.map a.eval = args.toArray := by
    rw [List.map_toArray, ha.evals hx]
  have ht := ha.eval hv
  refine wpList_plain rfl fun K hK => ?_
  have he := enters hf hname hb (args ++ cap).toArray w
  have hrun : (execOp a.eval ⟨none, .call { callee := .value t, args := xs.toArray, argTypes := ts }, ty, ps, af, none⟩).run P w = .ok (.enter f (args ++ cap).toArray) w := by
    unfold execOp
    simp only [resolve, ht, Deferred.ofValue, hargs, Sem.run_bind, Sem.run_pure, Result.andThen_ok, invoke]
    simpa using he
  unfold Oper.wp
  rw [hrun, Oper.upon_enter]
  refine hc.mono fun e w'' hh => ?_
  obtain ⟨u, rfl, hu⟩ := hh
  exact hK _ _ (h u w'' hu _ (ha.putNone u))
end
/-- The first of many parts. -/
theorem Sat.pre {B w : World} {L1 L : List Assn} (hs : Sat B w (L1 ++ L)) : Sat B w L1 := by
  obtain ⟨hb, h, hL, hw⟩ := hs
  obtain ⟨h1, h2, h3, h4, hd, he⟩ := Stars.app hL
  exact ⟨hb, h1, h3, fun b o hbo => hw b o (by rw [he b, hbo]; rfl)⟩
/-- Some of the parts, whatever else there is: what a region in any order may read, if what it writes is not among them. -/
def Hold (B : World) (Ls : List Assn) (x : World) : Prop := ∃ R, Sat B x (Ls ++ R)
theorem Hold.of {B w : World} {Ls R : List Assn} (hs : Sat B w (Ls ++ R)) : Hold B Ls w := ⟨R, hs⟩
section
variable {P : Program} {ops : Array Oper} {n : Nat} {D : List Deferred} {E : Env} {B w : World} {Q : Exit → Act → World → Prop}
theorem St_hold {Ls : List Assn} (h : Hold B Ls w) {id : Nat} (hm : P.follows .mixedOrders = true) (k : ∀ w', Quiet w w' → An (Hold B Ls) P ops n D E w' ops.size (Array.replicate ops.size false) Q) : St P n D E w (.region id ops true) Q := St_draw (Hold B Ls) hm k
end
/-- Nothing, as a part. -/
theorem Sat.addNone {B w : World} {L : List Assn} {A : Assn} (hA : A (fun _ => Option.none)) (hs : Sat B w L) : Sat B w (A :: L) := by
  obtain ⟨hb, h, hL, hw⟩ := hs
  exact ⟨hb, h, ⟨fun _ => Option.none, h, hA, hL, fun _ => .inl rfl, fun b => by simp⟩, hw⟩
end Go.Proofs.Ytpmkedgennnekaa.Lg
