/-
  Calls of function values: plain ones, and closures. No program in sight.
-/
import Derived.Test.YtipkfdeiallifaaOb
import Derived.Test.YtipkfdeiallifaaDc
set_option linter.unusedVariables false
set_option linter.unusedSimpArgs false
namespace Go.Proofs.Ytipkfdeiallifaa.Lg
open Go Go.RowKit
section
variable {P : Program} {ops : Array Oper} {n : Nat} {D : List Deferred} {E : Env} {w : World} {Q : Exit → Act → World → Prop} {rest : List Oper} {ty : TypeId} {ps : String} {af : Array Edge} {d : Nat}
theorem Ls_callv {f : FuncId} {fn : Func} {t : Operand} {cap : List Value} {xs : List Operand} {ts : Array TypeId} {args : List Value} {Φ : Value → World → Prop}
    (hf : P.funcs[f]? = some fn) (hname : (fn.name == "runtime.NumGoroutine") = false) (hb : fn.body.isSome = true) (hv : ev E t = some (.func (.func f) #[] cap.toArray)) (hx : evs E xs = some args)
    (hc : Calls P f (args ++ cap).toArray w (Ret Φ)) (hd : Nat.blt d n = true) (h : ∀ v w', Φ v w' → Ls P ops n D ((d, v) :: E) w' rest Q) :
    Ls P ops n D E w (⟨some d, .call { callee := .value t, args := xs.toArray, argTypes := ts }, ty, ps, af, none⟩ :: rest) Q := fun a ha => by
  have hargs : xs.toArray.map a.eval = args.toArray := by
    rw [List.map_toArray, ha.evals hx]
  have ht := ha.eval hv
  refine wpList_plain rfl fun K hK => ?_
  have he := enters hf hname hb (args ++ cap).toArray w
  have hrun : (execOp a.eval ⟨some d, .call { callee := .value t, args := xs.toArray, argTypes := ts }, ty, ps, af, none⟩).run P w = .ok (.enter f (args ++ cap).toArray) w := by
    unfold execOp
    simp only [resolve, ht, Deferred.ofValue, hargs, Sem.run_bind, Sem.run_pure, Result.andThen_ok, invoke]
    simpa using he
  unfold Oper.wp
  rw [hrun, Oper.upon_enter]
  refine hc.mono fun e w'' hh => ?_
  obtain ⟨u, rfl, hu⟩ := hh
  exact hK _ _ (h u w'' hu _ (ha.put hd u))
theorem Ls_callv0 {f : FuncId} {fn : Func} {t : Operand} {cap : List Value} {xs : List Operand} {ts : Array TypeId} {args : List Value} {Φ : Value → World → Prop}
    (hf : P.funcs[f]? = some fn) (hname : (fn.name == "runtime.NumGoroutine") = false) (hb : fn.body.isSome = true) (hv : ev E t = some (.func (.func f) #[] cap.toArray)) (hx : evs E xs = some args)
    (hc : Calls P f (args ++ cap).toArray w (Ret Φ)) (h : ∀ v w', Φ v w' → Ls P ops n D E w' rest Q) :
    Ls P ops n D E w (⟨none, .call { callee := .value t, args := xs.toArray, argTypes := ts }, ty, ps, af, none⟩ :: rest) Q := fun a ha => by
  have hargs : xs.toArray.map a.eval = args.toArray := by
    rw [List.map_toArray, ha.evals hx]
  have ht := ha.eval hv
  refine wpList_plain rfl fun K hK => ?_
  have he := enters hf hname hb (args ++ cap).toArray w
  have hrun : (execOp a.eval ⟨none, .call { callee := .value t, args := xs.toArray, argTypes := ts }, ty, ps, af, none⟩).run P w = .ok (.enter f (args ++ cap).toArray) w := by
    unfold execOp
    simp only [resolve, ht, Deferred.ofValue, hargs, Sem.run_bind, Sem.run_pure, Result.andThen_ok, invoke]
    simpa using he
  unfold Oper.wp
  rw [hrun, Oper.upon_enter]
  refine hc.mono fun e w'' hh => ?_
  obtain ⟨u, rfl, hu⟩ := hh
  exact hK _ _ (h u w'' hu _ (ha.putNone u))
end
/-- The first of many parts. -/
theorem Sat.pre {B w : World} {L1 L : List Assn} (hs : Sat B w (L1 ++ L)) : Sat B w L1 := by
  obtain ⟨hb, h, hL, hw⟩ := hs
  obtain ⟨h1, h2, h3, h4, hd, he⟩ := Stars.app hL
  exact ⟨hb, h1, h3, fun b o hbo => hw b o (by rw [he b, hbo]; rfl)⟩
/-- Some of the parts, whatever else there is: what a region in any order may read, if what it writes is not among them. -/
def Hold (B : World) (Ls : List Assn) (x : World) : Prop := ∃ R, Sat B x (Ls ++ R)
theorem Hold.of {B w : World} {Ls R : List Assn} (hs : Sat B w (Ls ++ R)) : Hold B Ls w := ⟨R, hs⟩
section
variable {P : Program} {ops : Array Oper} {n : Nat} {D : List Deferred} {E : Env} {B w : World} {Q : Exit → Act → World → Prop}
theorem St_hold {Ls : List Assn} (h : Hold B Ls w) {id : Nat} (hm : P.follows .mixedOrders = true) (k : ∀ w', Quiet w w' → An (Hold B Ls) P ops n D E w' ops.size (Array.replicate ops.size false) Q) : St P n D E w (.region id ops true) Q := St_draw (Hold B Ls) hm k
end
/-- Nothing, as a part. -/
theorem Sat.addNone {B w : World} {L : List Assn} {A : Assn} (hA : A (fun _ => Option.none)) (hs : Sat B w L) : Sat B w (A :: L) := by
  obtain ⟨hb, h, hL, hw⟩ := hs
  exact ⟨hb, h, ⟨fun _ => Option.none, h, hA, hL, fun _ => .inl rfl, fun b => by simp⟩, hw⟩
section
variable {P : Program} {n : Nat} {E : Env} {w : World} {fn : Func} {R : Ending → World → Prop}
theorem run_loadVar_agg {ty b off size bytes : Nat} {zv : Value} {cs : List Value} (ht : (∃ fs, P.underlying ty = some (.struct fs)) ∨ (∃ n e, P.underlying ty = some (.array n e))) (hi : Inf P ty zv size bytes) (hl : cs.length = size) (hc : ∀ j u, cs[j]? = some u → w.cell? ⟨b, off + j, none⟩ = some u) :
    (loadVar ty ⟨b, off, none⟩).run P w = .ok (.agg cs.toArray) w := by
  have h1 := isAgg_agg ht w
  have h2 := hi.sizeOf (P := P) w
  have h3 := run_loadCells_list (P := P) w ⟨b, off, none⟩ cs (fun j u hj => by rw [Addr.add_lit]; exact hc j u hj)
  subst hl
  simp [loadVar, h1, h2, h3]
/-- A result that stands in a cell of its own. -/
theorem Jm_retC {t : Tmp} {ty b off size bytes : Nat} {zv : Value} {cs : List Value} (hr : fn.results = #[.cell t ty]) (ht : (∃ fs, P.underlying ty = some (.struct fs)) ∨ (∃ n e, P.underlying ty = some (.array n e))) (hi : Inf P ty zv size bytes) (hv : look E t = some (.pointer (some ⟨b, off, none⟩)))
    (hl : cs.length = size) (hc : ∀ j u, cs[j]? = some u → w.cell? ⟨b, off + j, none⟩ = some u) (h : R (.returned (.agg cs.toArray)) w) : Jm n [] E w .ret (bodyPost P fn R) := fun a ha =>
  ⟨ha.defers, _, by have h1 : a.tmps[t]?.getD undef = .pointer (some ⟨b, off, none⟩) := (by have := ha.tmp hv; simpa using this); have h2 := run_loadVar_agg ht hi hl hc; simp [results, hr, h1, h2, asAddr], h⟩
theorem Jm_retCT {t u : Tmp} {ty b off size bytes : Nat} {zv x : Value} {cs : List Value} (hr : fn.results = #[.cell t ty, .tmp u]) (ht : (∃ fs, P.underlying ty = some (.struct fs)) ∨ (∃ n e, P.underlying ty = some (.array n e))) (hi : Inf P ty zv size bytes) (hv : look E t = some (.pointer (some ⟨b, off, none⟩))) (hx : look E u = some x)
    (hl : cs.length = size) (hc : ∀ j u, cs[j]? = some u → w.cell? ⟨b, off + j, none⟩ = some u) (h : R (.returned (.tuple #[.agg cs.toArray, x])) w) : Jm n [] E w .ret (bodyPost P fn R) := fun a ha =>
  ⟨ha.defers, _, by have h1 : a.tmps[t]?.getD undef = .pointer (some ⟨b, off, none⟩) := (by have := ha.tmp hv; simpa using this); have h3 : a.tmps[u]?.getD undef = x := (by have := ha.tmp hx; simpa using this); have h2 := run_loadVar_agg ht hi hl hc; simp [results, hr, h1, h2, h3, asAddr], h⟩
theorem Jm_retTC {t u : Tmp} {ty b off size bytes : Nat} {zv x : Value} {cs : List Value} (hr : fn.results = #[.tmp u, .cell t ty]) (ht : (∃ fs, P.underlying ty = some (.struct fs)) ∨ (∃ n e, P.underlying ty = some (.array n e))) (hi : Inf P ty zv size bytes) (hv : look E t = some (.pointer (some ⟨b, off, none⟩))) (hx : look E u = some x)
    (hl : cs.length = size) (hc : ∀ j u, cs[j]? = some u → w.cell? ⟨b, off + j, none⟩ = some u) (h : R (.returned (.tuple #[x, .agg cs.toArray])) w) : Jm n [] E w .ret (bodyPost P fn R) := fun a ha =>
  ⟨ha.defers, _, by have h1 : a.tmps[t]?.getD undef = .pointer (some ⟨b, off, none⟩) := (by have := ha.tmp hv; simpa using this); have h3 : a.tmps[u]?.getD undef = x := (by have := ha.tmp hx; simpa using this); have h2 := run_loadVar_agg ht hi hl hc; simp [results, hr, h1, h2, h3, asAddr], h⟩
end
/-- One cell of a block that is being written, and some parts. -/
def HoldAt (B : World) (b T i : Nat) (v : Value) (Ls : List Assn) (x : World) : Prop := ∃ cs R, cs[i]? = some v ∧ Sat B x (Blk b cs T :: (Ls ++ R))
theorem HoldAt.of {B w : World} {b T i : Nat} {v : Value} {Ls R : List Assn} {cs : List Value} (hc : cs[i]? = some v) (hs : Sat B w (Blk b cs T :: (Ls ++ R))) : HoldAt B b T i v Ls w := ⟨cs, R, hc, hs⟩
theorem HoldAt.cell {B x : World} {b T i : Nat} {v : Value} {Ls : List Assn} (h : HoldAt B b T i v Ls x) : x.cell? ⟨b, i, none⟩ = some v := by
  obtain ⟨cs, R, hc, hs⟩ := h
  exact hs.blk_at 0 rfl i hc
theorem HoldAt.hold {B x : World} {b T i : Nat} {v : Value} {Ls : List Assn} (h : HoldAt B b T i v Ls x) : ∃ R, Sat B x (Ls ++ R) := by
  obtain ⟨cs, R, _, hs⟩ := h
  exact ⟨R, hs.tail⟩
section
variable {P : Program} {ops : Array Oper} {n : Nat} {D : List Deferred} {E : Env} {w : World} {Q : Exit → Act → World → Prop} {H : World → Prop} {fuel : Nat} {listed : Array Bool}
theorem wpOp_of_Ls {i : Nat} {o : Oper} {K : Act → World → Prop} (hi : ops[i]? = some o) {a : Act} (ha : Good n D E a) (h : Ls P ops n D E w [o] (Exit.then K Q)) : wpOp P ops Q i K a w := by
  have h1 := h a ha
  unfold wpOp
  simp only [hi]
  unfold wpList at h1
  split
  · rename_i hw
    rw [if_pos hw] at h1
    rcases h1 with h1 | ⟨h1, a1, w1, h2⟩
    · exact .inl (upon_then h1)
    · exact .inr ⟨h1, a1, w1, h2⟩
  · rename_i hw
    rw [if_neg hw] at h1
    exact h1
/-- Two things are left to do next, in either order. -/
theorem An_two (i j : Nat) {o1 o2 : Oper} (hrd : Region.ready .any ops listed = [i, j]) (hi : ops[i]? = some o1) (hj : ops[j]? = some o2)
    (h1 : Ls P ops n D E w [o1] (Exit.then (fun a' w' => H w' ∧ wpH H P .any ops Q fuel (listed.setIfInBounds i true) a' w') Q))
    (h2 : Ls P ops n D E w [o2] (Exit.then (fun a' w' => H w' ∧ wpH H P .any ops Q fuel (listed.setIfInBounds j true) a' w') Q)) : An H P ops n D E w (fuel + 1) listed Q := fun a ha => by
  refine ⟨fun h0 => (by rw [hrd] at h0; cases h0), fun k hk => ?_⟩
  rw [hrd] at hk
  simp at hk
  rcases hk with rfl | rfl
  · exact wpOp_of_Ls hi ha h1
  · exact wpOp_of_Ls hj ha h2
theorem An_three (i j k : Nat) {o1 o2 o3 : Oper} (hrd : Region.ready .any ops listed = [i, j, k]) (hi : ops[i]? = some o1) (hj : ops[j]? = some o2) (hk3 : ops[k]? = some o3)
    (h1 : Ls P ops n D E w [o1] (Exit.then (fun a' w' => H w' ∧ wpH H P .any ops Q fuel (listed.setIfInBounds i true) a' w') Q))
    (h2 : Ls P ops n D E w [o2] (Exit.then (fun a' w' => H w' ∧ wpH H P .any ops Q fuel (listed.setIfInBounds j true) a' w') Q))
    (h3 : Ls P ops n D E w [o3] (Exit.then (fun a' w' => H w' ∧ wpH H P .any ops Q fuel (listed.setIfInBounds k true) a' w') Q)) : An H P ops n D E w (fuel + 1) listed Q := fun a ha => by
  refine ⟨fun h0 => (by rw [hrd] at h0; cases h0), fun q hq => ?_⟩
  rw [hrd] at hq
  simp at hq
  rcases hq with rfl | rfl | rfl
  · exact wpOp_of_Ls hi ha h1
  · exact wpOp_of_Ls hj ha h2
  · exact wpOp_of_Ls hk3 ha h3
end
section
variable {P : Program} {n : Nat} {D : List Deferred} {E : Env} {w : World} {Q : Exit → Act → World → Prop} {x : Exit}
/-- What a piece of code leaves, told once for all the ways through it. -/
theorem St_join {σ : Type} (En : σ → Env) (Inv : σ → World → Prop) {c : Code} (h1 : St P n D E w c (Exit.then (fun a' w' => ∃ s, Good n D (En s) a' ∧ Inv s w') Q)) (h2 : ∀ s w', Inv s w' → Jm n D (En s) w' .normal Q) : St P n D E w c Q := fun a ha => by
  refine wp_mono (h1 a ha) ?_
  intro e a' w' hq
  cases e with
  | normal =>
    obtain ⟨s, hg, hI⟩ := hq
    exact h2 s w' hI a' hg
  | exit id => exact hq
  | goto l => exact hq
  | ret => exact hq
  | panic ch => exact hq
  | outgrown => exact hq
theorem Jm_join {σ : Type} {En : σ → Env} {Inv : σ → World → Prop} (s : σ) (hE : SubE (En s) E) (hI : Inv s w) : Jm n D E w .normal (Exit.then (fun a' w' => ∃ s, Good n D (En s) a' ∧ Inv s w') Q) := fun a ha => ⟨s, ha.sub hE, hI⟩
theorem Jm_eqE {E' : Env} (he : E = E') (h : Jm n D E' w x Q) : Jm n D E w x Q := he ▸ h
end
theorem St_holdAt {P : Program} {ops : Array Oper} {n : Nat} {D : List Deferred} {E : Env} {B w : World} {Q : Exit → Act → World → Prop} {b T i : Nat} {v : Value} {Ls : List Assn} (j : Nat) (h : HoldAt B b T i v Ls w) {id : Nat} (hm : P.follows .mixedOrders = true)
    (k : ∀ w', Quiet w w' → AnC j (HoldAt B b T i v Ls) P ops n D E w' ops.size (Array.replicate ops.size false) Q) : St P n D E w (.region id ops true) Q := St_drawC j (HoldAt B b T i v Ls) hm k
theorem St_holdC {P : Program} {ops : Array Oper} {n : Nat} {D : List Deferred} {E : Env} {B w : World} {Q : Exit → Act → World → Prop} {Ls : List Assn} (j : Nat) (h : Hold B Ls w) {id : Nat} (hm : P.follows .mixedOrders = true)
    (k : ∀ w', Quiet w w' → AnC j (Hold B Ls) P ops n D E w' ops.size (Array.replicate ops.size false) Q) : St P n D E w (.region id ops true) Q := St_drawC j (Hold B Ls) hm k
theorem run_min {P : Program} {E : Env} {w : World} {x y : Operand} {k k' : IntKind} {a b : Int} {ts : Array TypeId} {ty : TypeId} (hx : ev E x = some (.int k a)) (hy : ev E y = some (.int k' b)) :
    RunO P E (.call { callee := .builtin .min, args := #[x, y], argTypes := ts }) ty w (.int k (if b < a then b else a)) w := fun n D a' dst ps af g ha => by
  simp [execOp, resolve, invoke, builtin, ha.eval hx, ha.eval hy, Builtin.min_, Builtin.min2]
end Go.Proofs.Ytipkfdeiallifaa.Lg
