/-
  Calls that may panic, deferred calls, recover; branches that are kept in the slots. Plain theorems over the kit's own rules; no program in sight.
-/
import Derived.Test.YtipkfdeiallifaaFv
import Derived.Defers
import Derived.Recover
import Derived.Laws.Build
set_option linter.unusedVariables false
set_option linter.unusedSimpArgs false
namespace Go.Proofs.Ytipkfdeiallifaa.Lg
open Go Go.RowKit
section
variable {P : Program} {ops : Array Oper} {n : Nat} {D : List Deferred} {E : Env} {B w : World} {Q : Exit → Act → World → Prop} {rest : List Oper} {ty : TypeId} {ps : String} {af : Array Edge} {d : Nat} {c1 c2 : Code} {x : Operand}
/-- A branch on a slot; behind it the slot is known. -/
theorem St_ifK {t : Tmp} {b : Bool} (hc : look E t = some (.bool b)) (h1 : b = true → St P n D ((t, .bool true) :: E) w c1 Q) (h2 : b = false → St P n D ((t, .bool false) :: E) w c2 Q) : St P n D E w (.cond (.tmp t) c1 c2) Q := by
  have up : ∀ c : Bool, b = c → SubE ((t, .bool c) :: E) E := by
    intro c hb
    subst hb
    exact fun i v hi => by
      by_cases e : t = i
      · subst e; rw [look_eq rfl] at hi; cases hi; exact hc
      · rw [look_ne e] at hi; exact hi
  exact St_if hc (fun hb => St_sub (up true hb) (h1 hb)) (fun hb => St_sub (up false hb) (h2 hb))
theorem St_ifPK {t : Tmp} {p : Prop} [Decidable p] (hc : look E t = some (.bool (decide p))) (h1 : p → St P n D ((t, .bool true) :: E) w c1 Q) (h2 : ¬ p → St P n D ((t, .bool false) :: E) w c2 Q) : St P n D E w (.cond (.tmp t) c1 c2) Q :=
  St_ifK hc (fun hb => h1 (of_decide_eq_true hb)) (fun hb => h2 (of_decide_eq_false hb))
theorem St_ifNK {t : Tmp} {p : Prop} [Decidable p] (hc : look E t = some (.bool (!decide p))) (h1 : ¬ p → St P n D ((t, .bool true) :: E) w c1 Q) (h2 : p → St P n D ((t, .bool false) :: E) w c2 Q) : St P n D E w (.cond (.tmp t) c1 c2) Q :=
  St_ifK hc (fun hb => h1 (by simpa using hb)) (fun hb => h2 (by simpa using hb))

/-- What comes back is a value, or a panic. -/
def RetP (Φ : Value → World → Prop) (Ψ : List PanicEntry → World → Prop) : Ending → World → Prop := fun e w => (∃ v, e = .returned v ∧ Φ v w) ∨ (∃ ch, e = .panicked ch ∧ Ψ ch w)
theorem RetP.of {f : FuncId} {args : Array Value} {Φ : Value → World → Prop} (Ψ : List PanicEntry → World → Prop) (h : Calls P f args w (Ret Φ)) : Calls P f args w (RetP Φ Ψ) := h.mono fun e w' h => .inl h

theorem Ls_callP {f : FuncId} {fn : Func} {xs : List Operand} {ts : Array TypeId} {args : List Value} {Φ : Value → World → Prop} {Ψ : List PanicEntry → World → Prop}
    (hf : P.funcs[f]? = some fn) (hname : (fn.name == "runtime.NumGoroutine") = false) (hb : fn.body.isSome = true) (hx : evs E xs = some args)
    (hc : Calls P f args.toArray w (RetP Φ Ψ)) (hd : Nat.blt d n = true) (h : ∀ v w', Φ v w' → Ls P ops n D ((d, v) :: E) w' rest Q) (hp : ∀ ch w', Ψ ch w' → Jm n D E w' (.panic ch) Q) :
    Ls P ops n D E w (⟨some d, .call { callee := .value (.func f), args := xs.toArray, argTypes := ts }, ty, ps, af, none⟩ :: rest) Q := fun a ha => by
  have hargs : xs.toArray.map a.eval = args.toArray := by
    rw [List.map_toArray, ha.evals hx]
  refine wpList_plain rfl fun K hK => ?_
  have he := enters hf hname hb args.toArray w
  have hrun : (execOp a.eval ⟨some d, .call { callee := .value (.func f), args := xs.toArray, argTypes := ts }, ty, ps, af, none⟩).run P w = .ok (.enter f args.toArray) w := by
    unfold execOp
    simp only [resolve, Act.eval, Deferred.ofValue, hargs, Sem.run_bind, Sem.run_pure, Result.andThen_ok, invoke]
    simpa using he
  unfold Oper.wp
  rw [hrun, Oper.upon_enter]
  refine hc.mono fun e w'' hh => ?_
  rcases hh with ⟨u, rfl, hu⟩ | ⟨ch, rfl, hu⟩
  · exact hK _ _ (h u w'' hu _ (ha.put hd u))
  · exact hp ch w'' hu a ha
theorem Ls_callP0 {f : FuncId} {fn : Func} {xs : List Operand} {ts : Array TypeId} {args : List Value} {Φ : Value → World → Prop} {Ψ : List PanicEntry → World → Prop}
    (hf : P.funcs[f]? = some fn) (hname : (fn.name == "runtime.NumGoroutine") = false) (hb : fn.body.isSome = true) (hx : evs E xs = some args)
    (hc : Calls P f args.toArray w (RetP Φ Ψ)) (h : ∀ v w', Φ v w' → Ls P ops n D E w' rest Q) (hp : ∀ ch w', Ψ ch w' → Jm n D E w' (.panic ch) Q) :
    Ls P ops n D E w (⟨none, .call { callee := .value (.func f), args := xs.toArray, argTypes := ts }, ty, ps, af, none⟩ :: rest) Q := fun a ha => by
  have hargs : xs.toArray.map a.eval = args.toArray := by
    rw [List.map_toArray, ha.evals hx]
  refine wpList_plain rfl fun K hK => ?_
  have he := enters hf hname hb args.toArray w
  have hrun : (execOp a.eval ⟨none, .call { callee := .value (.func f), args := xs.toArray, argTypes := ts }, ty, ps, af, none⟩).run P w = .ok (.enter f args.toArray) w := by
    unfold execOp
    simp only [resolve, Act.eval, Deferred.ofValue, hargs, Sem.run_bind, Sem.run_pure, Result.andThen_ok, invoke]
    simpa using he
  unfold Oper.wp
  rw [hrun, Oper.upon_enter]
  refine hc.mono fun e w'' hh => ?_
  rcases hh with ⟨u, rfl, hu⟩ | ⟨ch, rfl, hu⟩
  · exact hK _ _ (h u w'' hu _ (ha.putNone u))
  · exact hp ch w'' hu a ha

theorem Jm_then_panic {K : Act → World → Prop} {ch : List PanicEntry} (h : Jm n D E w (.panic ch) Q) : Jm n D E w (.panic ch) (Exit.then K Q) := h
theorem Jm_block_panic {id : Nat} {ch : List PanicEntry} (h : Jm n D E w (.panic ch) Q) : Jm n D E w (.panic ch) (Exit.inBlock id Q) := h
theorem Jm_panic_end {fn : Func} {R : Ending → World → Prop} {ch : List PanicEntry} (h : R (.panicked ch) w) : Jm n [] E w (.panic ch) (bodyPost P fn R) := fun a ha => ⟨ha.defers, h⟩

theorem run_iface {t : TypeId} {v : Value} (hc : P.concrete t = true) (hx : ev E x = some v) : RunO P E (.makeInterface t x) ty w (.iface t v) w := fun n D a dst ps af g ha => by
  simp [execOp, ha.eval hx, run_makeInterface w t v hc]
theorem run_assert {t u : TypeId} {v : Value} (hc : P.concrete t = true) (hx : ev E x = some (.iface t v)) : RunO P E (.typeAssert x u t true) ty w (.tuple #[v, .bool true]) w := fun n D a dst ps af g ha => by
  unfold Program.concrete at hc
  cases hd : P.underlying t with
  | none => simp [hd] at hc
  | some dd => cases dd <;> first | (simp [hd] at hc; done) | simp [execOp, ha.eval hx, Instr.typeAssert, run_underlying hd]
theorem run_assert_nil {t u : TypeId} {z : Value} {size bytes : Nat} (hc : P.concrete t = true) (hi : Inf P t z size bytes) (hx : ev E x = some .nilIface) : RunO P E (.typeAssert x u t true) ty w (.tuple #[z, .bool false]) w := fun n D a dst ps af g ha => by
  unfold Program.concrete at hc
  obtain ⟨i, hi1, hi2, _⟩ := hi
  have hz : (zeroValue t).run P w = .ok z w := by simp [zeroValue, typeInfo, hi1, hi2]
  cases hd : P.underlying t with
  | none => simp [hd] at hc
  | some dd => cases dd <;> first | (simp [hd] at hc; done) | simp [execOp, ha.eval hx, Instr.typeAssert, run_underlying hd, hz]
theorem run_equalIn_iface (d : Nat) {t : TypeId} {u : Nat} {v : Value} {ms : Array (String × TypeId)} (hm : P.underlying t = some (.interface ms)) : (Op.equalIn (d + 1) t (.iface u v) .nilIface).run P w = .ok false w := by
  simp [Op.equalIn, run_underlying hm]
theorem run_equalIn_nil (d : Nat) {t : TypeId} {ms : Array (String × TypeId)} (hm : P.underlying t = some (.interface ms)) : (Op.equalIn (d + 1) t .nilIface .nilIface).run P w = .ok true w := by
  simp [Op.equalIn, run_underlying hm]
theorem run_neq_iface_nil {t t' : TypeId} {u : Nat} {v : Value} (hc : ∃ ms, P.underlying t = some (.interface ms)) (hx : ev E x = some (.iface u v)) : RunO P E (.binOp .neq t x (.const .nilIface) t') ty w (.bool true) w := fun n D a dst ps af g ha => by
  obtain ⟨ms, hm⟩ := hc
  have h : (Op.equal t (.iface u v) .nilIface).run P w = .ok false w := run_equalIn_iface 9999 hm
  have hy : a.eval (.const .nilIface) = .nilIface := rfl
  simp only [execOp, ha.eval hx, hy, eqGuard, binOp, Sem.run_bind, Sem.run_pure, Result.andThen_ok, Bool.or_true, Bool.not_true, Bool.false_eq_true, if_true, if_false, h]
  all_goals rfl
theorem run_neq_nil_nil {t t' : TypeId} (hc : ∃ ms, P.underlying t = some (.interface ms)) (hx : ev E x = some .nilIface) : RunO P E (.binOp .neq t x (.const .nilIface) t') ty w (.bool false) w := fun n D a dst ps af g ha => by
  obtain ⟨ms, hm⟩ := hc
  have h : (Op.equal t .nilIface .nilIface).run P w = .ok true w := run_equalIn_nil 9999 hm
  have hy : a.eval (.const .nilIface) = .nilIface := rfl
  simp only [execOp, ha.eval hx, hy, eqGuard, binOp, Sem.run_bind, Sem.run_pure, Result.andThen_ok, Bool.or_true, Bool.not_true, Bool.false_eq_true, if_true, if_false, h]
  all_goals rfl
theorem run_func {f : FuncId} {xs : List Operand} {cap : List Value} (hx : evs E xs = some cap) : RunO P E (.makeFunc (.func f) #[] xs.toArray) ty w (.func (.func f) #[] cap.toArray) w := fun n D a dst ps af g ha => by
  have hargs : xs.toArray.map a.eval = cap.toArray := by rw [List.map_toArray, ha.evals hx]
  simp only [execOp, hargs, Instr.makeFunc, Sem.run_bind, Sem.run_pure, Result.andThen_ok]
  simp
theorem Ls_panic {o : Option Tmp} {t : TypeId} {v : Value} (hx : ev E x = some (.iface t v)) (h : Jm n D E w (.panic [{ v := .iface t v, recovered := false }]) Q) : Ls P ops n D E w (⟨o, .panic x, ty, ps, af, none⟩ :: rest) Q := fun a ha => by
  refine wpList_plain rfl fun K hK => ?_
  have hrun : (execOp a.eval ⟨o, .panic x, ty, ps, af, none⟩).run P w = .halt (.panic (.iface t v)) w := by
    simp [execOp, ha.eval hx, Instr.panic]
  unfold Oper.wp
  rw [hrun, Oper.upon_panic]
  exact h a ha
theorem Ls_defer {t : Operand} {f : FuncId} {cap : List Value} (hv : ev E t = some (.func (.func f) #[] cap.toArray)) (h : Ls P ops n (⟨.fn (.func f) cap.toArray, #[]⟩ :: D) E w rest Q) :
    Ls P ops n D E w (⟨none, .defer { callee := .value t, args := #[], argTypes := #[] }, ty, ps, af, none⟩ :: rest) Q := fun a ha => by
  have ht := ha.eval hv
  refine wpList_plain rfl fun K hK => ?_
  have hrun : (execOp a.eval ⟨none, .defer { callee := .value t, args := #[], argTypes := #[] }, ty, ps, af, none⟩).run P w = .ok (.defer ⟨.fn (.func f) cap.toArray, #[]⟩) w := by
    unfold execOp
    simp [resolve, ht, Deferred.ofValue]
  unfold Oper.wp
  rw [hrun, Oper.upon_defer]
  refine hK _ _ (h _ ⟨ha.size, ?_, ha.rep⟩)
  simp [Act.put, ha.defers]

/-! ### A body with a deferred call -/
theorem Calls_bodyD {fn : Func} {f : FuncId} {c : Code} {args : List Value} {R : Ending → World → Prop} (hf : P.funcs[f]? = some fn) (hb : fn.body = some c) (hn : fn.ntmps = n)
    (hl : Nat.ble args.length n = true) (hE : ∀ i v, look E i = some v → args[i]? = some v)
    (h : St P n [] E w c (bodyPostD P fn R)) : Calls P f args.toArray w R := by
  refine calls_of_wp_defers hf hb (h _ ⟨?_, rfl, ?_⟩)
  · have := Nat.le_of_ble_eq_true hl
    simp; omega
  · intro i v hi
    have h1 := hE i v hi
    have h2 : i < args.length := (List.getElem?_eq_some_iff.1 h1).1
    simp only [Array.getElem?_append, List.size_toArray, h2, if_true]
    simpa using h1
/-- What is left at the end is a deferred closure that takes a panic away. -/
theorem leave_one {fn dfn : Func} {R : Ending → World → Prop} {k : FuncId} {cap : List Value} {u : FrameMode} {Φ : World → Prop} {tmps : Array Value} (hu : u ≠ .run)
    (hf : P.funcs[k]? = some dfn) (hname : (dfn.name == "runtime.NumGoroutine") = false) (hb : dfn.body.isSome = true)
    (hc : CallsD P k cap.toArray u w (fun e' u' w' => e' = .returned (.tuple #[]) ∧ settle u' = .returning ∧ Φ w'))
    (h : ∀ w', Φ w' → ∃ v, (results fn tmps).run P w' = .ok v w' ∧ R (.returned v) w') : Leaves P fn tmps R [⟨.fn (.func k) cap.toArray, #[]⟩] u w := by
  have he := enters hf hname hb cap.toArray w
  refine leaves_cons (f := k) (args := cap.toArray) hu ?_ (hc.mono ?_)
  · simp only [invoke]
    simpa using he
  · rintro e' u' w' ⟨rfl, hs, hw⟩
    simp only [hs]
    exact h w' hw
theorem Jm_leave {fn dfn : Func} {R : Ending → World → Prop} {k : FuncId} {cap : List Value} {Φ : World → Prop}
    (hf : P.funcs[k]? = some dfn) (hname : (dfn.name == "runtime.NumGoroutine") = false) (hb : dfn.body.isSome = true)
    (hc : CallsD P k cap.toArray .returning w (fun e' u' w' => e' = .returned (.tuple #[]) ∧ settle u' = .returning ∧ Φ w'))
    (h : ∀ w', Φ w' → ∀ a, Good n [⟨.fn (.func k) cap.toArray, #[]⟩] E a → ∃ v, (results fn a.tmps).run P w' = .ok v w' ∧ R (.returned v) w') :
    Jm n [⟨.fn (.func k) cap.toArray, #[]⟩] E w .ret (bodyPostD P fn R) := fun a ha => by
  show Leaves P fn a.tmps R a.defers .returning w
  rw [ha.defers]
  exact leave_one (by simp) hf hname hb hc (fun w' hw => h w' hw a ha)
theorem Jm_leaveP {fn dfn : Func} {R : Ending → World → Prop} {k : FuncId} {cap : List Value} {Φ : World → Prop} {ch : List PanicEntry}
    (hf : P.funcs[k]? = some dfn) (hname : (dfn.name == "runtime.NumGoroutine") = false) (hb : dfn.body.isSome = true)
    (hc : CallsD P k cap.toArray (.panicking ch) w (fun e' u' w' => e' = .returned (.tuple #[]) ∧ settle u' = .returning ∧ Φ w'))
    (h : ∀ w', Φ w' → ∀ a, Good n [⟨.fn (.func k) cap.toArray, #[]⟩] E a → ∃ v, (results fn a.tmps).run P w' = .ok v w' ∧ R (.returned v) w') :
    Jm n [⟨.fn (.func k) cap.toArray, #[]⟩] E w (.panic ch) (bodyPostD P fn R) := fun a ha => by
  show Leaves P fn a.tmps R a.defers (.panicking ch) w
  rw [ha.defers]
  exact leave_one (by simp) hf hname hb hc (fun w' hw => h w' hw a ha)
/-- Returns ahead of the deferred call. -/
theorem Jm_retD1c {fn : Func} {R : Ending → World → Prop} {t : Tmp} {tt : TypeId} {b : Nat} {v : Value} (hr : fn.results = #[.cell t tt]) (hs : Scalar P tt) (hv : look E t = some (.pointer (some ⟨b, 0, none⟩))) (hc : w.cell? ⟨b, 0, none⟩ = some v) (h : R (.returned v) w) : Jm n [] E w .ret (bodyPostD P fn R) := fun a ha => by
  have h2 := hs.isAgg (P := P) w
  have h1 : a.tmps[t]?.getD undef = .pointer (some ⟨b, 0, none⟩) := by have := ha.tmp hv; simpa using this
  show Leaves P fn a.tmps R a.defers .returning w
  rw [ha.defers]
  exact ⟨v, by simp [results, hr, h1, asAddr, loadVar, h2, hc], h⟩

/-- Two results in cells: an aggregate and a scalar. -/
theorem res_CC {fn : Func} {t u : Tmp} {ty ty2 b c size bytes : Nat} {zv y : Value} {cs : List Value} (hr : fn.results = #[.cell t ty, .cell u ty2]) (ht : (∃ fs, P.underlying ty = some (.struct fs)) ∨ (∃ n e, P.underlying ty = some (.array n e))) (hi : Inf P ty zv size bytes) (h2 : Scalar P ty2)
    (hl : cs.length = size) (hc : ∀ j u, cs[j]? = some u → w.cell? ⟨b, 0 + j, none⟩ = some u) (hy : w.cell? ⟨c, 0, none⟩ = some y) {a : Act} (ha : Good n D E a) (hv : look E t = some (.pointer (some ⟨b, 0, none⟩))) (hx : look E u = some (.pointer (some ⟨c, 0, none⟩))) : (results fn a.tmps).run P w = .ok (.tuple #[.agg cs.toArray, y]) w := by
  have h1 : a.tmps[t]?.getD undef = .pointer (some ⟨b, 0, none⟩) := by have := ha.tmp hv; simpa using this
  have h3 : a.tmps[u]?.getD undef = .pointer (some ⟨c, 0, none⟩) := by have := ha.tmp hx; simpa using this
  have h4 := run_loadVar_agg ht hi hl hc
  have h5 : (loadVar ty2 ⟨c, 0, none⟩).run P w = .ok y w := by have h6 := h2.isAgg (P := P) w; simp [loadVar, h6, hy]
  simp [results, hr, h1, h3, h4, h5, asAddr]
/-! ### The deferred closure itself -/
def recD : FrameMode → Value × FrameMode
  | .panicking ({ v, recovered := false, goexit := false } :: older) => (v, .panicking ({ v, recovered := true } :: older))
  | m => (.nilIface, m)
theorem wpS_recover {id : Nat} {l : List Oper} {a : Act} {c0 : Frame} {cs : List Frame} {v : Value} {u' : FrameMode} {Q : Exit → Act → List Frame → World → Prop} {Q' : Exit → Act → World → Prop}
    (hr : recD c0.mode = (v, u')) (hQ : ∀ e a w, Q' e a w → Q e a ({ c0 with mode := u' } :: cs) w)
    (h : wpList P (⟨some d, .call { callee := .builtin .recover, args := #[], argTypes := #[] }, ty, ps, af, none⟩ :: l).toArray Q' l (a.put (some d) v) w) :
    (Code.region id (⟨some d, .call { callee := .builtin .recover, args := #[], argTypes := #[] }, ty, ps, af, none⟩ :: l).toArray false).wpS P Q a (c0 :: cs) w := by
  intro b k hb hro
  obtain ⟨ops, hops⟩ : ∃ ops, ops = (⟨some d, .call { callee := .builtin .recover, args := #[], argTypes := #[] }, ty, ps, af, none⟩ :: l).toArray := ⟨_, rfl⟩
  have ho : ops[0]? = some ⟨some d, .call { callee := .builtin .recover, args := #[], argTypes := #[] }, ty, ps, af, none⟩ := by rw [hops]; simp
  have hw : Region.wanted (⟨some d, .call { callee := .builtin .recover, args := #[], argTypes := #[] }, ty, ps, af, none⟩ : Oper) (yielded ops a.tmps) = true := rfl
  have hsz : List.range ops.size = 0 :: List.range' 1 l.length := by rw [hops, List.range_eq_range']; simp [List.range'_succ]
  rw [← hops] at h ⊢
  have hl : wpOps P ops Q' (List.range' 1 l.length) (a.put (some d) v) w := by
    rw [wpOps_eq_wpList l 1 (fun j => by rw [hops]; simp [Nat.add_comm 1 j])]; exact h
  obtain ⟨e, a', w', hq, harr⟩ := wp_ops (List.range' 1 l.length) _ w hl b k ({ c0 with mode := u' } :: cs)
  refine ⟨e, a', _, w', hQ _ _ _ hq, .of_steps (.one step_region) ?_⟩
  rw [hsz]
  have hg := stepG_op (P := P) (b := b) (k := k) (cs := c0 :: cs) (w := w) (rest := List.range' 1 l.length) ho hw
  have hfin : (b.at a (.inRegion ops (0 :: List.range' 1 l.length) :: k)).finish v = b.at (a.put (some d) v) (.inRegion ops (List.range' 1 l.length) :: k) := by rw [Frame.finish_at, ho]; rfl
  have hfinN : (b.at a (.inRegion ops (0 :: List.range' 1 l.length) :: k)).finish .nilIface = b.at (a.put (some d) .nilIface) (.inRegion ops (List.range' 1 l.length) :: k) := by rw [Frame.finish_at, ho]; rfl
  have hrun : (execOp a.eval (⟨some d, .call { callee := .builtin .recover, args := #[], argTypes := #[] }, ty, ps, af, none⟩ : Oper)).run P w = .ok .recover w := by
    simp [execOp, resolve, invoke, builtin]
  have hk : (b.at a (.inRegion ops (0 :: List.range' 1 l.length) :: k)).kind = .deferred := hb
  have htr := tryRecover_deferred hk (c0 :: cs)
  have hrec : (∃ cs', recoverD (c0 :: cs) = some (v, cs') ∧ cs' = { c0 with mode := u' } :: cs) ∨ (recoverD (c0 :: cs) = none ∧ v = .nilIface ∧ u' = c0.mode) := by
    simp only [recoverD]
    cases hm : c0.mode with
    | run => rw [hm] at hr; cases hr; exact .inr ⟨rfl, rfl, rfl⟩
    | returning => rw [hm] at hr; cases hr; exact .inr ⟨rfl, rfl, rfl⟩
    | panicking ch =>
      rw [hm] at hr
      cases ch with
      | nil => cases hr; exact .inr ⟨rfl, rfl, rfl⟩
      | cons pe older =>
        obtain ⟨pv, pr, pg⟩ := pe
        cases pr <;> cases pg <;> cases hr
        · exact .inl ⟨_, rfl, rfl⟩
        all_goals exact .inr ⟨rfl, rfl, rfl⟩
  rcases hrec with ⟨cs', hrec, rfl⟩ | ⟨hrec, rfl, rfl⟩
  · refine .of_steps (.one (step_lone_go ?_)) harr
    rw [hg, ← hfin]
    simp only [Frame.at] at htr ⊢
    simp [stepG.apply, hrun, htr, hrec]
  · refine .of_steps (.one (step_lone_go ?_)) harr
    rw [hg, ← hfin]
    simp only [Frame.at] at htr ⊢
    simp [stepG.apply, hrun, htr, hrec]
theorem CallsD_rec {fn : Func} {f : FuncId} {c2 : Code} {id : Nat} {l : List Oper} {args : List Value} {u u' : FrameMode} {v : Value} {R : Ending → World → Prop} (hf : P.funcs[f]? = some fn)
    (hb : fn.body = some (.seq (.region id (⟨some d, .call { callee := .builtin .recover, args := #[], argTypes := #[] }, ty, ps, af, none⟩ :: l).toArray false) c2)) (hn : fn.ntmps = n) (hl : Nat.ble args.length n = true) (hE : ∀ i v, look E i = some v → args[i]? = some v) (hd : Nat.blt d n = true)
    (hu : recD u = (v, u'))
    (h : Ls P (⟨some d, .call { callee := .builtin .recover, args := #[], argTypes := #[] }, ty, ps, af, none⟩ :: l).toArray n [] ((d, v) :: E) w l (Exit.then (fun a w => c2.wp P (bodyPost P fn R) a w) (bodyPost P fn R))) :
    CallsD P f args.toArray u w (fun e u'' w' => u'' = u' ∧ R e w') := by
  refine callsD_of_wpS hf hb fun c0 cs hm => ?_
  have hg : Good n [] E { tmps := args.toArray ++ Array.replicate (fn.ntmps - args.toArray.size) undef, defers := [] } := by
    refine ⟨?_, rfl, ?_⟩
    · have := Nat.le_of_ble_eq_true hl
      simp; omega
    · intro i v hi
      have h1 := hE i v hi
      have h2 : i < args.length := (List.getElem?_eq_some_iff.1 h1).1
      simp only [Array.getElem?_append, List.size_toArray, h2, if_true]
      simpa using h1
  have lift : ∀ e a w, bodyPost P fn R e a w → bodyPostS P fn c0 cs (fun e u'' w' => u'' = u' ∧ R e w') e a ({ c0 with mode := u' } :: cs) w := by
    intro e a w hq
    cases e with
    | normal => obtain ⟨hd, v, hr, hR⟩ := hq; exact ⟨hd, u', rfl, v, hr, rfl, hR⟩
    | ret => obtain ⟨hd, v, hr, hR⟩ := hq; exact ⟨hd, u', rfl, v, hr, rfl, hR⟩
    | panic ch => obtain ⟨hd, hR⟩ := hq; exact ⟨hd, u', rfl, rfl, hR⟩
    | exit id => exact hq
    | goto l => exact hq
    | outgrown => exact ⟨u', rfl, hq⟩
  refine wpS_seq (wpS_recover (u' := u') (by rw [hm]; exact hu) ?_ (h _ (hg.put hd v)))
  intro e a w hq
  cases e with
  | normal => exact wpS_of_wp (wp_mono hq lift)
  | exit id => exact hq
  | goto l => exact hq
  | ret => exact lift .ret a w hq
  | panic ch => exact lift (.panic ch) a w hq
  | outgrown => exact lift .outgrown a w hq
end
end Go.Proofs.Ytipkfdeiallifaa.Lg
