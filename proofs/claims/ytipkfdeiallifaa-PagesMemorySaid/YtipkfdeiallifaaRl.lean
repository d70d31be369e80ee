/-
  One rule an operation: what it yields, out of what is known of the slots and of memory. Plain theorems over the kit's own laws; no program in sight.
-/
import Derived.Test.YtipkfdeiallifaaHp
set_option linter.unusedVariables false
set_option linter.unusedSimpArgs false
namespace Go.Proofs.Ytipkfdeiallifaa.Lg
open Go Go.RowKit

/-- The operation yields v; the world is w' then. -/
def RunO (P : Program) (E : Env) (op : Op) (ty : TypeId) (w : World) (v : Value) (w' : World) : Prop :=
  ∀ n D a dst ps af g, Good n D E a → (execOp a.eval ⟨dst, op, ty, ps, af, g⟩).run P w = .ok (.value v) w'
/-- The operation yields nothing. -/
def RunS (P : Program) (E : Env) (op : Op) (ty : TypeId) (w : World) (w' : World) : Prop :=
  ∀ n D a dst ps af g, Good n D E a → (execOp a.eval ⟨dst, op, ty, ps, af, g⟩).run P w = .ok .skip w'

section
variable {P : Program} {ops : Array Oper} {n : Nat} {D : List Deferred} {E : Env} {w w' : World} {Q : Exit → Act → World → Prop} {rest : List Oper} {ty : TypeId} {ps : String} {af : Array Edge} {op : Op} {d : Nat} {v : Value}

theorem wpList_val {o : Oper} {a : Act} (hg : o.guard = none) (hr : (execOp a.eval o).run P w = .ok (.value v) w') (h : wpList P ops Q rest (a.put o.dst v) w') : wpList P ops Q (o :: rest) a w := by
  refine wpList_plain hg fun K hK => ?_
  unfold Oper.wp
  rw [hr]
  exact hK _ _ h
theorem Ls_run (hr : RunO P E op ty w v w') (hd : Nat.blt d n = true) (h : Ls P ops n D ((d, v) :: E) w' rest Q) : Ls P ops n D E w (⟨some d, op, ty, ps, af, none⟩ :: rest) Q := fun a ha =>
  wpList_val rfl (hr n D a _ _ _ _ ha) (h _ (ha.put hd v))
theorem Ls_run0 (hr : RunO P E op ty w v w') (h : Ls P ops n D E w' rest Q) : Ls P ops n D E w (⟨none, op, ty, ps, af, none⟩ :: rest) Q := fun a ha =>
  wpList_val rfl (hr n D a _ _ _ _ ha) (h _ (ha.putNone v))
theorem Ls_skip0 (hr : RunS P E op ty w w') (h : Ls P ops n D E w' rest Q) : Ls P ops n D E w (⟨none, op, ty, ps, af, none⟩ :: rest) Q := fun a ha => by
  refine wpList_plain rfl fun K hK => ?_
  unfold Oper.wp
  rw [hr n D a _ _ _ _ ha]
  exact hK _ _ (h _ (ha.putNone undef))

/-! Guards -/
theorem Ls_on {dst : Option Tmp} {j : Nat} {want : Bool} {t : Tmp} (hj : (ops[j]?).bind (·.dst) = some t) (hv : look E t = some (.bool want))
    (h : Ls P ops n D E w (⟨dst, op, ty, ps, af, none⟩ :: rest) Q) : Ls P ops n D E w (⟨dst, op, ty, ps, af, some (j, want)⟩ :: rest) Q := fun a ha => by
  have hw : Region.wanted (⟨dst, op, ty, ps, af, some (j, want)⟩ : Oper) (yielded ops a.tmps) = true := by
    simp [Region.wanted, yielded, hj, ha.rep t _ hv]
  have h1 := h a ha
  unfold wpList at h1 ⊢
  rw [if_pos hw]
  rw [if_pos (by simp [Region.wanted])] at h1
  exact h1
theorem Ls_off {j : Nat} {want b : Bool} {t : Tmp} (hj : (ops[j]?).bind (·.dst) = some t) (hv : look E t = some (.bool b)) (hb : (b == want) = false) (hd : Nat.blt d n = true)
    (h : Ls P ops n D ((d, undef) :: E) w rest Q) : Ls P ops n D E w (⟨some d, op, ty, ps, af, some (j, want)⟩ :: rest) Q := fun a ha => by
  have hw : Region.wanted (⟨some d, op, ty, ps, af, some (j, want)⟩ : Oper) (yielded ops a.tmps) = false := by
    simp [Region.wanted, yielded, hj, ha.rep t _ hv]
    simpa using hb
  exact wpList_skip hw (h _ (ha.put hd undef))
/-- Skipped again: the guard's own operation was skipped. -/
theorem Ls_off' {j : Nat} {want : Bool} {t : Tmp} (hj : (ops[j]?).bind (·.dst) = some t) (hv : look E t = some undef) (hd : Nat.blt d n = true)
    (h : Ls P ops n D ((d, undef) :: E) w rest Q) : Ls P ops n D E w (⟨some d, op, ty, ps, af, some (j, want)⟩ :: rest) Q := fun a ha => by
  have hw : Region.wanted (⟨some d, op, ty, ps, af, some (j, want)⟩ : Oper) (yielded ops a.tmps) = false := by
    simp [Region.wanted, yielded, hj, ha.rep t _ hv, undef]
  exact wpList_skip hw (h _ (ha.put hd undef))
/-- The truth of a slot, parted. -/
theorem Ls_part {l : List Oper} {t : Tmp} {b : Bool} (hv : look E t = some (.bool b)) (h1 : b = true → Ls P ops n D ((t, .bool true) :: E) w l Q) (h2 : b = false → Ls P ops n D ((t, .bool false) :: E) w l Q) : Ls P ops n D E w l Q := fun a ha => by
  have up : ∀ c : Bool, b = c → Good n D ((t, .bool c) :: E) a := by
    intro c hc
    subst hc
    refine ⟨ha.size, ha.defers, fun i u hi => ?_⟩
    by_cases e : t = i
    · subst e; rw [look_eq rfl] at hi; cases hi; exact ha.rep t _ hv
    · rw [look_ne e] at hi; exact ha.rep i u hi
  cases hb : b with
  | true => exact h1 hb a (up true hb)
  | false => exact h2 hb a (up false hb)

/-! Calls -/
theorem enters {f : FuncId} {fn : Func} (hf : P.funcs[f]? = some fn) (hname : (fn.name == "runtime.NumGoroutine") = false) (hb : fn.body.isSome = true) (args : Array Value) (w : World) :
    (callFunc f args).run P w = .ok (.enter f args) w := by
  have h1 : ¬ fn.name = "runtime.NumGoroutine" := fun h => by rw [h] at hname; simp at hname
  have h2 : ¬ fn.body = none := fun h => by rw [h] at hb; simp at hb
  simp only [callFunc, Sem.run_bind, run_program, Result.andThen_ok, hf]
  rw [if_neg (by simpa using h1), if_neg (by simpa using h2)]
  rfl
theorem Ls_call {f : FuncId} {fn : Func} {xs : List Operand} {ts : Array TypeId} {args : List Value} {Φ : Value → World → Prop}
    (hf : P.funcs[f]? = some fn) (hname : (fn.name == "runtime.NumGoroutine") = false) (hb : fn.body.isSome = true) (hx : evs E xs = some args)
    (hc : Calls P f args.toArray w (Ret Φ)) (hd : Nat.blt d n = true) (h : ∀ v w', Φ v w' → Ls P ops n D ((d, v) :: E) w' rest Q) :
    Ls P ops n D E w (⟨some d, .call { callee := .value (.func f), args := xs.toArray, argTypes := ts }, ty, ps, af, none⟩ :: rest) Q := fun a ha => by
  have hargs : xs.toArray.map a.eval = args.toArray := by
    rw [List.map_toArray, ha.evals hx]
  refine wpList_plain rfl fun K hK => ?_
  have he := enters hf hname hb args.toArray w
  have hrun : (execOp a.eval ⟨some d, .call { callee := .value (.func f), args := xs.toArray, argTypes := ts }, ty, ps, af, none⟩).run P w = .ok (.enter f args.toArray) w := by
    unfold execOp
    simp only [resolve, Deferred.ofValue, Act.eval, hargs, Sem.run_bind, Sem.run_pure, Result.andThen_ok, invoke]
    simpa using he
  unfold Oper.wp
  rw [hrun, Oper.upon_enter]
  refine hc.mono fun e w'' hh => ?_
  obtain ⟨u, rfl, hu⟩ := hh
  exact hK _ _ (h u w'' hu _ (ha.put hd u))
theorem Ls_call0 {f : FuncId} {fn : Func} {xs : List Operand} {ts : Array TypeId} {args : List Value} {Φ : Value → World → Prop}
    (hf : P.funcs[f]? = some fn) (hname : (fn.name == "runtime.NumGoroutine") = false) (hb : fn.body.isSome = true) (hx : evs E xs = some args)
    (hc : Calls P f args.toArray w (Ret Φ)) (h : ∀ v w', Φ v w' → Ls P ops n D E w' rest Q) :
    Ls P ops n D E w (⟨none, .call { callee := .value (.func f), args := xs.toArray, argTypes := ts }, ty, ps, af, none⟩ :: rest) Q := fun a ha => by
  have hargs : xs.toArray.map a.eval = args.toArray := by
    rw [List.map_toArray, ha.evals hx]
  refine wpList_plain rfl fun K hK => ?_
  have he := enters hf hname hb args.toArray w
  have hrun : (execOp a.eval ⟨none, .call { callee := .value (.func f), args := xs.toArray, argTypes := ts }, ty, ps, af, none⟩).run P w = .ok (.enter f args.toArray) w := by
    unfold execOp
    simp only [resolve, Deferred.ofValue, Act.eval, hargs, Sem.run_bind, Sem.run_pure, Result.andThen_ok, invoke]
    simpa using he
  unfold Oper.wp
  rw [hrun, Oper.upon_enter]
  refine hc.mono fun e w'' hh => ?_
  obtain ⟨u, rfl, hu⟩ := hh
  exact hK _ _ (h u w'' hu _ (ha.putNone u))

/-! ### Values alone -/
variable {x y z : Operand} {k k' : IntKind} {a b r : Int} {t t' : TypeId}
theorem run_move (hx : ev E x = some v) : RunO P E (.move x) ty w v w := fun n D a dst ps af g ha => by simp [execOp, ha.eval hx]
theorem run_assign (hx : ev E x = some v) : RunO P E (.assign x) ty w v w := fun n D a dst ps af g ha => by simp [execOp, ha.eval hx]
theorem run_pick_t (hx : ev E x = some (.bool true)) (hy : ev E y = some v) : RunO P E (.pick x y z) ty w v w := fun n D a dst ps af g ha => by
  simp [execOp, ha.eval hx, ha.eval hy, asBool]
theorem run_pick_f (hx : ev E x = some (.bool false)) (hz : ev E z = some v) : RunO P E (.pick x y z) ty w v w := fun n D a dst ps af g ha => by
  simp [execOp, ha.eval hx, ha.eval hz, asBool]
theorem run_extract {vs : List Value} {i : Nat} (hx : ev E x = some (.tuple vs.toArray)) (hv : vs[i]? = some v) : RunO P E (.extract x i) ty w v w := fun n D a dst ps af g ha => by
  simp [execOp, ha.eval hx, Instr.extract, hv]
theorem run_not {c : Bool} (hx : ev E x = some (.bool c)) : RunO P E (.unOp .not t x) ty w (.bool (!c)) w := fun n D a dst ps af g ha => by
  simp [execOp, ha.eval hx, Op.unary]
theorem run_add (hx : ev E x = some (.int k a)) (hy : ev E y = some (.int k b)) (hr : k.wrap (a + b) = r) : RunO P E (.binOp .add t x y t') ty w (.int k r) w := fun n D a dst ps af g ha => by
  simp [execOp, ha.eval hx, ha.eval hy, eqGuard, binOp, Op.intArith, hr]
theorem run_sub (hx : ev E x = some (.int k a)) (hy : ev E y = some (.int k b)) (hr : k.wrap (a - b) = r) : RunO P E (.binOp .sub t x y t') ty w (.int k r) w := fun n D a dst ps af g ha => by
  simp [execOp, ha.eval hx, ha.eval hy, eqGuard, binOp, Op.intArith, hr]
theorem run_mul (hx : ev E x = some (.int k a)) (hy : ev E y = some (.int k b)) (hr : k.wrap (a * b) = r) : RunO P E (.binOp .mul t x y t') ty w (.int k r) w := fun n D a dst ps af g ha => by
  simp [execOp, ha.eval hx, ha.eval hy, eqGuard, binOp, Op.intArith, hr]
theorem run_quo (hx : ev E x = some (.int k a)) (hy : ev E y = some (.int k b)) (h0 : b ≠ 0) (hr : k.wrap (a.tdiv b) = r) : RunO P E (.binOp .quo t x y t') ty w (.int k r) w := fun n D a dst ps af g ha => by
  simp [execOp, ha.eval hx, ha.eval hy, eqGuard, binOp, Op.intDiv, hr, h0]
theorem run_rem (hx : ev E x = some (.int k a)) (hy : ev E y = some (.int k b)) (h0 : b ≠ 0) (hr : a.tmod b = r) : RunO P E (.binOp .rem t x y t') ty w (.int k r) w := fun n D a dst ps af g ha => by
  simp [execOp, ha.eval hx, ha.eval hy, eqGuard, binOp, Op.intDiv, hr, h0]
theorem run_bits {o : BinOp} (ho : o = .and ∨ o = .or ∨ o = .xor ∨ o = .andNot) (hx : ev E x = some (.int k a)) (hy : ev E y = some (.int k b)) (hr : bits o k a b = r) : RunO P E (.binOp o t x y t') ty w (.int k r) w := fun n D a dst ps af g ha => by
  subst hr
  rcases ho with rfl | rfl | rfl | rfl <;> simp [execOp, ha.eval hx, ha.eval hy, eqGuard, binOp, Op.intBits, bits]
theorem run_shl (hx : ev E x = some (.int k a)) (hy : ev E y = some (.int k' b)) (h0 : 0 ≤ b) (hr : k.wrap (a * 2 ^ min b.toNat k.bits) = r) : RunO P E (.binOp .shl t x y t') ty w (.int k r) w := fun n D a dst ps af g ha => by
  simp [execOp, ha.eval hx, ha.eval hy, eqGuard, binOp, shift_shl_any _ _ _ _ h0, hr]
theorem run_shr (hx : ev E x = some (.int k a)) (hy : ev E y = some (.int k' b)) (h0 : 0 ≤ b) (hr : a / 2 ^ min b.toNat k.bits = r) : RunO P E (.binOp .shr t x y t') ty w (.int k r) w := fun n D a dst ps af g ha => by
  simp [execOp, ha.eval hx, ha.eval hy, eqGuard, binOp, shift_shr_any _ _ _ _ h0, hr]
theorem run_lss (hx : ev E x = some (.int k a)) (hy : ev E y = some (.int k b)) : RunO P E (.binOp .lss t x y t') ty w (.bool (decide (a < b))) w := fun n D a dst ps af g ha => by
  simp [execOp, ha.eval hx, ha.eval hy, eqGuard, binOp, Op.intCmp]
theorem run_leq (hx : ev E x = some (.int k a)) (hy : ev E y = some (.int k b)) : RunO P E (.binOp .leq t x y t') ty w (.bool (decide (a ≤ b))) w := fun n D a dst ps af g ha => by
  simp [execOp, ha.eval hx, ha.eval hy, eqGuard, binOp, Op.intCmp]
theorem run_gtr (hx : ev E x = some (.int k a)) (hy : ev E y = some (.int k b)) : RunO P E (.binOp .gtr t x y t') ty w (.bool (decide (b < a))) w := fun n D a dst ps af g ha => by
  simp [execOp, ha.eval hx, ha.eval hy, eqGuard, binOp, Op.intCmp]
theorem run_geq (hx : ev E x = some (.int k a)) (hy : ev E y = some (.int k b)) : RunO P E (.binOp .geq t x y t') ty w (.bool (decide (b ≤ a))) w := fun n D a dst ps af g ha => by
  simp [execOp, ha.eval hx, ha.eval hy, eqGuard, binOp, Op.intCmp]
theorem run_eql (hx : ev E x = some (.int k a)) (hy : ev E y = some (.int k b)) : RunO P E (.binOp .eql t x y t') ty w (.bool (decide (a = b))) w := fun n D a' dst ps af g ha => by
  have : (a == b) = decide (a = b) := by rw [Bool.eq_iff_iff]; simp
  simp [execOp, ha.eval hx, ha.eval hy, eqGuard, binOp, Op.intCmp, this]
theorem run_neq (hx : ev E x = some (.int k a)) (hy : ev E y = some (.int k b)) : RunO P E (.binOp .neq t x y t') ty w (.bool (decide (a ≠ b))) w := fun n D a' dst ps af g ha => by
  have : (a != b) = decide (a ≠ b) := by rw [Bool.eq_iff_iff]; simp
  simp [execOp, ha.eval hx, ha.eval hy, eqGuard, binOp, Op.intCmp, this]
theorem run_eql_str {s s' : ByteArray} (hx : ev E x = some (.string s)) (hy : ev E y = some (.string s')) : RunO P E (.binOp .eql t x y t') ty w (.bool (s.toList == s'.toList)) w := fun n D a' dst ps af g ha => by
  simp [execOp, ha.eval hx, ha.eval hy, eqGuard, binOp, Op.stringOp]
theorem run_neq_str {s s' : ByteArray} (hx : ev E x = some (.string s)) (hy : ev E y = some (.string s')) : RunO P E (.binOp .neq t x y t') ty w (.bool (!(s.toList == s'.toList))) w := fun n D a' dst ps af g ha => by
  simp [execOp, ha.eval hx, ha.eval hy, eqGuard, binOp, Op.stringOp]
theorem run_eql_slice_nil {A : Option Addr} {l c : Nat} {e : TypeId} (ht : P.underlying t = some (.slice e)) (hx : ev E x = some (.slice A l c)) (hy : ev E y = some (.slice none 0 0)) : RunO P E (.binOp .eql t x y t') ty w (.bool A.isNone) w := fun n D a' dst ps af g ha => by
  simp [execOp, ha.eval hx, ha.eval hy, eqGuard, binOp, run_equal_slice_nil w t e A l c ht]
theorem run_eql_ptr_nil {p : Option Addr} (ht : P.underlying t = some (.pointer (P.pointee t))) (hx : ev E x = some (.pointer p)) (hy : ev E y = some (.pointer none)) : RunO P E (.binOp .eql t x y t') ty w (.bool p.isNone) w := fun n D a' dst ps af g ha => by
  have := Go.run_eql_pointer_nil (P := P) w t p ht
  simp [execOp, ha.eval hx, ha.eval hy, eqGuard, this]
theorem run_neq_ptr_nil {p : Option Addr} (ht : P.underlying t = some (.pointer (P.pointee t))) (hx : ev E x = some (.pointer p)) (hy : ev E y = some (.pointer none)) : RunO P E (.binOp .neq t x y t') ty w (.bool (!p.isNone)) w := fun n D a' dst ps af g ha => by
  have := Go.run_neq_pointer_nil (P := P) w t p ht
  simp [execOp, ha.eval hx, ha.eval hy, eqGuard, this]
theorem run_conv_int (ht : P.underlying t' = some (.int k)) (hs : (P.underlying t).isSome = true) (hx : ev E x = some (.int k' a)) (hr : k.wrap a = r) : RunO P E (.convert t t' x) ty w (.int k r) w := fun n D a' dst ps af g ha => by
  obtain ⟨u, hu⟩ := Option.isSome_iff_exists.1 hs
  subst hr
  simp [execOp, ha.eval hx, convert, run_underlying ht, run_underlying hu, Conv.intToInt]
theorem run_len {A : Option Addr} {l c : Nat} {e : TypeId} (ht : P.underlying t = some (.slice e)) (hx : ev E x = some (.slice A l c)) :
    RunO P E (.call { callee := .builtin .len, args := #[x], argTypes := #[t] }) ty w (.int .i64 l) w := fun n D a' dst ps af g ha => by
  simp [execOp, resolve, invoke, builtin, ha.eval hx, Builtin.len_, run_underlying ht, goInt]
theorem run_cap {A : Option Addr} {l c : Nat} {e : TypeId} (ht : P.underlying t = some (.slice e)) (hx : ev E x = some (.slice A l c)) :
    RunO P E (.call { callee := .builtin .cap, args := #[x], argTypes := #[t] }) ty w (.int .i64 c) w := fun n D a' dst ps af g ha => by
  simp [execOp, resolve, invoke, builtin, ha.eval hx, Builtin.cap_, run_underlying ht, goInt]
theorem run_len_str {s : ByteArray} (ht : P.underlying t = some .string) (hx : ev E x = some (.string s)) :
    RunO P E (.call { callee := .builtin .len, args := #[x], argTypes := #[t] }) ty w (.int .i64 s.size) w := fun n D a' dst ps af g ha => by
  simp [execOp, resolve, invoke, builtin, ha.eval hx, Builtin.len_, run_underlying ht, goInt]

/-! Places -/
def Inf (P : Program) (e : TypeId) (z : Value) (size bytes : Nat) : Prop := ∃ i, P.info? e = some i ∧ i.zero = some z ∧ i.size = size ∧ i.bytes = bytes
theorem Inf.mk' {e : TypeId} {z : Value} {size bytes : Nat} (h : (P.info? e).map (fun i => (i.zero, i.size, i.bytes)) = some (some z, size, bytes)) : Inf P e z size bytes := by
  obtain ⟨i, hi, hh⟩ := Option.map_eq_some_iff.1 h
  simp only [Prod.mk.injEq] at hh
  exact ⟨i, hi, hh.1, hh.2.1, hh.2.2⟩
theorem Inf.sizeOf {e : TypeId} {zv : Value} {size bytes : Nat} (h : Inf P e zv size bytes) (w : World) : (sizeOf e).run P w = .ok size w := by
  obtain ⟨i, hi, _, hs, _⟩ := h
  simp [Go.sizeOf, typeInfo, hi, hs]
theorem run_index {A : Option Addr} {l c e size bytes : Nat} {zv : Value} {i : Int} {b off : Nat} (ht : P.underlying t = some (.slice e)) (hi : Inf P e zv size bytes) (hx : ev E x = some (.slice A l c)) (hy : ev E y = some (.int k i))
    (hA : A = some ⟨b, off, none⟩) (h0 : 0 ≤ i) (h1 : i < l) : RunO P E (.indexAddr t x y) ty w (.pointer (some ⟨b, off + i.toNat * size, none⟩)) w := fun n D a' dst ps af g ha => by
  subst hA
  have := hi.sizeOf (P := P) w
  have e1 : (⟨b, off, none⟩ : Addr).add (i.toNat * size) = ⟨b, off + i.toNat * size, none⟩ := Addr.add_lit ..
  simp [execOp, ha.eval hx, ha.eval hy, Instr.indexAt, asIntOf, run_underlying ht, h0, h1, this, e1]
theorem run_index_arr {l e size bytes : Nat} {zv : Value} {i : Int} {b off : Nat} (ht : P.underlying t = some (.array l e)) (hi : Inf P e zv size bytes) (hx : ev E x = some (.pointer (some ⟨b, off, none⟩))) (hy : ev E y = some (.int k i))
    (h0 : 0 ≤ i) (h1 : i < l) : RunO P E (.indexAddr t x y) ty w (.pointer (some ⟨b, off + i.toNat * size, none⟩)) w := fun n D a' dst ps af g ha => by
  have := hi.sizeOf (P := P) w
  have e1 : (⟨b, off, none⟩ : Addr).add (i.toNat * size) = ⟨b, off + i.toNat * size, none⟩ := Addr.add_lit ..
  simp [execOp, ha.eval hx, ha.eval hy, Instr.indexAt, asIntOf, run_underlying ht, h0, h1, this, e1, Instr.sureAddr]
theorem run_field {fs : Array Field} {f : Field} {i b off size bytes : Nat} {zv : Value} (ht : P.underlying t = some (.struct fs)) (hf : fs[i]? = some f) (hi : Inf P f.type zv size bytes) (h0 : size ≠ 0) (hx : ev E x = some (.pointer (some ⟨b, off, none⟩))) :
    RunO P E (.fieldAddr t x i) ty w (.pointer (some ⟨b, off + f.offset, none⟩)) w := fun n D a' dst ps af g ha => by
  have := hi.sizeOf (P := P) w
  have e1 : (⟨b, off, none⟩ : Addr).add f.offset = ⟨b, off + f.offset, none⟩ := Addr.add_lit ..
  simp [execOp, ha.eval hx, Instr.fieldAt, run_underlying ht, hf, Instr.sureAddr, fieldPlace, this, h0, e1]
/-- Not a struct, not an array. -/
def Scalar (P : Program) (t : TypeId) : Prop := ∃ d, P.underlying t = some d ∧ (∀ fs, d ≠ .struct fs) ∧ (∀ n e, d ≠ .array n e)
theorem Scalar.isAgg {t : TypeId} (h : Scalar P t) (w : World) : (isAgg t).run P w = .ok false w := by
  obtain ⟨d, hd, h1, h2⟩ := h
  simp only [Go.isAgg, Sem.run_bind, run_underlying hd, Result.andThen_ok]
  cases d with
  | struct fs => exact absurd rfl (h1 _)
  | array n e => exact absurd rfl (h2 _ _)
  | _ => rfl
theorem run_load {p : Addr} (ht : Scalar P t) (hx : ev E x = some (.pointer (some p))) (hc : w.cell? p = some v) : RunO P E (.load t x) ty w v w := fun n D a' dst ps af g ha => by
  have := ht.isAgg w
  simp [execOp, ha.eval hx, Instr.loadAt, Instr.sureAddr, loadVar, this, hc]
theorem isAgg_agg {t : TypeId} (h : (∃ fs, P.underlying t = some (.struct fs)) ∨ (∃ n e, P.underlying t = some (.array n e))) (w : World) : (isAgg t).run P w = .ok true w := by
  rcases h with ⟨fs, h⟩ | ⟨n, e, h⟩ <;> simp [Go.isAgg, run_underlying h]
theorem run_load_agg {b off size bytes : Nat} {zv : Value} {cs : List Value} (ht : (∃ fs, P.underlying t = some (.struct fs)) ∨ (∃ n e, P.underlying t = some (.array n e))) (hi : Inf P t zv size bytes) (hx : ev E x = some (.pointer (some ⟨b, off, none⟩)))
    (hl : cs.length = size) (hc : ∀ j u, cs[j]? = some u → w.cell? ⟨b, off + j, none⟩ = some u) : RunO P E (.load t x) ty w (.agg cs.toArray) w := fun n D a' dst ps af g ha => by
  have h1 := isAgg_agg ht w
  have h2 := hi.sizeOf (P := P) w
  have h3 := run_loadCells_list (P := P) w ⟨b, off, none⟩ cs (fun j u hj => by rw [Addr.add_lit]; exact hc j u hj)
  subst hl
  simp [execOp, ha.eval hx, Instr.loadAt, Instr.sureAddr, loadVar, h1, h2, h3]
theorem run_slice_lh {A : Option Addr} {l c e size bytes : Nat} {zv : Value} {i j : Int} {k k' : IntKind} (ht : P.underlying t = some (.slice e)) (hi : Inf P e zv size bytes) (hx : ev E x = some (.slice A l c)) (hy : ev E y = some (.int k i)) (hz : ev E z = some (.int k' j))
    (h0 : 0 ≤ i) (h1 : i ≤ j) (h2 : j ≤ c) : RunO P E (.slice t x (some y) (some z) none) ty w (.slice (if c = i.toNat then A else A.map (·.add (i.toNat * size))) (j.toNat - i.toNat) (c - i.toNat)) w := fun n D a' dst ps af g ha => by
  have hel : P.elem t = e := by simp [Program.elem, ht]
  have hu : P.underlying t = some (.slice (P.elem t)) := by rw [hel]; exact ht
  have h3 := hi.sizeOf (P := P) w
  simp [execOp, ha.eval hx, ha.eval hy, ha.eval hz, run_sliceAt_slice w t _ _ _ _ hu, Go.run_slice_lh w t A l c hu k k' i j h0 h1 h2, hel, h3, sliced, Result.andThen]
theorem run_slice_l {A : Option Addr} {l c e size bytes : Nat} {zv : Value} {i : Int} {k : IntKind} (ht : P.underlying t = some (.slice e)) (hi : Inf P e zv size bytes) (hx : ev E x = some (.slice A l c)) (hy : ev E y = some (.int k i))
    (h0 : 0 ≤ i) (h1 : i ≤ l) : RunO P E (.slice t x (some y) none none) ty w (.slice (if c = i.toNat then A else A.map (·.add (i.toNat * size))) (l - i.toNat) (c - i.toNat)) w := fun n D a' dst ps af g ha => by
  have hel : P.elem t = e := by simp [Program.elem, ht]
  have hu : P.underlying t = some (.slice (P.elem t)) := by rw [hel]; exact ht
  have h3 := hi.sizeOf (P := P) w
  simp [execOp, ha.eval hx, ha.eval hy, run_sliceAt_slice w t _ _ _ _ hu, Go.run_slice_l w t A l c hu k i h0 h1, hel, h3, sliced, Result.andThen]
theorem run_slice_h {A : Option Addr} {l c e size bytes : Nat} {zv : Value} {j : Int} {k : IntKind} (ht : P.underlying t = some (.slice e)) (hi : Inf P e zv size bytes) (hx : ev E x = some (.slice A l c)) (hz : ev E z = some (.int k j))
    (h0 : 0 ≤ j) (h2 : j ≤ c) : RunO P E (.slice t x none (some z) none) ty w (.slice A j.toNat c) w := fun n D a' dst ps af g ha => by
  have hel : P.elem t = e := by simp [Program.elem, ht]
  have hu : P.underlying t = some (.slice (P.elem t)) := by rw [hel]; exact ht
  have h3 := hi.sizeOf (P := P) w
  have h4 : (if c = 0 then A else A.map (·.add (0 * size))) = A := by
    split
    · rfl
    · cases A <;> simp [Addr.add]
  simp [execOp, ha.eval hx, ha.eval hz, run_sliceAt_slice w t _ _ _ _ hu, Go.run_slice_h w t A l c hu k j h0 h2, hel, h3, sliced, Result.andThen]
  simpa using h4

/-! Strings out of bytes -/
def bytesV (l : List Int) : List Value := l.map fun x => .int .u8 x
theorem bytesV_length (l : List Int) : (bytesV l).length = l.length := by simp [bytesV]
theorem bytesV_get {l : List Int} {j : Nat} (h : j < l.length) : (bytesV l)[j]? = some (.int .u8 l[j]) := by simp [bytesV, h]
def IsBytes (l : List Int) : Prop := ∀ x ∈ l, 0 ≤ x ∧ x ≤ 255
theorem strOfNums_inj {a b : List Int} (ha : IsBytes a) (hb : IsBytes b) : ((strOfNums a).toList == (strOfNums b).toList) = decide (a = b) := by
  have h1 : ∀ l : List Int, (strOfNums l).toList = l.map fun n => UInt8.ofNat n.toNat := fun l => by
    rw [ByteArray.toList_eq]; rfl
  rw [Bool.eq_iff_iff, h1, h1]
  simp only [beq_iff_eq, decide_eq_true_eq]
  constructor
  · intro h
    apply List.ext_getElem
    · have := congrArg List.length h; simpa using this
    · intro i hi hj
      have hg : (a.map fun n => UInt8.ofNat n.toNat)[i]? = (b.map fun n => UInt8.ofNat n.toNat)[i]? := by rw [h]
      simp only [List.getElem?_map, List.getElem?_eq_getElem hi, List.getElem?_eq_getElem hj, Option.map_some, Option.some.injEq] at hg
      have h2 := ha a[i] (List.getElem_mem hi)
      have h3 := hb b[i] (List.getElem_mem hj)
      have h4 := congrArg UInt8.toNat hg
      simp at h4
      omega
  · intro h; rw [h]
theorem run_string {A : Option Addr} {l c e : Nat} {xs : List Int} (ht : P.underlying t = some (.slice e)) (he : P.underlying e = some (.int .u8)) (ht' : P.underlying t' = some .string) (hx : ev E x = some (.slice A l c)) (hr : Rd w A l c 1 (bytesV xs)) :
    RunO P E (.convert t t' x) ty w (.string (strOfNums xs)) w := fun n D a' dst ps af g ha => by
  have hl : xs.length = l := by have := hr.len; rw [bytesV_length] at this; omega
  have : (convert t t' (.slice A l c)).run P w = .ok (.string (strOfNums xs)) w := by
    rcases Nat.eq_zero_or_pos l with h0 | h0
    · subst h0
      have hxs : xs = [] := List.eq_nil_of_length_eq_zero hl
      subst hxs
      cases A with
      | none => exact run_convert_bytes_nil w t e ht he 0 c t' ht'
      | some p =>
        obtain ⟨b, off, sp⟩ := p
        simp [convert, run_underlying ht, run_underlying ht', run_underlying he, Conv.bytesToString, loadCells, loadCellsFrom]
        rfl
    · obtain ⟨b, off, rfl, _, hc⟩ := hr.cells h0
      refine run_convert_bytes_arg w t e ht he b off l c xs hl (fun i hi => ?_) t' ht'
      have hi' : i < xs.length := by omega
      refine hc i _ ?_
      rw [bytesV_get hi']
      simp [List.getD_eq_getElem?_getD, hi']
  simp [execOp, ha.eval hx, this]
end
end Go.Proofs.Ytipkfdeiallifaa.Lg
