/-
  A small logic for walking the program's text: an environment that lists the slots that are known, judgements on code and on lists of operations, one rule a form of code. Plain theorems over the kit's own rules; no program in sight.
-/
import Derived.WalkKit
import Derived.WalkSpells
import Derived.WalkLawsBesides
import Derived.Orders
import Derived.Deep.LoopGhost
set_option linter.unusedVariables false
set_option linter.unusedSimpArgs false
namespace Go.Proofs.Ytipkfdeiallifaa.Lg
open Go

/-- What is known of the slots; the newest entry of a slot holds. -/
abbrev Env := List (Nat × Value)
def look : List (Nat × Value) → Nat → Option Value
  | [], _ => none
  | (j, v) :: E, i => cond (Nat.beq j i) (some v) (look E i)
def ev (E : Env) : Operand → Option Value
  | .tmp t => look E t
  | .const v => some v
  | .global g => some (.pointer (some ⟨g, 0, none⟩))
  | .func f => some (.func (.func f) #[] #[])
def evs (E : Env) : List Operand → Option (List Value)
  | [] => some []
  | x :: l => match ev E x, evs E l with
    | some v, some vs => some (v :: vs)
    | _, _ => none

structure Good (n : Nat) (D : List Deferred) (E : Env) (a : Act) : Prop where
  size : a.tmps.size = n
  defers : a.defers = D
  rep : ∀ i v, look E i = some v → a.tmps[i]? = some v

theorem look_eq {j i : Nat} {v : Value} {E : Env} (h : j = i) : look ((j, v) :: E) i = some v := by
  subst h
  simp [look]
theorem look_ne {j i : Nat} {v : Value} {E : Env} (h : j ≠ i) : look ((j, v) :: E) i = look E i := by
  have : Nat.beq j i = false := by
    cases hb : Nat.beq j i
    · rfl
    · exact absurd (Nat.eq_of_beq_eq_true hb) h
  simp [look, this]

theorem Good.eval {n : Nat} {D : List Deferred} {E : Env} {a : Act} (h : Good n D E a) {x : Operand} {v : Value} (hx : ev E x = some v) : a.eval x = v := by
  cases x with
  | tmp t =>
    have := h.rep t v hx
    simp [Act.eval, this]
  | const u => simpa [ev, Act.eval] using hx
  | global g => simpa [ev, Act.eval] using hx
  | func f => simpa [ev, Act.eval] using hx

theorem Good.evals {n : Nat} {D : List Deferred} {E : Env} {a : Act} (h : Good n D E a) : ∀ {l : List Operand} {vs : List Value}, evs E l = some vs → l.map a.eval = vs
  | [], vs, hx => by simp [evs] at hx; subst hx; rfl
  | x :: l, vs, hx => by
    simp only [evs] at hx
    split at hx
    · rename_i v us h1 h2
      simp at hx
      subst hx
      rw [List.map_cons, h.eval h1, h.evals h2]
    · cases hx

theorem Good.put {n : Nat} {D : List Deferred} {E : Env} {a : Act} (h : Good n D E a) {d : Nat} (hd : Nat.blt d n = true) (v : Value) : Good n D ((d, v) :: E) (a.put (some d) v) := by
  have hlt : d < n := Nat.le_of_ble_eq_true hd
  refine ⟨by simp [Act.put, h.size], by simp [Act.put, h.defers], fun i u hu => ?_⟩
  by_cases hi : d = i
  · subst hi
    rw [look_eq rfl] at hu
    cases hu
    simp [Act.put, h.size, hlt]
  · rw [look_ne hi] at hu
    have := h.rep i u hu
    simp only [Act.put, Array.getElem?_setIfInBounds_ne hi]
    exact this

theorem Good.putNone {n : Nat} {D : List Deferred} {E : Env} {a : Act} (h : Good n D E a) (v : Value) : Good n D E (a.put none v) := h

/-- Fewer slots. -/
def SubE (E' E : Env) : Prop := ∀ i v, look E' i = some v → look E i = some v
theorem subE_nil {E : Env} : SubE [] E := fun i v h => by simp [look] at h
theorem subE_cons {E' E : Env} {i : Nat} {v : Value} (h : look E i = some v) (h' : SubE E' E) : SubE ((i, v) :: E') E := fun j u hj => by
  by_cases hi : i = j
  · subst hi; rw [look_eq rfl] at hj; cases hj; exact h
  · rw [look_ne hi] at hj; exact h' j u hj
theorem Good.sub {n : Nat} {D : List Deferred} {E E' : Env} {a : Act} (h : Good n D E a) (hs : SubE E' E) : Good n D E' a := ⟨h.size, h.defers, fun i v hi => h.rep i v (hs i v hi)⟩

/-! ### The judgements -/
def St (P : Program) (n : Nat) (D : List Deferred) (E : Env) (w : World) (c : Code) (Q : Exit → Act → World → Prop) : Prop := ∀ a, Good n D E a → c.wp P Q a w
def Jm (n : Nat) (D : List Deferred) (E : Env) (w : World) (e : Exit) (Q : Exit → Act → World → Prop) : Prop := ∀ a, Good n D E a → Q e a w
def Ls (P : Program) (ops : Array Oper) (n : Nat) (D : List Deferred) (E : Env) (w : World) (l : List Oper) (Q : Exit → Act → World → Prop) : Prop := ∀ a, Good n D E a → wpList P ops Q l a w
/-- A returned value of which this is known. -/
def Ret (Φ : Value → World → Prop) : Ending → World → Prop := fun e w => ∃ v, e = .returned v ∧ Φ v w

section
variable {P : Program} {ops : Array Oper} {n : Nat} {D : List Deferred} {E : Env} {w : World} {Q : Exit → Act → World → Prop} {c1 c2 : Code} {rest : List Oper} {ty : TypeId} {ps : String} {af : Array Edge}

theorem St_seq (h : St P n D E w c1 (Exit.then (fun a w => c2.wp P Q a w) Q)) : St P n D E w (c1.seq c2) Q := fun a ha => wp_seq (h a ha)
theorem St_block {id : Nat} (h : St P n D E w c1 (Exit.inBlock id Q)) : St P n D E w (.block id c1) Q := fun a ha => wp_block (h a ha)
theorem St_skip (h : Jm n D E w .normal Q) : St P n D E w .skip Q := fun a ha => wp_skip (h a ha)
theorem St_exit {id : Nat} (h : Jm n D E w (.exit id) Q) : St P n D E w (.exit id) Q := fun a ha => wp_exit (h a ha)
theorem St_ret (h : Jm n D E w .ret Q) : St P n D E w .ret Q := fun a ha => wp_ret (h a ha)
theorem St_region {id : Nat} {l : List Oper} (h : Ls P l.toArray n D E w l Q) : St P n D E w (.region id l.toArray false) Q := fun a ha => wp_region_lit (h a ha)
theorem St_if {c : Operand} {b : Bool} (hc : ev E c = some (.bool b)) (h1 : b = true → St P n D E w c1 Q) (h2 : b = false → St P n D E w c2 Q) : St P n D E w (.cond c c1 c2) Q := fun a ha =>
  wp_cond_split (ha.eval hc) (fun hb => h1 hb a ha) (fun hb => h2 hb a ha)
/-- A test of a proposition. -/
theorem St_ifP {c : Operand} {p : Prop} [Decidable p] (hc : ev E c = some (.bool (decide p))) (h1 : p → St P n D E w c1 Q) (h2 : ¬ p → St P n D E w c2 Q) : St P n D E w (.cond c c1 c2) Q :=
  St_if hc (fun hb => h1 (of_decide_eq_true hb)) (fun hb => h2 (of_decide_eq_false hb))
theorem St_sub {E' : Env} {c : Code} (hs : SubE E' E) (h : St P n D E' w c Q) : St P n D E w c Q := fun a ha => h a (ha.sub hs)

theorem Jm_then {K : Act → World → Prop} (h : ∀ a, Good n D E a → K a w) : Jm n D E w .normal (Exit.then K Q) := h
theorem Jm_seq (h : St P n D E w c2 Q) {Q' : Exit → Act → World → Prop} : Jm n D E w .normal (Exit.then (fun a w => c2.wp P Q a w) Q') := h
theorem Jm_then_exit {K : Act → World → Prop} {id : Nat} (h : Jm n D E w (.exit id) Q) : Jm n D E w (.exit id) (Exit.then K Q) := h
theorem Jm_then_ret {K : Act → World → Prop} (h : Jm n D E w .ret Q) : Jm n D E w .ret (Exit.then K Q) := h
theorem Jm_block_normal {id : Nat} (h : Jm n D E w .normal Q) : Jm n D E w .normal (Exit.inBlock id Q) := h
theorem Jm_block_ret {id : Nat} (h : Jm n D E w .ret Q) : Jm n D E w .ret (Exit.inBlock id Q) := h
theorem Jm_block_same {id : Nat} (h : Jm n D E w .normal Q) : Jm n D E w (.exit id) (Exit.inBlock id Q) := fun a ha => by
  show (if id = id then Q .normal a w else Q (.exit id) a w)
  rw [if_pos rfl]; exact h a ha
theorem Jm_block_ne {id id' : Nat} (hne : Nat.beq id' id = false) (h : Jm n D E w (.exit id') Q) : Jm n D E w (.exit id') (Exit.inBlock id Q) := fun a ha => by
  show (if id' = id then Q .normal a w else Q (.exit id') a w)
  rw [if_neg (fun e => by subst e; simp at hne)]; exact h a ha

theorem Ls_nil (h : Jm n D E w .normal Q) : Ls P ops n D E w [] Q := fun a ha => wpList_nil (h a ha)

/-- A loop: what is known at its head, as a function of a state; a number that each round lowers. -/
theorem St_loop {σ : Type} (En : σ → Env) (Inv : σ → World → Prop) (m : σ → Nat) (s0 : σ) (h0 : Inv s0 w) (hE : SubE (En s0) E)
    (round : ∀ s w, Inv s w → St P n D (En s) w c1 (Exit.then (fun a' w' => ∃ s', Good n D (En s') a' ∧ Inv s' w' ∧ m s' < m s) Q)) : St P n D E w (.loop c1) Q := fun a ha => by
  let I : Nat → Act → World → Prop := fun k a w => ∃ s, Good n D (En s) a ∧ Inv s w ∧ m s = k
  refine wp_loop_ghost I (m s0) ⟨s0, ha.sub hE, h0, rfl⟩ ?_
  rintro k a w ⟨s, hg, hI, rfl⟩
  refine wp_mono (round s w hI a hg) ?_
  intro e a' w' hq
  cases e with
  | normal =>
    obtain ⟨s', hg', hI', hm⟩ := hq
    exact ⟨m s', hm, s', hg', hI', rfl⟩
  | exit id => exact hq
  | goto l => exact hq
  | ret => exact hq
  | panic ch => exact hq
  | outgrown => exact hq
theorem Jm_round {σ : Type} {En : σ → Env} {Inv : σ → World → Prop} {m : σ → Nat} {s : σ} (s' : σ) (hE : SubE (En s') E) (hI : Inv s' w) (hm : m s' < m s) :
    Jm n D E w .normal (Exit.then (fun a' w' => ∃ s', Good n D (En s') a' ∧ Inv s' w' ∧ m s' < m s) Q) := fun a ha => ⟨s', ha.sub hE, hI, hm⟩

/-! ### The body's ends -/
theorem Calls_body {fn : Func} {f : FuncId} {c : Code} {args : List Value} {R : Ending → World → Prop} (hf : P.funcs[f]? = some fn) (hb : fn.body = some c) (hn : fn.ntmps = n)
    (hl : Nat.ble args.length n = true) (hE : ∀ i v, look E i = some v → args[i]? = some v)
    (h : St P n [] E w c (bodyPost P fn R)) : Calls P f args.toArray w R := by
  refine calls_of_wp hf hb (h _ ⟨?_, rfl, ?_⟩)
  · have := Nat.le_of_ble_eq_true hl
    simp; omega
  · intro i v hi
    have h1 := hE i v hi
    have h2 : i < args.length := (List.getElem?_eq_some_iff.1 h1).1
    simp only [Array.getElem?_append, List.size_toArray, h2, if_true]
    simpa using h1
theorem envE_nil {args : List Value} : ∀ i v, look [] i = some v → args[i]? = some v := fun i v h => by simp [look] at h
theorem envE_cons {args : List Value} {E : Env} {i : Nat} {v : Value} (h : args[i]? = some v) (hE : ∀ i v, look E i = some v → args[i]? = some v) : ∀ j u, look ((i, v) :: E) j = some u → args[j]? = some u := fun j u hj => by
  by_cases hi : i = j
  · subst hi; rw [look_eq rfl] at hj; cases hj; exact h
  · rw [look_ne hi] at hj; exact hE j u hj

theorem Good.tmp {a : Act} (h : Good n D E a) {t : Nat} {v : Value} (hx : look E t = some v) : a.tmps.getD t undef = v := by
  have := h.rep t v hx
  simp [this]
section
variable {fn : Func} {R : Ending → World → Prop}
theorem Jm_ret0 (hr : fn.results = #[]) (h : R (.returned (.tuple #[])) w) : Jm n [] E w .ret (bodyPost P fn R) := fun a ha =>
  ⟨ha.defers, _, by simp [results, hr], h⟩
theorem Jm_end0 (hr : fn.results = #[]) (h : R (.returned (.tuple #[])) w) : Jm n [] E w .normal (bodyPost P fn R) := fun a ha =>
  ⟨ha.defers, _, by simp [results, hr], h⟩
theorem Jm_ret1 {t : Tmp} {v : Value} (hr : fn.results = #[.tmp t]) (hv : look E t = some v) (h : R (.returned v) w) : Jm n [] E w .ret (bodyPost P fn R) := fun a ha =>
  ⟨ha.defers, v, by have := ha.tmp hv; simp [results, hr]; simpa using this, h⟩
theorem Jm_ret2 {t u : Tmp} {v x : Value} (hr : fn.results = #[.tmp t, .tmp u]) (hv : look E t = some v) (hx : look E u = some x) (h : R (.returned (.tuple #[v, x])) w) : Jm n [] E w .ret (bodyPost P fn R) := fun a ha =>
  ⟨ha.defers, _, by have h1 := ha.tmp hv; have h2 := ha.tmp hx; simp only [results, hr]; simp [h1, h2]; exact ⟨by simpa using h1, by simpa using h2⟩, h⟩
theorem Jm_ret3 {t u s : Tmp} {v x y : Value} (hr : fn.results = #[.tmp t, .tmp u, .tmp s]) (hv : look E t = some v) (hx : look E u = some x) (hy : look E s = some y) (h : R (.returned (.tuple #[v, x, y])) w) : Jm n [] E w .ret (bodyPost P fn R) := fun a ha =>
  ⟨ha.defers, _, by have h1 := ha.tmp hv; have h2 := ha.tmp hx; have h3 := ha.tmp hy; simp only [results, hr]; simp [h1, h2, h3]; exact ⟨by simpa using h1, by simpa using h2, by simpa using h3⟩, h⟩
end
end
end Go.Proofs.Ytipkfdeiallifaa.Lg
