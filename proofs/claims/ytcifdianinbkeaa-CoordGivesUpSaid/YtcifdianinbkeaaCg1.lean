/-
  Part 1 of the proof: Lg, Hp, Rl, Ef, Mo, Ro, Dr, Mp, Rb, Rw, Bd, Mx, Mk, Kp, Ob, Dc, Fv, Sh, Ty, Dec, Bl, DiskPure, DiskRef. No condition.
-/
import Derived.WalkKit
import Derived.WalkSpells
import Derived.WalkLawsBesides
import Derived.Orders
import Derived.Deep.LoopGhost
import Derived.Deep.OwnRows
import Derived.Maps.AppendAt
import Derived.ProofKit
import Derived.OpenShut
import Derived.ShutString
import Derived.ChangeOld
import Derived.SizedLaws
import Derived.ChangeSlices
import Derived.KernelRfl
import Derived.Lib.AppendZeros
import Derived.Test.YtcifdianinbkeaaRows
import Derived.Deep.Slices
import Derived.Laws.Tables
import Derived.Laws.StructEq
import Derived.Laws.MakeOwn
import Derived.Test.YtcifdianinbkeaaProg
set_option linter.unusedVariables false
set_option linter.unusedSimpArgs false
namespace Go.Proofs.Ytcifdianinbkeaa.Lg
open Go

/-- What is known of the slots; the newest entry of a slot holds. -/
abbrev Env := List (Nat × Value)
def look : List (Nat × Value) → Nat → Option Value
  | [], _ => none
  | (j, v) :: E, i => cond (Nat.beq j i) (some v) (look E i)
def ev (E : Env) : Operand → Option Value
  | .tmp t => look E t
  | .const v => some v
  | .global g => some (.pointer (some ⟨g, 0, none⟩))
  | .func f => some (.func (.func f) #[] #[])
def evs (E : Env) : List Operand → Option (List Value)
  | [] => some []
  | x :: l => match ev E x, evs E l with
    | some v, some vs => some (v :: vs)
    | _, _ => none

structure Good (n : Nat) (D : List Deferred) (E : Env) (a : Act) : Prop where
  size : a.tmps.size = n
  defers : a.defers = D
  rep : ∀ i v, look E i = some v → a.tmps[i]? = some v

theorem look_eq {j i : Nat} {v : Value} {E : Env} (h : j = i) : look ((j, v) :: E) i = some v := by
  subst h
  simp [look]
theorem look_ne {j i : Nat} {v : Value} {E : Env} (h : j ≠ i) : look ((j, v) :: E) i = look E i := by
  have : Nat.beq j i = false := by
    cases hb : Nat.beq j i
    · rfl
    · exact absurd (Nat.eq_of_beq_eq_true hb) h
  simp [look, this]

theorem Good.eval {n : Nat} {D : List Deferred} {E : Env} {a : Act} (h : Good n D E a) {x : Operand} {v : Value} (hx : ev E x = some v) : a.eval x = v := by
  cases x with
  | tmp t =>
    have := h.rep t v hx
    simp [Act.eval, this]
  | const u => simpa [ev, Act.eval] using hx
  | global g => simpa [ev, Act.eval] using hx
  | func f => simpa [ev, Act.eval] using hx

theorem Good.evals {n : Nat} {D : List Deferred} {E : Env} {a : Act} (h : Good n D E a) : ∀ {l : List Operand} {vs : List Value}, evs E l = some vs → l.map a.eval = vs
  | [], vs, hx => by simp [evs] at hx; subst hx; rfl
  | x :: l, vs, hx => by
    simp only [evs] at hx
    split at hx
    · rename_i v us h1 h2
      simp at hx
      subst hx
      rw [List.map_cons, h.eval h1, h.evals h2]
    · cases hx

theorem Good.put {n : Nat} {D : List Deferred} {E : Env} {a : Act} (h : Good n D E a) {d : Nat} (hd : Nat.blt d n = true) (v : Value) : Good n D ((d, v) :: E) (a.put (some d) v) := by
  have hlt : d < n := Nat.le_of_ble_eq_true hd
  refine ⟨by simp [Act.put, h.size], by simp [Act.put, h.defers], fun i u hu => ?_⟩
  by_cases hi : d = i
  · subst hi
    rw [look_eq rfl] at hu
    cases hu
    simp [Act.put, h.size, hlt]
  · rw [look_ne hi] at hu
    have := h.rep i u hu
    simp only [Act.put, Array.getElem?_setIfInBounds_ne hi]
    exact this

theorem Good.putNone {n : Nat} {D : List Deferred} {E : Env} {a : Act} (h : Good n D E a) (v : Value) : Good n D E (a.put none v) := h

/-- Fewer slots. -/
def SubE (E' E : Env) : Prop := ∀ i v, look E' i = some v → look E i = some v
theorem subE_nil {E : Env} : SubE [] E := fun i v h => by simp [look] at h
theorem subE_cons {E' E : Env} {i : Nat} {v : Value} (h : look E i = some v) (h' : SubE E' E) : SubE ((i, v) :: E') E := fun j u hj => by
  by_cases hi : i = j
  · subst hi; rw [look_eq rfl] at hj; cases hj; exact h
  · rw [look_ne hi] at hj; exact h' j u hj
theorem Good.sub {n : Nat} {D : List Deferred} {E E' : Env} {a : Act} (h : Good n D E a) (hs : SubE E' E) : Good n D E' a := ⟨h.size, h.defers, fun i v hi => h.rep i v (hs i v hi)⟩

/-! ### The judgements -/
def St (P : Program) (n : Nat) (D : List Deferred) (E : Env) (w : World) (c : Code) (Q : Exit → Act → World → Prop) : Prop := ∀ a, Good n D E a → c.wp P Q a w
def Jm (n : Nat) (D : List Deferred) (E : Env) (w : World) (e : Exit) (Q : Exit → Act → World → Prop) : Prop := ∀ a, Good n D E a → Q e a w
def Ls (P : Program) (ops : Array Oper) (n : Nat) (D : List Deferred) (E : Env) (w : World) (l : List Oper) (Q : Exit → Act → World → Prop) : Prop := ∀ a, Good n D E a → wpList P ops Q l a w
/-- A returned value of which this is known. -/
def Ret (Φ : Value → World → Prop) : Ending → World → Prop := fun e w => ∃ v, e = .returned v ∧ Φ v w

section
variable {P : Program} {ops : Array Oper} {n : Nat} {D : List Deferred} {E : Env} {w : World} {Q : Exit → Act → World → Prop} {c1 c2 : Code} {rest : List Oper} {ty : TypeId} {ps : String} {af : Array Edge}

theorem St_seq (h : St P n D E w c1 (Exit.then (fun a w => c2.wp P Q a w) Q)) : St P n D E w (c1.seq c2) Q := fun a ha => wp_seq (h a ha)
theorem St_block {id : Nat} (h : St P n D E w c1 (Exit.inBlock id Q)) : St P n D E w (.block id c1) Q := fun a ha => wp_block (h a ha)
theorem St_skip (h : Jm n D E w .normal Q) : St P n D E w .skip Q := fun a ha => wp_skip (h a ha)
theorem St_exit {id : Nat} (h : Jm n D E w (.exit id) Q) : St P n D E w (.exit id) Q := fun a ha => wp_exit (h a ha)
theorem St_ret (h : Jm n D E w .ret Q) : St P n D E w .ret Q := fun a ha => wp_ret (h a ha)
theorem St_region {id : Nat} {l : List Oper} (h : Ls P l.toArray n D E w l Q) : St P n D E w (.region id l.toArray false) Q := fun a ha => wp_region_lit (h a ha)
theorem St_if {c : Operand} {b : Bool} (hc : ev E c = some (.bool b)) (h1 : b = true → St P n D E w c1 Q) (h2 : b = false → St P n D E w c2 Q) : St P n D E w (.cond c c1 c2) Q := fun a ha =>
  wp_cond_split (ha.eval hc) (fun hb => h1 hb a ha) (fun hb => h2 hb a ha)
/-- A test of a proposition. -/
theorem St_ifP {c : Operand} {p : Prop} [Decidable p] (hc : ev E c = some (.bool (decide p))) (h1 : p → St P n D E w c1 Q) (h2 : ¬ p → St P n D E w c2 Q) : St P n D E w (.cond c c1 c2) Q :=
  St_if hc (fun hb => h1 (of_decide_eq_true hb)) (fun hb => h2 (of_decide_eq_false hb))
theorem St_sub {E' : Env} {c : Code} (hs : SubE E' E) (h : St P n D E' w c Q) : St P n D E w c Q := fun a ha => h a (ha.sub hs)

theorem Jm_seq (h : St P n D E w c2 Q) {Q' : Exit → Act → World → Prop} : Jm n D E w .normal (Exit.then (fun a w => c2.wp P Q a w) Q') := h
theorem Jm_then_exit {K : Act → World → Prop} {id : Nat} (h : Jm n D E w (.exit id) Q) : Jm n D E w (.exit id) (Exit.then K Q) := h
theorem Jm_then_ret {K : Act → World → Prop} (h : Jm n D E w .ret Q) : Jm n D E w .ret (Exit.then K Q) := h
theorem Jm_block_normal {id : Nat} (h : Jm n D E w .normal Q) : Jm n D E w .normal (Exit.inBlock id Q) := h
theorem Jm_block_ret {id : Nat} (h : Jm n D E w .ret Q) : Jm n D E w .ret (Exit.inBlock id Q) := h
theorem Jm_block_same {id : Nat} (h : Jm n D E w .normal Q) : Jm n D E w (.exit id) (Exit.inBlock id Q) := fun a ha => by
  show (if id = id then Q .normal a w else Q (.exit id) a w)
  rw [if_pos rfl]; exact h a ha
theorem Ls_nil (h : Jm n D E w .normal Q) : Ls P ops n D E w [] Q := fun a ha => wpList_nil (h a ha)

/-- A loop: what is known at its head, as a function of a state; a number that each round lowers. -/
theorem St_loop {σ : Type} (En : σ → Env) (Inv : σ → World → Prop) (m : σ → Nat) (s0 : σ) (h0 : Inv s0 w) (hE : SubE (En s0) E)
    (round : ∀ s w, Inv s w → St P n D (En s) w c1 (Exit.then (fun a' w' => ∃ s', Good n D (En s') a' ∧ Inv s' w' ∧ m s' < m s) Q)) : St P n D E w (.loop c1) Q := fun a ha => by
  let I : Nat → Act → World → Prop := fun k a w => ∃ s, Good n D (En s) a ∧ Inv s w ∧ m s = k
  refine wp_loop_ghost I (m s0) ⟨s0, ha.sub hE, h0, rfl⟩ ?_
  rintro k a w ⟨s, hg, hI, rfl⟩
  refine wp_mono (round s w hI a hg) ?_
  intro e a' w' hq
  cases e with
  | normal =>
    obtain ⟨s', hg', hI', hm⟩ := hq
    exact ⟨m s', hm, s', hg', hI', rfl⟩
  | exit id => exact hq
  | goto l => exact hq
  | ret => exact hq
  | panic ch => exact hq
  | outgrown => exact hq
theorem Jm_round {σ : Type} {En : σ → Env} {Inv : σ → World → Prop} {m : σ → Nat} {s : σ} (s' : σ) (hE : SubE (En s') E) (hI : Inv s' w) (hm : m s' < m s) :
    Jm n D E w .normal (Exit.then (fun a' w' => ∃ s', Good n D (En s') a' ∧ Inv s' w' ∧ m s' < m s) Q) := fun a ha => ⟨s', ha.sub hE, hI, hm⟩

/-! ### The body's ends -/
theorem Calls_body {fn : Func} {f : FuncId} {c : Code} {args : List Value} {R : Ending → World → Prop} (hf : P.funcs[f]? = some fn) (hb : fn.body = some c) (hn : fn.ntmps = n)
    (hl : Nat.ble args.length n = true) (hE : ∀ i v, look E i = some v → args[i]? = some v)
    (h : St P n [] E w c (bodyPost P fn R)) : Calls P f args.toArray w R := by
  refine calls_of_wp hf hb (h _ ⟨?_, rfl, ?_⟩)
  · have := Nat.le_of_ble_eq_true hl
    simp; omega
  · intro i v hi
    have h1 := hE i v hi
    have h2 : i < args.length := (List.getElem?_eq_some_iff.1 h1).1
    simp only [Array.getElem?_append, List.size_toArray, h2, if_true]
    simpa using h1
theorem envE_nil {args : List Value} : ∀ i v, look [] i = some v → args[i]? = some v := fun i v h => by simp [look] at h
theorem Good.tmp {a : Act} (h : Good n D E a) {t : Nat} {v : Value} (hx : look E t = some v) : a.tmps.getD t undef = v := by
  have := h.rep t v hx
  simp [this]
section
variable {fn : Func} {R : Ending → World → Prop}
theorem Jm_end0 (hr : fn.results = #[]) (h : R (.returned (.tuple #[])) w) : Jm n [] E w .normal (bodyPost P fn R) := fun a ha =>
  ⟨ha.defers, _, by simp [results, hr], h⟩
theorem Jm_ret1 {t : Tmp} {v : Value} (hr : fn.results = #[.tmp t]) (hv : look E t = some v) (h : R (.returned v) w) : Jm n [] E w .ret (bodyPost P fn R) := fun a ha =>
  ⟨ha.defers, v, by have := ha.tmp hv; simp [results, hr]; simpa using this, h⟩
theorem Jm_ret2 {t u : Tmp} {v x : Value} (hr : fn.results = #[.tmp t, .tmp u]) (hv : look E t = some v) (hx : look E u = some x) (h : R (.returned (.tuple #[v, x])) w) : Jm n [] E w .ret (bodyPost P fn R) := fun a ha =>
  ⟨ha.defers, _, by have h1 := ha.tmp hv; have h2 := ha.tmp hx; simp only [results, hr]; simp [h1, h2]; exact ⟨by simpa using h1, by simpa using h2⟩, h⟩
theorem Jm_ret3 {t u s : Tmp} {v x y : Value} (hr : fn.results = #[.tmp t, .tmp u, .tmp s]) (hv : look E t = some v) (hx : look E u = some x) (hy : look E s = some y) (h : R (.returned (.tuple #[v, x, y])) w) : Jm n [] E w .ret (bodyPost P fn R) := fun a ha =>
  ⟨ha.defers, _, by have h1 := ha.tmp hv; have h2 := ha.tmp hx; have h3 := ha.tmp hy; simp only [results, hr]; simp [h1, h2, h3]; exact ⟨by simpa using h1, by simpa using h2, by simpa using h3⟩, h⟩
end
end
end Go.Proofs.Ytcifdianinbkeaa.Lg
set_option linter.unusedVariables false
set_option linter.unusedSimpArgs false
namespace Go.Proofs.Ytcifdianinbkeaa.Lg
open Go Go.RowKit

abbrev Heap := Nat → Option Obj
abbrev Assn := Heap → Prop
def Stars : List Assn → Heap → Prop
  | [], h => ∀ b, h b = none
  | A :: L, h => ∃ h1 h2, A h1 ∧ Stars L h2 ∧ (∀ b, h1 b = none ∨ h2 b = none) ∧ ∀ b, h b = (h1 b).or (h2 b)

structure Sat (B w : World) (L : List Assn) : Prop where
  below : Below B.heap.size B w
  own : ∃ h : Heap, Stars L h ∧ ∀ b o, h b = some o → B.heap.size ≤ b ∧ w.heap[b]? = some o

def Is (b : Nat) (o : Obj) : Assn := fun h => ∀ b', h b' = if b' = b then some o else none
def Blk (b : Nat) (cs : List Value) (T : TypeId) : Assn := Is b (.cells cs.toArray T (0, 0))

theorem stars_nil : Stars [] (fun _ => none) := fun _ => rfl
theorem Sat.forget {B w : World} {L : List Assn} (hs : Sat B w L) : Sat B w [] := ⟨hs.below, _, stars_nil, fun b o h => by cases h⟩
theorem Sat.start (w : World) : Sat w w [] := ⟨Below.refl _ _, fun _ => none, fun _ => rfl, fun b o h => by cases h⟩

theorem o_swap1 {x1 x2 x3 x4 : Option Obj} (hd : x1 = none ∨ x2 = none) (he : x2 = x3.or x4) (hd2 : x3 = none ∨ x4 = none) : x3 = none ∨ x1.or x4 = none := by
  subst he; cases x1 <;> cases x3 <;> cases x4 <;> simp_all
theorem o_swap2 {x1 x2 x3 x4 : Option Obj} (hd : x1 = none ∨ x2 = none) (he : x2 = x3.or x4) (hd2 : x3 = none ∨ x4 = none) : x1 = none ∨ x4 = none := by
  subst he; cases x1 <;> cases x3 <;> cases x4 <;> simp_all
theorem o_swap3 {x x1 x2 x3 x4 : Option Obj} (hx : x = x1.or x2) (hd : x1 = none ∨ x2 = none) (he : x2 = x3.or x4) (hd2 : x3 = none ∨ x4 = none) : x = x3.or (x1.or x4) := by
  subst he; subst hx; cases x1 <;> cases x3 <;> cases x4 <;> simp_all
theorem o_join1 {x1 x2 x3 x4 : Option Obj} (hd : x1 = none ∨ x2 = none) (he : x2 = x3.or x4) (hd2 : x3 = none ∨ x4 = none) : x1 = none ∨ x3 = none := by
  subst he; cases x1 <;> cases x3 <;> cases x4 <;> simp_all
theorem o_join2 {x1 x2 x3 x4 : Option Obj} (hd : x1 = none ∨ x2 = none) (he : x2 = x3.or x4) (hd2 : x3 = none ∨ x4 = none) : x1.or x3 = none ∨ x4 = none := by
  subst he; cases x1 <;> cases x3 <;> cases x4 <;> simp_all
theorem o_join3 {x x1 x2 x3 x4 : Option Obj} (hx : x = x1.or x2) (he : x2 = x3.or x4) : x = (x1.or x3).or x4 := by
  subst he; subst hx; cases x1 <;> cases x3 <;> cases x4 <;> rfl
theorem o_split1 {x0 x1 x3 x4 : Option Obj} (hd : x0 = none ∨ x4 = none) (he : x0 = x1.or x3) : x3 = none ∨ x4 = none := by
  subst he; cases x1 <;> cases x3 <;> cases x4 <;> simp_all
theorem o_split2 {x0 x1 x3 x4 : Option Obj} (hd1 : x1 = none ∨ x3 = none) (hd : x0 = none ∨ x4 = none) (he : x0 = x1.or x3) : x1 = none ∨ x3.or x4 = none := by
  subst he; cases x1 <;> cases x3 <;> cases x4 <;> simp_all
theorem o_split3 {x x0 x1 x3 x4 : Option Obj} (hx : x = x0.or x4) (he : x0 = x1.or x3) : x = x1.or (x3.or x4) := by
  subst he; subst hx; cases x1 <;> cases x3 <;> cases x4 <;> rfl
theorem o_app1 {x' x1 x2 y : Option Obj} (he : x' = x1.or x2) (hdis : x' = none ∨ y = none) : x2 = none ∨ y = none := by
  subst he; cases x1 <;> cases x2 <;> cases y <;> simp_all
theorem o_app2 {x' x1 x2 y : Option Obj} (he : x' = x1.or x2) (hd : x1 = none ∨ x2 = none) (hdis : x' = none ∨ y = none) : x1 = none ∨ x2.or y = none := by
  subst he; cases x1 <;> cases x2 <;> cases y <;> simp_all
theorem o_app3 {x' x1 x2 y : Option Obj} (he : x' = x1.or x2) : x'.or y = x1.or (x2.or y) := by
  subst he; cases x1 <;> cases x2 <;> cases y <;> rfl

theorem Stars.swap {A C : Assn} {L : List Assn} {h : Heap} (hs : Stars (A :: C :: L) h) : Stars (C :: A :: L) h := by
  obtain ⟨h1, h2, hA, ⟨h3, h4, hC, hL, hd2, he2⟩, hd, he⟩ := hs
  exact ⟨h3, fun b => (h1 b).or (h4 b), hC, ⟨h1, h4, hA, hL, fun b => o_swap2 (hd b) (he2 b) (hd2 b), fun _ => rfl⟩, fun b => o_swap1 (hd b) (he2 b) (hd2 b), fun b => o_swap3 (he b) (hd b) (he2 b) (hd2 b)⟩

theorem Stars.front : ∀ {L : List Assn} {h : Heap} (i : Nat) {A : Assn}, Stars L h → L[i]? = some A → Stars (A :: L.eraseIdx i) h
  | [], h, i, A, hs, hi => by simp at hi
  | C :: L, h, 0, A, hs, hi => by
    simp at hi; subst hi; exact hs
  | C :: L, h, i + 1, A, hs, hi => by
    obtain ⟨h1, h2, hC, hL, hd, he⟩ := hs
    have := Stars.front (L := L) i hL (by simpa using hi)
    exact Stars.swap (A := C) ⟨h1, h2, hC, this, hd, he⟩

theorem Sat.front {B w : World} {L : List Assn} (hs : Sat B w L) (i : Nat) {A : Assn} (hi : L[i]? = some A) : Sat B w (A :: L.eraseIdx i) := by
  obtain ⟨hb, h, hL, hw⟩ := hs
  exact ⟨hb, h, hL.front i hi, hw⟩

theorem Stars.perm {L M : List Assn} (hp : L.Perm M) : ∀ {h : Heap}, Stars L h → Stars M h := by
  induction hp with
  | nil => exact fun h => h
  | cons A _ ih =>
    rintro h ⟨h1, h2, hA, hL, hd, he⟩
    exact ⟨h1, h2, hA, ih hL, hd, he⟩
  | swap A C L => exact fun h => Stars.swap h
  | trans _ _ ih1 ih2 => exact fun h => ih2 (ih1 h)
theorem Sat.perm {B w : World} {L M : List Assn} (hs : Sat B w L) (hp : L.Perm M) : Sat B w M := by
  obtain ⟨hb, h, hL, hw⟩ := hs
  exact ⟨hb, h, Stars.perm hp hL, hw⟩

theorem Sat.tail {B w : World} {A : Assn} {L : List Assn} (hs : Sat B w (A :: L)) : Sat B w L := by
  obtain ⟨hb, h, ⟨h1, h2, hA, hL, hd, he⟩, hw⟩ := hs
  refine ⟨hb, h2, hL, fun b o hbo => hw b o ?_⟩
  rw [he b]
  rcases hd b with h' | h'
  · rw [h', hbo]; rfl
  · rw [h'] at hbo; cases hbo

theorem Sat.erase {B w : World} {L : List Assn} (hs : Sat B w L) (i : Nat) : Sat B w (L.eraseIdx i) := by
  cases h : L[i]? with
  | none =>
    have : L.length ≤ i := by simpa using h
    rw [List.eraseIdx_of_length_le this]; exact hs
  | some A => exact (hs.front i h).tail

/-- The first part: what it is, and that the world bears it. -/
theorem Sat.head {B w : World} {A : Assn} {L : List Assn} (hs : Sat B w (A :: L)) : ∃ h1, A h1 ∧ ∀ b o, h1 b = some o → B.heap.size ≤ b ∧ w.heap[b]? = some o := by
  obtain ⟨hb, h, ⟨h1, h2, hA, hL, hd, he⟩, hw⟩ := hs
  refine ⟨h1, hA, fun b o hbo => hw b o ?_⟩
  rw [he b, hbo]; rfl

theorem Sat.imp {B w : World} {A A' : Assn} {L : List Assn} (hs : Sat B w (A :: L)) (h : ∀ h1, A h1 → A' h1) : Sat B w (A' :: L) := by
  obtain ⟨hb, h0, ⟨h1, h2, hA, hL, hd, he⟩, hw⟩ := hs
  exact ⟨hb, h0, ⟨h1, h2, h _ hA, hL, hd, he⟩, hw⟩

theorem Sat.ex {B w : World} {σ : Type} {A : σ → Assn} {L : List Assn} (hs : Sat B w ((fun h => ∃ s, A s h) :: L)) : ∃ s, Sat B w (A s :: L) := by
  obtain ⟨hb, h0, ⟨h1, h2, ⟨s, hA⟩, hL, hd, he⟩, hw⟩ := hs
  exact ⟨s, hb, h0, ⟨h1, h2, hA, hL, hd, he⟩, hw⟩
theorem Sat.pure {B w : World} {p : Prop} {A : Assn} {L : List Assn} (hs : Sat B w ((fun h => p ∧ A h) :: L)) : p ∧ Sat B w (A :: L) := by
  obtain ⟨hb, h0, ⟨h1, h2, ⟨hp, hA⟩, hL, hd, he⟩, hw⟩ := hs
  exact ⟨hp, hb, h0, ⟨h1, h2, hA, hL, hd, he⟩, hw⟩
/-- Two parts as one. -/
def And2 (A C : Assn) : Assn := fun h => Stars [A, C] h
theorem Stars.split {A C : Assn} {L : List Assn} {h : Heap} (hs : Stars (And2 A C :: L) h) : Stars (A :: C :: L) h := by
  obtain ⟨h0, h4, ⟨h1, h2, hA, ⟨h3, h5, hC, h5n, hd3, he3⟩, hd1, he1⟩, hL, hd, he⟩ := hs
  have e2 : ∀ b, h2 b = h3 b := fun b => by
    have : h5 b = none := h5n b
    rw [he3 b, this]; simp
  have he1' : ∀ b, h0 b = (h1 b).or (h3 b) := fun b => by rw [he1 b, e2 b]
  have hd1' : ∀ b, h1 b = none ∨ h3 b = none := fun b => by have := hd1 b; rw [e2 b] at this; exact this
  exact ⟨h1, fun b => (h3 b).or (h4 b), hA, ⟨h3, h4, hC, hL, fun b => o_split1 (hd b) (he1' b), fun b => rfl⟩, fun b => o_split2 (hd1' b) (hd b) (he1' b), fun b => o_split3 (he b) (he1' b)⟩
theorem Sat.split {B w : World} {A C : Assn} {L : List Assn} (hs : Sat B w (And2 A C :: L)) : Sat B w (A :: C :: L) := by
  obtain ⟨hb, h, hL, hw⟩ := hs
  exact ⟨hb, h, hL.split, hw⟩

/-- What happens to the first part alone. -/
theorem Sat.step {B w w' : World} {A A' : Assn} {L : List Assn} (hs : Sat B w (A :: L)) (hos : w'.os = w.os) (htape : w'.tape = w.tape) (hout : w'.output = w.output) (hsz : w.heap.size ≤ w'.heap.size)
    (h : ∀ h1, A h1 → (∀ b o, h1 b = some o → B.heap.size ≤ b ∧ w.heap[b]? = some o) → ∃ h1', A' h1' ∧
      (∀ b o, h1' b = some o → (h1 b ≠ none ∨ w.heap.size ≤ b) ∧ w'.heap[b]? = some o) ∧ (∀ b, b < w.heap.size → h1 b = none → w'.heap[b]? = w.heap[b]?)) : Sat B w' (A' :: L) := by
  obtain ⟨hb, h0, ⟨h1, h2, hA, hL, hd, he⟩, hw⟩ := hs
  have hw1 : ∀ b o, h1 b = some o → B.heap.size ≤ b ∧ w.heap[b]? = some o := fun b o hbo => hw b o (by rw [he b, hbo]; rfl)
  have hw2 : ∀ b o, h2 b = some o → B.heap.size ≤ b ∧ w.heap[b]? = some o := fun b o hbo => hw b o (by
    rw [he b]
    rcases hd b with h' | h'
    · rw [h', hbo]; rfl
    · rw [h'] at hbo; cases hbo)
  obtain ⟨h1', hA', hn, hk⟩ := h h1 hA hw1
  have hlt : ∀ b o, h2 b = some o → b < w.heap.size := fun b o hbo => (Array.getElem?_eq_some_iff.1 (hw2 b o hbo).2).1
  have hdis : ∀ b, h1' b = none ∨ h2 b = none := by
    intro b
    cases h1b : h1' b with
    | none => exact .inl rfl
    | some o =>
      right
      cases h2b : h2 b with
      | none => rfl
      | some o2 =>
        rcases (hn b o h1b).1 with hne | hge
        · rcases hd b with h' | h'
          · exact absurd h' hne
          · rw [h'] at h2b; cases h2b
        · have := hlt b o2 h2b; omega
  refine ⟨hb.trans ⟨hos, htape, hout, hsz, fun b hlt' => ?_⟩, fun b => (h1' b).or (h2 b), ⟨h1', h2, hA', hL, hdis, fun _ => rfl⟩, ?_⟩
  · cases h1b : h1 b with
    | none => exact hk b (Nat.lt_of_lt_of_le hlt' hb.size) h1b
    | some o => have := (hw1 b o h1b).1; omega
  · intro b o hbo
    cases h1b : h1' b with
    | some o1 =>
      simp only [h1b, Option.some_or, Option.some.injEq] at hbo
      subst hbo
      have hh := hn b o1 h1b
      refine ⟨?_, hh.2⟩
      rcases hh.1 with hne | hge
      · cases h1b' : h1 b with
        | none => exact absurd h1b' hne
        | some o' => exact (hw1 b o' h1b').1
      · have := hb.size; omega
    | none =>
      simp only [h1b, Option.none_or] at hbo
      have h2' := hw2 b o hbo
      refine ⟨h2'.1, ?_⟩
      rcases hd b with h' | h'
      · rw [hk b (hlt b o hbo) h']; exact h2'.2
      · rw [h'] at hbo; cases hbo

/-- Nothing of what is owned is touched; the rest may grow. -/
theorem Sat.grow {B w w' : World} {L : List Assn} (hs : Sat B w L) (hb' : Below w.heap.size w w') : Sat B w' L := by
  obtain ⟨hb, h, hL, hw⟩ := hs
  refine ⟨hb.trans (hb'.mono hb.size), h, hL, fun b o hbo => ?_⟩
  obtain ⟨h1, h2⟩ := hw b o hbo
  exact ⟨h1, by rw [hb'.block b (Array.getElem?_eq_some_iff.1 h2).1]; exact h2⟩

/-- A callee's own, laid beside. -/
theorem Sat.trans {B w w' : World} {L M : List Assn} (hs : Sat B w L) (hs' : Sat w w' M) : Sat B w' (M ++ L) := by
  have hg := hs.grow hs'.below
  obtain ⟨hb, h, hL, hw⟩ := hs
  obtain ⟨hb', h', hM, hw'⟩ := hs'
  have app : ∀ (M : List Assn) (h' : Heap), Stars M h' → (∀ b, h' b = none ∨ h b = none) → Stars (M ++ L) (fun b => (h' b).or (h b)) := by
    intro M
    induction M with
    | nil =>
      intro h' hM _
      have : (fun b => (h' b).or (h b)) = h := by funext b; rw [hM b]; simp
      rw [this]; exact hL
    | cons A M ih =>
      rintro h' ⟨h1, h2, hA, hM, hd, he⟩ hdis
      exact ⟨h1, fun b => (h2 b).or (h b), hA, ih h2 hM (fun b => o_app1 (he b) (hdis b)), fun b => o_app2 (he b) (hd b) (hdis b), fun b => o_app3 (he b)⟩
  have hdis : ∀ b, h' b = none ∨ h b = none := fun b => by
    cases h1 : h' b with
    | none => exact .inl rfl
    | some o =>
      right
      cases h2 : h b with
      | none => rfl
      | some o2 =>
        have a1 := (hw' b o h1).1
        have a2 := (Array.getElem?_eq_some_iff.1 (hw b o2 h2).2).1
        omega
  refine ⟨hg.below, _, app M h' hM hdis, fun b o hbo => ?_⟩
  cases h1 : h' b with
  | some o1 =>
    simp only [h1, Option.some_or, Option.some.injEq] at hbo
    subst hbo
    have := hw' b o1 h1
    exact ⟨by have := hb.size; omega, this.2⟩
  | none =>
    simp only [h1, Option.none_or] at hbo
    have h2 := hw b o hbo
    exact ⟨h2.1, by rw [hb'.block b (Array.getElem?_eq_some_iff.1 h2.2).1]; exact h2.2⟩

theorem Sat.alloc {B w : World} {L : List Assn} (hs : Sat B w L) (o : Obj) : Sat B (w.alloc o) (Is w.heap.size o :: L) := by
  have h1 : Sat w (w.alloc o) [Is w.heap.size o] := by
    refine ⟨(Below.refl _ _).alloc (Nat.le_refl _) o, fun b => if b = w.heap.size then some o else none, ⟨_, fun _ => none, fun b => rfl, fun _ => rfl, fun b => .inr rfl, fun b => by simp⟩, fun b o' hb => ?_⟩
    by_cases h : b = w.heap.size
    · subst h
      simp at hb
      subst hb
      exact ⟨Nat.le_refl _, by show (w.heap.push o)[w.heap.size]? = some o; simp⟩
    · simp [h] at hb
  exact hs.trans h1

theorem Sat.is_get {B w : World} {b : Nat} {o : Obj} {L : List Assn} (hs : Sat B w (Is b o :: L)) : B.heap.size ≤ b ∧ w.heap[b]? = some o := by
  obtain ⟨h1, hA, hw⟩ := hs.head
  exact hw b o (by rw [hA b]; simp)
theorem Sat.is_at {B w : World} {b : Nat} {o : Obj} {L : List Assn} (hs : Sat B w L) (i : Nat) (hi : L[i]? = some (Is b o)) : B.heap.size ≤ b ∧ w.heap[b]? = some o := (hs.front i hi).is_get

/-! ### Rows of cells: read -/
/-- A slice's address and length, and the cells that it shows. -/
structure Rd (w : World) (A : Option Addr) (n c size : Nat) (xs : List Value) : Prop where
  len : xs.length = n * size
  cap : n ≤ c
  cells : 0 < n → ∃ b off, A = some ⟨b, off, none⟩ ∧ b < w.heap.size ∧ ∀ j u, xs[j]? = some u → w.cell? ⟨b, off + j, none⟩ = some u
  nil : A = none → c = 0

theorem Rd.none (w : World) (size : Nat) : Rd w none 0 0 size [] := ⟨by simp, by omega, fun h => by omega, fun _ => rfl⟩
theorem Rd.grow {w w' : World} {A : Option Addr} {n c size : Nat} {xs : List Value} (h : Rd w A n c size xs) (hb : Below w.heap.size w w') : Rd w' A n c size xs :=
  ⟨h.len, h.cap, fun hn => by
    obtain ⟨b, off, e, hlt, hc⟩ := h.cells hn
    exact ⟨b, off, e, Nat.lt_of_lt_of_le hlt hb.size, fun j u hj => (hb.cell (p := ⟨b, off + j, Option.none⟩) hlt).trans (hc j u hj)⟩, h.nil⟩
theorem Rd.inB {B w : World} {A : Option Addr} {n c size : Nat} {xs : List Value} {L : List Assn} (h : Rd B A n c size xs) (hs : Sat B w L) : Rd w A n c size xs := h.grow hs.below
/-- The world's heap alone matters. -/
theorem cell?_heap {w w' : World} (h : w'.heap = w.heap) (a : Addr) : w'.cell? a = w.cell? a := by simp [World.cell?, h]
theorem Rd.heap {w w' : World} {A : Option Addr} {n c size : Nat} {xs : List Value} (h : Rd w A n c size xs) (e : w'.heap = w.heap) : Rd w' A n c size xs :=
  ⟨h.len, h.cap, fun hn => by
    obtain ⟨b, off, e1, hlt, hc⟩ := h.cells hn
    exact ⟨b, off, e1, by rw [e]; exact hlt, fun j u hj => (cell?_heap e _).trans (hc j u hj)⟩, h.nil⟩
theorem Rd.take {w : World} {A : Option Addr} {n c size : Nat} {xs : List Value} (h : Rd w A n c size xs) (i : Nat) (hi : i ≤ n) : Rd w A i c size (xs.take (i * size)) :=
  ⟨by rw [List.length_take, h.len]; have := Nat.mul_le_mul_right size hi; omega, Nat.le_trans hi h.cap, fun hp => by
    obtain ⟨b, off, e, hlt, hc⟩ := h.cells (by omega)
    exact ⟨b, off, e, hlt, fun j u hj => hc j u (by rw [List.getElem?_take] at hj; split at hj <;> simp_all)⟩, h.nil⟩
theorem Rd.drop {w : World} {A : Option Addr} {n c size : Nat} {xs : List Value} (h : Rd w A n c size xs) (i : Nat) (hi : i ≤ n) :
    Rd w (if c = i then A else A.map (·.add (i * size))) (n - i) (c - i) size (xs.drop (i * size)) := by
  refine ⟨by rw [List.length_drop, h.len, Nat.sub_mul], by have := h.cap; omega, fun hp => ?_, fun hnone => ?_⟩
  · obtain ⟨b, off, rfl, hlt, hc⟩ := h.cells (by omega)
    have := h.cap
    rw [if_neg (by omega)]
    refine ⟨b, off + i * size, ?_, hlt, fun j u hj => ?_⟩
    · simp only [Option.map_some, Addr.add]
      split
      · rename_i h0; rw [h0]; simp
      · rfl
    · rw [List.getElem?_drop] at hj
      rw [Nat.add_assoc]
      exact hc _ u hj
  · split at hnone
    · omega
    · cases A with
      | none => have := h.nil rfl; omega
      | some a => simp at hnone

/-- A block that lies there whole. -/
theorem rd_block {w : World} {b : Nat} {cs : List Value} {T : TypeId} {fr : Nat × Nat} (h : w.heap[b]? = some (.cells cs.toArray T fr)) (size n : Nat) (hn : cs.length = n * size) : Rd w (some ⟨b, 0, none⟩) n n size cs :=
  ⟨hn, Nat.le_refl _, fun _ => ⟨b, 0, rfl, (Array.getElem?_eq_some_iff.1 h).1, fun j u hj => by simp [World.cell?, h, hj]⟩, fun h => by cases h⟩

/-! ### Rows of cells: owned -/
def Own (T : TypeId) (size : Nat) (v : Value) (n : Nat) (xs : List Value) : Assn := fun h =>
  xs.length = n * size ∧ ((v = .slice none 0 0 ∧ n = 0 ∧ ∀ b, h b = none) ∨
    ∃ g cap cur, v = .slice (some ⟨g, 0, none⟩) n cap ∧ n ≤ cap ∧ cap ≤ maxLen ∧ cur.size = cap * size ∧ cur.toList.take (n * size) = xs ∧ Is g (.cells cur T (0, 0)) h)

theorem Sat.owns {B w : World} {T : TypeId} {size : Nat} {v : Value} {n : Nat} {xs : List Value} {L : List Assn} (hs : Sat B w (Own T size v n xs :: L)) : w.ownsRow B.heap.size T size v n xs := by
  obtain ⟨h1, ⟨hl, hA⟩, hw⟩ := hs.head
  refine ⟨hl, ?_⟩
  rcases hA with ⟨rfl, rfl, _⟩ | ⟨g, cap, cur, rfl, h2, h3, h4, h5, hi⟩
  · exact .inl ⟨rfl, rfl⟩
  · have := hw g _ (by rw [hi g]; simp; rfl)
    exact .inr ⟨g, cap, cur, rfl, this.1, this.2, h2, h3, h4, h5⟩

theorem Sat.own_form {B w : World} {T : TypeId} {size : Nat} {v : Value} {n : Nat} {xs : List Value} {L : List Assn} (hs : Sat B w (Own T size v n xs :: L)) : ∃ A c, v = .slice A n c ∧ n ≤ c ∧ c ≤ maxLen ∧ (A = none → c = 0) := by
  obtain ⟨h1, ⟨hl, hA⟩, hw⟩ := hs.head
  rcases hA with ⟨rfl, rfl, _⟩ | ⟨g, cap, cur, rfl, h2, h3, _⟩
  · exact ⟨none, 0, rfl, by omega, by simp [maxLen], fun _ => rfl⟩
  · exact ⟨_, cap, rfl, h2, h3, fun h => by cases h⟩

theorem Sat.rd {B w : World} {T : TypeId} {size : Nat} {A : Option Addr} {n c : Nat} {xs : List Value} {L : List Assn} (hs : Sat B w (Own T size (.slice A n c) n xs :: L)) : Rd w A n c size xs := by
  obtain ⟨h1, ⟨hl, hA⟩, hw⟩ := hs.head
  rcases hA with ⟨h, rfl, _⟩ | ⟨g, cap, cur, h, h2, h3, h4, h5, hi⟩
  · cases h
    have : xs = [] := by simpa using hl
    subst this
    exact Rd.none w size
  · cases h
    have := hw g _ (by rw [hi g]; simp; rfl)
    refine ⟨hl, h2, fun _ => ⟨g, 0, rfl, (Array.getElem?_eq_some_iff.1 this.2).1, fun j u hj => ?_⟩, fun h => by cases h⟩
    rw [← h5, List.getElem?_take] at hj
    split at hj
    · simp [World.cell?, this.2]; simpa using hj
    · cases hj
theorem Sat.rd_at {B w : World} {T : TypeId} {size : Nat} {A : Option Addr} {n c : Nat} {xs : List Value} {L : List Assn} (hs : Sat B w L) (i : Nat) (hi : L[i]? = some (Own T size (.slice A n c) n xs)) : Rd w A n c size xs := (hs.front i hi).rd

/-- Behind a law that ends in 'ownsRow' and 'grownBy' (append). -/
theorem Sat.regrown {B w w' : World} {T : TypeId} {size : Nat} {v v' : Value} {n n' : Nat} {xs xs' : List Value} {L : List Assn} (hs : Sat B w (Own T size v n xs :: L))
    (hown : w'.ownsRow B.heap.size T size v' n' xs') (hg : w.grownBy w' v.ownBlock) (hat : v'.ownBlock = v.ownBlock ∨ v'.ownBlock = some w.heap.size) : Sat B w' (Own T size v' n' xs' :: L) := by
  refine hs.step hg.os hg.tape hg.output hg.size ?_
  rintro h1 ⟨hl, hA⟩ hw
  have hkeep : ∀ b, b < w.heap.size → h1 b = none → w'.heap[b]? = w.heap[b]? := by
    intro b hlt hn
    refine hg.block b hlt fun e => ?_
    rcases hA with ⟨rfl, _⟩ | ⟨g, cap, cur, rfl, h2, h3, h4, h5, hi⟩
    · cases e
    · simp [Value.ownBlock] at e
      subst e
      rw [hi b] at hn
      simp at hn
  obtain ⟨hl', hA'⟩ := hown
  rcases hA' with ⟨rfl, rfl⟩ | ⟨g', cap', cur', rfl, hB, hh, h2', h3', h4', h5'⟩
  · exact ⟨fun _ => none, ⟨hl', .inl ⟨rfl, rfl, fun _ => rfl⟩⟩, ⟨fun b o h => (by cases h), hkeep⟩⟩
  · refine ⟨fun b => if b = g' then some (.cells cur' T (0, 0)) else none, ⟨hl', .inr ⟨g', cap', cur', rfl, h2', h3', h4', h5', fun _ => rfl⟩⟩, ⟨fun b o hbo => ?_, hkeep⟩⟩
    by_cases hb : b = g'
    · subst hb
      simp at hbo
      subst hbo
      refine ⟨?_, hh⟩
      rcases hat with hat | hat
      · left
        rcases hA with ⟨rfl, _⟩ | ⟨g, cap, cur, rfl, h2, h3, h4, h5, hi⟩
        · simp [Value.ownBlock] at hat
        · simp [Value.ownBlock] at hat
          subst hat
          rw [hi b]; simp
      · simp [Value.ownBlock] at hat
        right; omega
    · simp [hb] at hbo

/-- Nothing is owned of a nil slice. -/
theorem Sat.own_nil {B w : World} {L : List Assn} (hs : Sat B w L) (T : TypeId) (size : Nat) : Sat B w (Own T size (.slice none 0 0) 0 [] :: L) := by
  obtain ⟨hb, h, hL, hw⟩ := hs
  exact ⟨hb, h, ⟨fun _ => none, h, ⟨by simp, .inl ⟨rfl, rfl, fun _ => rfl⟩⟩, hL, fun b => .inl rfl, fun b => by simp⟩, hw⟩
/-- A block made whole is a row of one's own. -/
theorem Sat.own_block {B w : World} {L : List Assn} {b : Nat} {cs : List Value} {T : TypeId} (hs : Sat B w (Blk b cs T :: L)) (size n : Nat) (hl : cs.length = n * size) (hn : n ≤ maxLen) : Sat B w (Own T size (.slice (some ⟨b, 0, none⟩) n n) n cs :: L) :=
  hs.imp fun h1 hA => ⟨hl, .inr ⟨b, n, cs.toArray, rfl, Nat.le_refl _, hn, by simpa using hl, by rw [← hl]; simp, hA⟩⟩

/-- The same heap (draws alone). -/
structure Quiet (w w' : World) : Prop where
  heap : w'.heap = w.heap
  os : w'.os = w.os
  tape : w'.tape = w.tape
  output : w'.output = w.output
theorem Quiet.refl (w : World) : Quiet w w := ⟨rfl, rfl, rfl, rfl⟩
theorem Quiet.trans {a b c : World} (h : Quiet a b) (k : Quiet b c) : Quiet a c := ⟨k.heap.trans h.heap, k.os.trans h.os, k.tape.trans h.tape, k.output.trans h.output⟩
theorem Quiet.below {w w' : World} (h : Quiet w w') : Below w.heap.size w w' := ⟨h.os, h.tape, h.output, by rw [h.heap]; exact Nat.le_refl _, fun k _ => by rw [h.heap]⟩
theorem Sat.quiet {B w w' : World} {L : List Assn} (hs : Sat B w L) (h : Quiet w w') : Sat B w' L := hs.grow h.below
end Go.Proofs.Ytcifdianinbkeaa.Lg
set_option linter.unusedVariables false
set_option linter.unusedSimpArgs false
namespace Go.Proofs.Ytcifdianinbkeaa.Lg
open Go Go.RowKit

/-- The operation yields v; the world is w' then. -/
def RunO (P : Program) (E : Env) (op : Op) (ty : TypeId) (w : World) (v : Value) (w' : World) : Prop :=
  ∀ n D a dst ps af g, Good n D E a → (execOp a.eval ⟨dst, op, ty, ps, af, g⟩).run P w = .ok (.value v) w'
/-- The operation yields nothing. -/
def RunS (P : Program) (E : Env) (op : Op) (ty : TypeId) (w : World) (w' : World) : Prop :=
  ∀ n D a dst ps af g, Good n D E a → (execOp a.eval ⟨dst, op, ty, ps, af, g⟩).run P w = .ok .skip w'

section
variable {P : Program} {ops : Array Oper} {n : Nat} {D : List Deferred} {E : Env} {w w' : World} {Q : Exit → Act → World → Prop} {rest : List Oper} {ty : TypeId} {ps : String} {af : Array Edge} {op : Op} {d : Nat} {v : Value}

theorem wpList_val {o : Oper} {a : Act} (hg : o.guard = none) (hr : (execOp a.eval o).run P w = .ok (.value v) w') (h : wpList P ops Q rest (a.put o.dst v) w') : wpList P ops Q (o :: rest) a w := by
  refine wpList_plain hg fun K hK => ?_
  unfold Oper.wp
  rw [hr]
  exact hK _ _ h
theorem Ls_run (hr : RunO P E op ty w v w') (hd : Nat.blt d n = true) (h : Ls P ops n D ((d, v) :: E) w' rest Q) : Ls P ops n D E w (⟨some d, op, ty, ps, af, none⟩ :: rest) Q := fun a ha =>
  wpList_val rfl (hr n D a _ _ _ _ ha) (h _ (ha.put hd v))
theorem Ls_skip0 (hr : RunS P E op ty w w') (h : Ls P ops n D E w' rest Q) : Ls P ops n D E w (⟨none, op, ty, ps, af, none⟩ :: rest) Q := fun a ha => by
  refine wpList_plain rfl fun K hK => ?_
  unfold Oper.wp
  rw [hr n D a _ _ _ _ ha]
  exact hK _ _ (h _ (ha.putNone undef))

/-! Guards -/
theorem Ls_on {dst : Option Tmp} {j : Nat} {want : Bool} {t : Tmp} (hj : (ops[j]?).bind (·.dst) = some t) (hv : look E t = some (.bool want))
    (h : Ls P ops n D E w (⟨dst, op, ty, ps, af, none⟩ :: rest) Q) : Ls P ops n D E w (⟨dst, op, ty, ps, af, some (j, want)⟩ :: rest) Q := fun a ha => by
  have hw : Region.wanted (⟨dst, op, ty, ps, af, some (j, want)⟩ : Oper) (yielded ops a.tmps) = true := by
    simp [Region.wanted, yielded, hj, ha.rep t _ hv]
  have h1 := h a ha
  unfold wpList at h1 ⊢
  rw [if_pos hw]
  rw [if_pos (by simp [Region.wanted])] at h1
  exact h1
theorem Ls_off {j : Nat} {want b : Bool} {t : Tmp} (hj : (ops[j]?).bind (·.dst) = some t) (hv : look E t = some (.bool b)) (hb : (b == want) = false) (hd : Nat.blt d n = true)
    (h : Ls P ops n D ((d, undef) :: E) w rest Q) : Ls P ops n D E w (⟨some d, op, ty, ps, af, some (j, want)⟩ :: rest) Q := fun a ha => by
  have hw : Region.wanted (⟨some d, op, ty, ps, af, some (j, want)⟩ : Oper) (yielded ops a.tmps) = false := by
    simp [Region.wanted, yielded, hj, ha.rep t _ hv]
    simpa using hb
  exact wpList_skip hw (h _ (ha.put hd undef))
/-- Skipped again: the guard's own operation was skipped. -/
theorem Ls_off' {j : Nat} {want : Bool} {t : Tmp} (hj : (ops[j]?).bind (·.dst) = some t) (hv : look E t = some undef) (hd : Nat.blt d n = true)
    (h : Ls P ops n D ((d, undef) :: E) w rest Q) : Ls P ops n D E w (⟨some d, op, ty, ps, af, some (j, want)⟩ :: rest) Q := fun a ha => by
  have hw : Region.wanted (⟨some d, op, ty, ps, af, some (j, want)⟩ : Oper) (yielded ops a.tmps) = false := by
    simp [Region.wanted, yielded, hj, ha.rep t _ hv, undef]
  exact wpList_skip hw (h _ (ha.put hd undef))
/-- The truth of a slot, parted. -/
theorem Ls_part {l : List Oper} {t : Tmp} {b : Bool} (hv : look E t = some (.bool b)) (h1 : b = true → Ls P ops n D ((t, .bool true) :: E) w l Q) (h2 : b = false → Ls P ops n D ((t, .bool false) :: E) w l Q) : Ls P ops n D E w l Q := fun a ha => by
  have up : ∀ c : Bool, b = c → Good n D ((t, .bool c) :: E) a := by
    intro c hc
    subst hc
    refine ⟨ha.size, ha.defers, fun i u hi => ?_⟩
    by_cases e : t = i
    · subst e; rw [look_eq rfl] at hi; cases hi; exact ha.rep t _ hv
    · rw [look_ne e] at hi; exact ha.rep i u hi
  cases hb : b with
  | true => exact h1 hb a (up true hb)
  | false => exact h2 hb a (up false hb)

/-! Calls -/
theorem enters {f : FuncId} {fn : Func} (hf : P.funcs[f]? = some fn) (hname : (fn.name == "runtime.NumGoroutine") = false) (hb : fn.body.isSome = true) (args : Array Value) (w : World) :
    (callFunc f args).run P w = .ok (.enter f args) w := by
  have h1 : ¬ fn.name = "runtime.NumGoroutine" := fun h => by rw [h] at hname; simp at hname
  have h2 : ¬ fn.body = none := fun h => by rw [h] at hb; simp at hb
  simp only [callFunc, Sem.run_bind, run_program, Result.andThen_ok, hf]
  rw [if_neg (by simpa using h1), if_neg (by simpa using h2)]
  rfl
theorem Ls_call {f : FuncId} {fn : Func} {xs : List Operand} {ts : Array TypeId} {args : List Value} {Φ : Value → World → Prop}
    (hf : P.funcs[f]? = some fn) (hname : (fn.name == "runtime.NumGoroutine") = false) (hb : fn.body.isSome = true) (hx : evs E xs = some args)
    (hc : Calls P f args.toArray w (Ret Φ)) (hd : Nat.blt d n = true) (h : ∀ v w', Φ v w' → Ls P ops n D ((d, v) :: E) w' rest Q) :
    Ls P ops n D E w (⟨some d, .call { callee := .value (.func f), args := xs.toArray, argTypes := ts }, ty, ps, af, none⟩ :: rest) Q := fun a ha => by
  have hargs : xs.toArray.map a.eval = args.toArray := by
    rw [List.map_toArray, ha.evals hx]
  refine wpList_plain rfl fun K hK => ?_
  have he := enters hf hname hb args.toArray w
  have hrun : (execOp a.eval ⟨some d, .call { callee := .value (.func f), args := xs.toArray, argTypes := ts }, ty, ps, af, none⟩).run P w = .ok (.enter f args.toArray) w := by
    unfold execOp
    simp only [resolve, Deferred.ofValue, Act.eval, hargs, Sem.run_bind, Sem.run_pure, Result.andThen_ok, invoke]
    simpa using he
  unfold Oper.wp
  rw [hrun, Oper.upon_enter]
  refine hc.mono fun e w'' hh => ?_
  obtain ⟨u, rfl, hu⟩ := hh
  exact hK _ _ (h u w'' hu _ (ha.put hd u))
/-! ### Values alone -/
variable {x y z : Operand} {k k' : IntKind} {a b r : Int} {t t' : TypeId}
theorem run_move (hx : ev E x = some v) : RunO P E (.move x) ty w v w := fun n D a dst ps af g ha => by simp [execOp, ha.eval hx]
theorem run_assign (hx : ev E x = some v) : RunO P E (.assign x) ty w v w := fun n D a dst ps af g ha => by simp [execOp, ha.eval hx]
theorem run_pick_t (hx : ev E x = some (.bool true)) (hy : ev E y = some v) : RunO P E (.pick x y z) ty w v w := fun n D a dst ps af g ha => by
  simp [execOp, ha.eval hx, ha.eval hy, asBool]
theorem run_pick_f (hx : ev E x = some (.bool false)) (hz : ev E z = some v) : RunO P E (.pick x y z) ty w v w := fun n D a dst ps af g ha => by
  simp [execOp, ha.eval hx, ha.eval hz, asBool]
theorem run_extract {vs : List Value} {i : Nat} (hx : ev E x = some (.tuple vs.toArray)) (hv : vs[i]? = some v) : RunO P E (.extract x i) ty w v w := fun n D a dst ps af g ha => by
  simp [execOp, ha.eval hx, Instr.extract, hv]
theorem run_not {c : Bool} (hx : ev E x = some (.bool c)) : RunO P E (.unOp .not t x) ty w (.bool (!c)) w := fun n D a dst ps af g ha => by
  simp [execOp, ha.eval hx, Op.unary]
theorem run_add (hx : ev E x = some (.int k a)) (hy : ev E y = some (.int k b)) (hr : k.wrap (a + b) = r) : RunO P E (.binOp .add t x y t') ty w (.int k r) w := fun n D a dst ps af g ha => by
  simp [execOp, ha.eval hx, ha.eval hy, eqGuard, binOp, Op.intArith, hr]
theorem run_sub (hx : ev E x = some (.int k a)) (hy : ev E y = some (.int k b)) (hr : k.wrap (a - b) = r) : RunO P E (.binOp .sub t x y t') ty w (.int k r) w := fun n D a dst ps af g ha => by
  simp [execOp, ha.eval hx, ha.eval hy, eqGuard, binOp, Op.intArith, hr]
theorem run_mul (hx : ev E x = some (.int k a)) (hy : ev E y = some (.int k b)) (hr : k.wrap (a * b) = r) : RunO P E (.binOp .mul t x y t') ty w (.int k r) w := fun n D a dst ps af g ha => by
  simp [execOp, ha.eval hx, ha.eval hy, eqGuard, binOp, Op.intArith, hr]
theorem run_rem (hx : ev E x = some (.int k a)) (hy : ev E y = some (.int k b)) (h0 : b ≠ 0) (hr : a.tmod b = r) : RunO P E (.binOp .rem t x y t') ty w (.int k r) w := fun n D a dst ps af g ha => by
  simp [execOp, ha.eval hx, ha.eval hy, eqGuard, binOp, Op.intDiv, hr, h0]
theorem run_bits {o : BinOp} (ho : o = .and ∨ o = .or ∨ o = .xor ∨ o = .andNot) (hx : ev E x = some (.int k a)) (hy : ev E y = some (.int k b)) (hr : bits o k a b = r) : RunO P E (.binOp o t x y t') ty w (.int k r) w := fun n D a dst ps af g ha => by
  subst hr
  rcases ho with rfl | rfl | rfl | rfl <;> simp [execOp, ha.eval hx, ha.eval hy, eqGuard, binOp, Op.intBits, bits]
theorem run_shl (hx : ev E x = some (.int k a)) (hy : ev E y = some (.int k' b)) (h0 : 0 ≤ b) (hr : k.wrap (a * 2 ^ min b.toNat k.bits) = r) : RunO P E (.binOp .shl t x y t') ty w (.int k r) w := fun n D a dst ps af g ha => by
  simp [execOp, ha.eval hx, ha.eval hy, eqGuard, binOp, shift_shl_any _ _ _ _ h0, hr]
theorem run_shr (hx : ev E x = some (.int k a)) (hy : ev E y = some (.int k' b)) (h0 : 0 ≤ b) (hr : a / 2 ^ min b.toNat k.bits = r) : RunO P E (.binOp .shr t x y t') ty w (.int k r) w := fun n D a dst ps af g ha => by
  simp [execOp, ha.eval hx, ha.eval hy, eqGuard, binOp, shift_shr_any _ _ _ _ h0, hr]
theorem run_lss (hx : ev E x = some (.int k a)) (hy : ev E y = some (.int k b)) : RunO P E (.binOp .lss t x y t') ty w (.bool (decide (a < b))) w := fun n D a dst ps af g ha => by
  simp [execOp, ha.eval hx, ha.eval hy, eqGuard, binOp, Op.intCmp]
theorem run_leq (hx : ev E x = some (.int k a)) (hy : ev E y = some (.int k b)) : RunO P E (.binOp .leq t x y t') ty w (.bool (decide (a ≤ b))) w := fun n D a dst ps af g ha => by
  simp [execOp, ha.eval hx, ha.eval hy, eqGuard, binOp, Op.intCmp]
theorem run_gtr (hx : ev E x = some (.int k a)) (hy : ev E y = some (.int k b)) : RunO P E (.binOp .gtr t x y t') ty w (.bool (decide (b < a))) w := fun n D a dst ps af g ha => by
  simp [execOp, ha.eval hx, ha.eval hy, eqGuard, binOp, Op.intCmp]
theorem run_geq (hx : ev E x = some (.int k a)) (hy : ev E y = some (.int k b)) : RunO P E (.binOp .geq t x y t') ty w (.bool (decide (b ≤ a))) w := fun n D a dst ps af g ha => by
  simp [execOp, ha.eval hx, ha.eval hy, eqGuard, binOp, Op.intCmp]
theorem run_eql (hx : ev E x = some (.int k a)) (hy : ev E y = some (.int k b)) : RunO P E (.binOp .eql t x y t') ty w (.bool (decide (a = b))) w := fun n D a' dst ps af g ha => by
  have : (a == b) = decide (a = b) := by rw [Bool.eq_iff_iff]; simp
  simp [execOp, ha.eval hx, ha.eval hy, eqGuard, binOp, Op.intCmp, this]
theorem run_neq (hx : ev E x = some (.int k a)) (hy : ev E y = some (.int k b)) : RunO P E (.binOp .neq t x y t') ty w (.bool (decide (a ≠ b))) w := fun n D a' dst ps af g ha => by
  have : (a != b) = decide (a ≠ b) := by rw [Bool.eq_iff_iff]; simp
  simp [execOp, ha.eval hx, ha.eval hy, eqGuard, binOp, Op.intCmp, this]
theorem run_eql_slice_nil {A : Option Addr} {l c : Nat} {e : TypeId} (ht : P.underlying t = some (.slice e)) (hx : ev E x = some (.slice A l c)) (hy : ev E y = some (.slice none 0 0)) : RunO P E (.binOp .eql t x y t') ty w (.bool A.isNone) w := fun n D a' dst ps af g ha => by
  simp [execOp, ha.eval hx, ha.eval hy, eqGuard, binOp, run_equal_slice_nil w t e A l c ht]
theorem run_eql_ptr_nil {p : Option Addr} (ht : P.underlying t = some (.pointer (P.pointee t))) (hx : ev E x = some (.pointer p)) (hy : ev E y = some (.pointer none)) : RunO P E (.binOp .eql t x y t') ty w (.bool p.isNone) w := fun n D a' dst ps af g ha => by
  have := Go.run_eql_pointer_nil (P := P) w t p ht
  simp [execOp, ha.eval hx, ha.eval hy, eqGuard, this]
theorem run_neq_ptr_nil {p : Option Addr} (ht : P.underlying t = some (.pointer (P.pointee t))) (hx : ev E x = some (.pointer p)) (hy : ev E y = some (.pointer none)) : RunO P E (.binOp .neq t x y t') ty w (.bool (!p.isNone)) w := fun n D a' dst ps af g ha => by
  have := Go.run_neq_pointer_nil (P := P) w t p ht
  simp [execOp, ha.eval hx, ha.eval hy, eqGuard, this]
theorem run_conv_int (ht : P.underlying t' = some (.int k)) (hs : (P.underlying t).isSome = true) (hx : ev E x = some (.int k' a)) (hr : k.wrap a = r) : RunO P E (.convert t t' x) ty w (.int k r) w := fun n D a' dst ps af g ha => by
  obtain ⟨u, hu⟩ := Option.isSome_iff_exists.1 hs
  subst hr
  simp [execOp, ha.eval hx, convert, run_underlying ht, run_underlying hu, Conv.intToInt]
theorem run_len {A : Option Addr} {l c : Nat} {e : TypeId} (ht : P.underlying t = some (.slice e)) (hx : ev E x = some (.slice A l c)) :
    RunO P E (.call { callee := .builtin .len, args := #[x], argTypes := #[t] }) ty w (.int .i64 l) w := fun n D a' dst ps af g ha => by
  simp [execOp, resolve, invoke, builtin, ha.eval hx, Builtin.len_, run_underlying ht, goInt]
theorem run_cap {A : Option Addr} {l c : Nat} {e : TypeId} (ht : P.underlying t = some (.slice e)) (hx : ev E x = some (.slice A l c)) :
    RunO P E (.call { callee := .builtin .cap, args := #[x], argTypes := #[t] }) ty w (.int .i64 c) w := fun n D a' dst ps af g ha => by
  simp [execOp, resolve, invoke, builtin, ha.eval hx, Builtin.cap_, run_underlying ht, goInt]
/-! Places -/
def Inf (P : Program) (e : TypeId) (z : Value) (size bytes : Nat) : Prop := ∃ i, P.info? e = some i ∧ i.zero = some z ∧ i.size = size ∧ i.bytes = bytes
theorem Inf.mk' {e : TypeId} {z : Value} {size bytes : Nat} (h : (P.info? e).map (fun i => (i.zero, i.size, i.bytes)) = some (some z, size, bytes)) : Inf P e z size bytes := by
  obtain ⟨i, hi, hh⟩ := Option.map_eq_some_iff.1 h
  simp only [Prod.mk.injEq] at hh
  exact ⟨i, hi, hh.1, hh.2.1, hh.2.2⟩
theorem Inf.sizeOf {e : TypeId} {zv : Value} {size bytes : Nat} (h : Inf P e zv size bytes) (w : World) : (sizeOf e).run P w = .ok size w := by
  obtain ⟨i, hi, _, hs, _⟩ := h
  simp [Go.sizeOf, typeInfo, hi, hs]
theorem run_index {A : Option Addr} {l c e size bytes : Nat} {zv : Value} {i : Int} {b off : Nat} (ht : P.underlying t = some (.slice e)) (hi : Inf P e zv size bytes) (hx : ev E x = some (.slice A l c)) (hy : ev E y = some (.int k i))
    (hA : A = some ⟨b, off, none⟩) (h0 : 0 ≤ i) (h1 : i < l) : RunO P E (.indexAddr t x y) ty w (.pointer (some ⟨b, off + i.toNat * size, none⟩)) w := fun n D a' dst ps af g ha => by
  subst hA
  have := hi.sizeOf (P := P) w
  have e1 : (⟨b, off, none⟩ : Addr).add (i.toNat * size) = ⟨b, off + i.toNat * size, none⟩ := Addr.add_lit ..
  simp [execOp, ha.eval hx, ha.eval hy, Instr.indexAt, asIntOf, run_underlying ht, h0, h1, this, e1]
theorem run_index_arr {l e size bytes : Nat} {zv : Value} {i : Int} {b off : Nat} (ht : P.underlying t = some (.array l e)) (hi : Inf P e zv size bytes) (hx : ev E x = some (.pointer (some ⟨b, off, none⟩))) (hy : ev E y = some (.int k i))
    (h0 : 0 ≤ i) (h1 : i < l) : RunO P E (.indexAddr t x y) ty w (.pointer (some ⟨b, off + i.toNat * size, none⟩)) w := fun n D a' dst ps af g ha => by
  have := hi.sizeOf (P := P) w
  have e1 : (⟨b, off, none⟩ : Addr).add (i.toNat * size) = ⟨b, off + i.toNat * size, none⟩ := Addr.add_lit ..
  simp [execOp, ha.eval hx, ha.eval hy, Instr.indexAt, asIntOf, run_underlying ht, h0, h1, this, e1, Instr.sureAddr]
theorem run_field {fs : Array Field} {f : Field} {i b off size bytes : Nat} {zv : Value} (ht : P.underlying t = some (.struct fs)) (hf : fs[i]? = some f) (hi : Inf P f.type zv size bytes) (h0 : size ≠ 0) (hx : ev E x = some (.pointer (some ⟨b, off, none⟩))) :
    RunO P E (.fieldAddr t x i) ty w (.pointer (some ⟨b, off + f.offset, none⟩)) w := fun n D a' dst ps af g ha => by
  have := hi.sizeOf (P := P) w
  have e1 : (⟨b, off, none⟩ : Addr).add f.offset = ⟨b, off + f.offset, none⟩ := Addr.add_lit ..
  simp [execOp, ha.eval hx, Instr.fieldAt, run_underlying ht, hf, Instr.sureAddr, fieldPlace, this, h0, e1]
/-- Not a struct, not an array. -/
def Scalar (P : Program) (t : TypeId) : Prop := ∃ d, P.underlying t = some d ∧ (∀ fs, d ≠ .struct fs) ∧ (∀ n e, d ≠ .array n e)
theorem Scalar.isAgg {t : TypeId} (h : Scalar P t) (w : World) : (isAgg t).run P w = .ok false w := by
  obtain ⟨d, hd, h1, h2⟩ := h
  simp only [Go.isAgg, Sem.run_bind, run_underlying hd, Result.andThen_ok]
  cases d with
  | struct fs => exact absurd rfl (h1 _)
  | array n e => exact absurd rfl (h2 _ _)
  | _ => rfl
theorem run_load {p : Addr} (ht : Scalar P t) (hx : ev E x = some (.pointer (some p))) (hc : w.cell? p = some v) : RunO P E (.load t x) ty w v w := fun n D a' dst ps af g ha => by
  have := ht.isAgg w
  simp [execOp, ha.eval hx, Instr.loadAt, Instr.sureAddr, loadVar, this, hc]
theorem isAgg_agg {t : TypeId} (h : (∃ fs, P.underlying t = some (.struct fs)) ∨ (∃ n e, P.underlying t = some (.array n e))) (w : World) : (isAgg t).run P w = .ok true w := by
  rcases h with ⟨fs, h⟩ | ⟨n, e, h⟩ <;> simp [Go.isAgg, run_underlying h]
theorem run_load_agg {b off size bytes : Nat} {zv : Value} {cs : List Value} (ht : (∃ fs, P.underlying t = some (.struct fs)) ∨ (∃ n e, P.underlying t = some (.array n e))) (hi : Inf P t zv size bytes) (hx : ev E x = some (.pointer (some ⟨b, off, none⟩)))
    (hl : cs.length = size) (hc : ∀ j u, cs[j]? = some u → w.cell? ⟨b, off + j, none⟩ = some u) : RunO P E (.load t x) ty w (.agg cs.toArray) w := fun n D a' dst ps af g ha => by
  have h1 := isAgg_agg ht w
  have h2 := hi.sizeOf (P := P) w
  have h3 := run_loadCells_list (P := P) w ⟨b, off, none⟩ cs (fun j u hj => by rw [Addr.add_lit]; exact hc j u hj)
  subst hl
  simp [execOp, ha.eval hx, Instr.loadAt, Instr.sureAddr, loadVar, h1, h2, h3]
theorem run_slice_l {A : Option Addr} {l c e size bytes : Nat} {zv : Value} {i : Int} {k : IntKind} (ht : P.underlying t = some (.slice e)) (hi : Inf P e zv size bytes) (hx : ev E x = some (.slice A l c)) (hy : ev E y = some (.int k i))
    (h0 : 0 ≤ i) (h1 : i ≤ l) : RunO P E (.slice t x (some y) none none) ty w (.slice (if c = i.toNat then A else A.map (·.add (i.toNat * size))) (l - i.toNat) (c - i.toNat)) w := fun n D a' dst ps af g ha => by
  have hel : P.elem t = e := by simp [Program.elem, ht]
  have hu : P.underlying t = some (.slice (P.elem t)) := by rw [hel]; exact ht
  have h3 := hi.sizeOf (P := P) w
  simp [execOp, ha.eval hx, ha.eval hy, run_sliceAt_slice w t _ _ _ _ hu, Go.run_slice_l w t A l c hu k i h0 h1, hel, h3, sliced, Result.andThen]
theorem run_slice_h {A : Option Addr} {l c e size bytes : Nat} {zv : Value} {j : Int} {k : IntKind} (ht : P.underlying t = some (.slice e)) (hi : Inf P e zv size bytes) (hx : ev E x = some (.slice A l c)) (hz : ev E z = some (.int k j))
    (h0 : 0 ≤ j) (h2 : j ≤ c) : RunO P E (.slice t x none (some z) none) ty w (.slice A j.toNat c) w := fun n D a' dst ps af g ha => by
  have hel : P.elem t = e := by simp [Program.elem, ht]
  have hu : P.underlying t = some (.slice (P.elem t)) := by rw [hel]; exact ht
  have h3 := hi.sizeOf (P := P) w
  have h4 : (if c = 0 then A else A.map (·.add (0 * size))) = A := by
    split
    · rfl
    · cases A <;> simp [Addr.add]
  simp [execOp, ha.eval hx, ha.eval hz, run_sliceAt_slice w t _ _ _ _ hu, Go.run_slice_h w t A l c hu k j h0 h2, hel, h3, sliced, Result.andThen]
  simpa using h4

/-! Strings out of bytes -/
def bytesV (l : List Int) : List Value := l.map fun x => .int .u8 x
theorem bytesV_length (l : List Int) : (bytesV l).length = l.length := by simp [bytesV]
def IsBytes (l : List Int) : Prop := ∀ x ∈ l, 0 ≤ x ∧ x ≤ 255
end
end Go.Proofs.Ytcifdianinbkeaa.Lg
set_option linter.unusedVariables false
set_option linter.unusedSimpArgs false
namespace Go.Proofs.Ytcifdianinbkeaa.Lg
open Go Go.RowKit

theorem Sat.set_cell {B w : World} {b : Nat} {cs : List Value} {T : TypeId} {L : List Assn} (hs : Sat B w (Blk b cs T :: L)) (off : Nat) (v : Value) : Sat B (w.setCell ⟨b, off, none⟩ v) (Blk b (cs.set off v) T :: L) := by
  have hg := hs.is_get
  refine hs.step rfl rfl rfl (by simp [World.setCell]) ?_
  intro h1 hA hw
  refine ⟨fun b' => if b' = b then some (.cells (cs.set off v).toArray T (0, 0)) else none, fun _ => rfl, ⟨fun b1 o1 hb1 => ?_, fun b1 hlt hn => ?_⟩⟩
  · by_cases hbb : b1 = b
    · subst hbb
      simp at hb1
      subst hb1
      refine ⟨.inl (by rw [hA b1]; simp), ?_⟩
      simp only [World.setCell]
      rw [Array.getElem?_modify]
      simp [hg.2, List.setIfInBounds_toArray]
    · simp [hbb] at hb1
  · have : b1 ≠ b := fun e => by subst e; rw [hA b1] at hn; simp at hn
    exact Below.heap_setCell _ _ _ _ this

theorem Sat.set_own {B w : World} {T g n c : Nat} {xs : List Value} {L : List Assn} (hs : Sat B w (Own T 1 (.slice (some ⟨g, 0, none⟩) n c) n xs :: L)) (i : Nat) (v : Value) :
    Sat B (w.setCell ⟨g, i, none⟩ v) (Own T 1 (.slice (some ⟨g, 0, none⟩) n c) n (xs.set i v) :: L) := by
  have ho := hs.owns
  have h1 := ho.stored i v
  exact hs.regrown h1.1 (by simpa [Value.ownBlock] using h1.2) (.inl rfl)

/-- What stands in an own row's cell may be written. -/
theorem Sat.own_cell {B w : World} {T g n c : Nat} {xs : List Value} {L : List Assn} (hs : Sat B w (Own T 1 (.slice (some ⟨g, 0, none⟩) n c) n xs :: L)) (i : Nat) (hi : i < n) : (∃ u, w.cell? ⟨g, i, none⟩ = some u) ∧ w.frozen? ⟨g, i, none⟩ = false := by
  obtain ⟨h1, ⟨hl, hA⟩, hw⟩ := hs.head
  rcases hA with ⟨h, _⟩ | ⟨g', cap, cur, h, h2, h3, h4, h5, hh⟩
  · cases h
  · cases h
    have := (hw g _ (by rw [hh g]; simp; rfl)).2
    refine ⟨⟨cur[i]'(by omega), ?_⟩, by simp [World.frozen?, this]⟩
    have hi' : i < cur.size := by omega
    simp [World.cell?, this, hi']
theorem Sat.blk_cell {B w : World} {b T : Nat} {cs : List Value} {L : List Assn} (hs : Sat B w (Blk b cs T :: L)) (i : Nat) {u : Value} (hi : cs[i]? = some u) : w.cell? ⟨b, i, none⟩ = some u ∧ w.frozen? ⟨b, i, none⟩ = false := by
  have := hs.is_get.2
  exact ⟨by simp [World.cell?, this, hi], by simp [World.frozen?, this]⟩
theorem Sat.blk_at {B w : World} {b T : Nat} {cs : List Value} {L : List Assn} (hs : Sat B w L) (j : Nat) (hj : L[j]? = some (Blk b cs T)) (i : Nat) {u : Value} (hi : cs[i]? = some u) : w.cell? ⟨b, i, none⟩ = some u := ((hs.front j hj).blk_cell i hi).1
/-- A block's cells, from off on. -/
theorem Sat.blk_cells {B w : World} {b T : Nat} {cs : List Value} {L : List Assn} (hs : Sat B w L) (j : Nat) (hj : L[j]? = some (Blk b cs T)) (off m : Nat) : ∀ i u, ((cs.drop off).take m)[i]? = some u → w.cell? ⟨b, off + i, none⟩ = some u := by
  intro i u hi
  refine hs.blk_at j hj (off + i) ?_
  rw [List.getElem?_take] at hi
  split at hi
  · rwa [List.getElem?_drop] at hi
  · cases hi

section
variable {P : Program} {ops : Array Oper} {n : Nat} {D : List Deferred} {E : Env} {B w : World} {L : List Assn} {Q : Exit → Act → World → Prop} {rest : List Oper} {ty : TypeId} {ps : String} {af : Array Edge} {op : Op} {d : Nat} {v : Value} {x y s : Operand} {e t : TypeId}

theorem Ls_box (hs : Sat B w L) (hx : ev E x = some v) (hd : Nat.blt d n = true)
    (h : ∀ b w', Sat B w' (Blk b v.cells.toList e :: L) → Ls P ops n D ((d, .pointer (some ⟨b, 0, none⟩)) :: E) w' rest Q) : Ls P ops n D E w (⟨some d, .box e x, ty, ps, af, none⟩ :: rest) Q := by
  have hal := hs.alloc (.cells v.cells e (0, 0))
  refine Ls_run (v := .pointer (some ⟨w.heap.size, 0, none⟩)) (w' := w.alloc (.cells v.cells e (0, 0))) ?_ hd (h _ _ hal)
  intro n D a dst ps af g ha
  simp [execOp, ha.eval hx, Instr.box, newVar, newRow]
theorem Ls_alloc {z : Value} {size bytes : Nat} (hs : Sat B w L) (hi : Inf P e z size bytes) (hd : Nat.blt d n = true)
    (h : ∀ b w', Sat B w' (Blk b z.cells.toList e :: L) → Ls P ops n D ((d, .pointer (some ⟨b, 0, none⟩)) :: E) w' rest Q) : Ls P ops n D E w (⟨some d, .alloc e, ty, ps, af, none⟩ :: rest) Q := by
  have hal := hs.alloc (.cells z.cells e (0, 0))
  obtain ⟨i, hi1, hi2, _, _⟩ := hi
  refine Ls_run (v := .pointer (some ⟨w.heap.size, 0, none⟩)) (w' := w.alloc (.cells z.cells e (0, 0))) ?_ hd (h _ _ hal)
  intro n D a dst ps af g ha
  simp [execOp, Instr.alloc, newVar, newRow, zeroValue, typeInfo, hi1, hi2]
theorem evp_map {E : Env} {n : Nat} {D : List Deferred} {a : Act} (ha : Good n D E a) : ∀ {parts : List (Nat × Operand)} {pv : List (Nat × Value)}, parts.map (fun p => (p.1, ev E p.2)) = pv.map (fun p => (p.1, some p.2)) → parts.map (fun p => (p.1, a.eval p.2)) = pv
  | [], pv, h => by
    cases pv with
    | nil => rfl
    | cons q pv => simp at h
  | p :: parts, pv, h => by
    cases pv with
    | nil => simp at h
    | cons q pv =>
      simp only [List.map_cons, List.cons.injEq, Prod.mk.injEq] at h
      obtain ⟨⟨h1, h2⟩, h3⟩ := h
      rw [List.map_cons, evp_map ha h3, ha.eval h2, h1]
/-- A slice's literal: its cells. -/
theorem Ls_buildSlice {z : Value} {size bytes len : Nat} {parts : List (Nat × Operand)} {pv : List (Nat × Value)} {cells : List Value} (hs : Sat B w L) (ht : P.underlying t = some (.slice e)) (hi : Inf P e z size bytes)
    (hp : parts.map (fun p => (p.1, ev E p.2)) = pv.map (fun p => (p.1, some p.2))) (hlen : Nat.ble (len * size) 16777216 = true)
    (hc : Instr.fill (fun i => some (i * size, size)) (if len * size = 0 then #[] else (Array.range (len * size)).map (z.cells[· % z.cells.size]!)) pv = some cells.toArray) (hd : Nat.blt d n = true)
    (h : ∀ b w', Sat B w' (Blk b cells e :: L) → Ls P ops n D ((d, .slice (some ⟨b, 0, none⟩) len len) :: E) w' rest Q) : Ls P ops n D E w (⟨some d, .buildSlice t len parts.toArray, ty, ps, af, none⟩ :: rest) Q := by
  have hal := hs.alloc (.cells cells.toArray e (0, 0))
  have hsz := hi.sizeOf (P := P) w
  obtain ⟨i, hi1, hi2, hi3, _⟩ := hi
  refine Ls_run (v := .slice (some ⟨w.heap.size, 0, none⟩) len len) (w' := w.alloc (.cells cells.toArray e (0, 0))) ?_ hd (h _ _ hal)
  intro n D a dst ps af g ha
  have hpv := evp_map ha hp
  have hle : ¬ len * size > 2 ^ 24 := by have := Nat.le_of_ble_eq_true hlen; omega
  by_cases h0 : len * size = 0
  · rw [if_pos h0] at hc
    have hc' : Instr.fill (fun i => some (i * size, size)) ((Array.range (len * size)).map ((#[] : Array Value)[· % (#[] : Array Value).size]!)) pv = some cells.toArray := by
      rw [← hc, h0]; congr 1; simp [Array.range]
    simp only [execOp, List.map_toArray, hpv, Instr.buildSlice, Sem.run_bind, run_underlying ht, Result.andThen_ok, hsz, if_neg hle, if_pos h0, Sem.run_pure, hc']
    rfl
  · rw [if_neg h0] at hc
    simp only [execOp, List.map_toArray, hpv, Instr.buildSlice, Sem.run_bind, run_underlying ht, Result.andThen_ok, hsz, if_neg hle, if_neg h0, zeroValue, typeInfo, run_program, hi1, hi2, Sem.run_pure, hc]
    rfl
theorem Ls_make {z : Value} {bytes m : Nat} {k k' : IntKind} (hs : Sat B w L) (ht : P.underlying t = some (.slice e)) (hi : (P.info? e).map (fun i => (i.zero, i.size, i.bytes)) = some (some z, 1, bytes)) (hz1 : z.cells = #[z])
    (hx : ev E x = some (.int k (m : Int))) (hy : ev E y = some (.int k' (m : Int))) (hb : bytes * m ≤ 281474976710656) (h63 : m ≤ 9223372036854775807) (hd : Nat.blt d n = true)
    (h : ∀ b w', Sat B w' (Own e 1 (.slice (some ⟨b, 0, none⟩) m m) m (List.replicate m z) :: L) → Ls P ops n D ((d, .slice (some ⟨b, 0, none⟩) m m) :: E) w' rest Q) : Ls P ops n D E w (⟨some d, .makeSlice t x y, ty, ps, af, none⟩ :: rest) Q := by
  have hrun := run_make_row' (P := P) t e z bytes ht hi hz1 k k' m hb h63 w
  have hcells : madeCells #[z] m = (List.replicate m z).toArray := by
    apply Array.ext
    · simp [madeCells]
    · intro i h1 h2
      simp [madeCells, Nat.mod_one]
  have hal := hs.alloc (.cells (madeCells #[z] m) e (0, 0))
  rw [hcells] at hal hrun
  have hown := Sat.own_block (b := w.heap.size) (cs := List.replicate m z) (T := e) hal 1 m (by simp) (by simp only [maxLen]; omega)
  refine Ls_run (v := .slice (some ⟨w.heap.size, 0, none⟩) m m) (w' := w.alloc (.cells (List.replicate m z).toArray e (0, 0))) ?_ hd (h _ _ hown)
  intro n D a dst ps af g ha
  simp only [execOp, ha.eval hx, ha.eval hy, Sem.run_bind, hrun, Result.andThen_ok]
  rfl

theorem run_append_sat {z : Value} {size bytes nn m c : Nat} {xs ys : List Value} {A : Option Addr} (ty : TypeId) (hs : Sat B w (Own e size v nn xs :: L)) (ht : P.underlying t = some (.slice e)) (hi : Inf P e z size bytes) (hz1 : z.cells.size = size) (hsz : 0 < size) (hby : 0 < bytes)
    (hr : Rd w A m c size ys) (h1 : ∀ u ∈ ys, u.oneCell' = true) (hl : (nn + m) * bytes ≤ 140737488355328) :
    ∃ A' c' w', (Builtin.append_ #[t, t] ty #[v, .slice A m c]).run P w = .ok (.slice A' (nn + m) c') w' ∧ Sat B w' (Own e size (.slice A' (nn + m) c') (nn + m) (xs ++ ys) :: L) := by
  have hnm : nn + m ≤ 140737488355328 := Nat.le_trans (Nat.le_mul_of_pos_right _ hby) hl
  have hbase : B.heap.size ≤ w.heap.size := hs.below.size
  have key : ∃ v' w', (Builtin.append_ #[t, t] ty #[v, .slice A m c]).run P w = .ok v' w' ∧ Sat B w' (Own e size v' (nn + m) (xs ++ ys) :: L) := by
    obtain ⟨i, hi1, hi2, hi3, hi4⟩ := hi
    rcases A with _ | ad
    · have h0 : m = 0 := by
        rcases Nat.eq_zero_or_pos m with h0 | h0
        · exact h0
        · obtain ⟨b, off, h, _⟩ := hr.cells h0
          cases h
      subst h0
      have hys : ys = [] := by have := hr.len; simpa using this
      subst hys
      refine ⟨v, w, ?_, by simpa using hs⟩
      have ho := hs.owns
      rcases ho.2 with ⟨rfl, hn⟩ | ⟨g, cap, cur, rfl, _, _, hnc, _⟩
      · simp [Builtin.append_, run_underlying ht, sizeOf, typeInfo, hi1, Builtin.lenOf, Builtin.firstCells]
      · simp [Builtin.append_, run_underlying ht, sizeOf, typeInfo, hi1, Builtin.lenOf, Builtin.firstCells, hnc, storeCells]
    · have hcells : ∀ j u, ys[j]? = some u → w.cell? (ad.add j) = some u := by
        intro j u hu
        have hj : j < ys.length := (List.getElem?_eq_some_iff.1 hu).1
        have hm : 0 < m := by
          rcases Nat.eq_zero_or_pos m with h0 | h0
          · have := hr.len; rw [h0] at this; simp at this; rw [this] at hj; simp at hj
          · exact h0
        obtain ⟨b, off, h, _, hc⟩ := hr.cells hm
        cases h
        rw [Addr.add_lit]
        exact hc j u hu
      obtain ⟨v1, w1, hrun, h2, h3, _, h5⟩ := run_append_own_at (P := P) w B.heap.size t ty e i z size bytes ht hi1 hi2 hi3 hi4 hz1 hsz v nn xs hs.owns ad m c ys hr.len hcells h1 (by simp only [maxLen]; omega) hl hbase
      exact ⟨v1, w1, hrun, hs.regrown h2 h3 h5⟩
  obtain ⟨v', w', hrun, hs'⟩ := key
  obtain ⟨A', c', rfl, _, _, _⟩ := hs'.own_form
  exact ⟨A', c', w', hrun, hs'⟩
theorem Ls_append {z : Value} {size bytes nn m c : Nat} {xs ys : List Value} {A : Option Addr} (hs : Sat B w (Own e size v nn xs :: L)) (ht : P.underlying t = some (.slice e)) (hi : Inf P e z size bytes) (hz1 : z.cells.size = size) (hsz : 0 < size) (hby : 0 < bytes)
    (hx : ev E s = some v) (hy : ev E x = some (.slice A m c)) (hr : Rd w A m c size ys) (h1 : ∀ u ∈ ys, u.oneCell' = true) (hl : (nn + m) * bytes ≤ 140737488355328) (hd : Nat.blt d n = true)
    (h : ∀ A' c' w', Sat B w' (Own e size (.slice A' (nn + m) c') (nn + m) (xs ++ ys) :: L) → Ls P ops n D ((d, .slice A' (nn + m) c') :: E) w' rest Q) :
    Ls P ops n D E w (⟨some d, .call { callee := .builtin .append, args := #[s, x], argTypes := #[t, t] }, ty, ps, af, none⟩ :: rest) Q := by
  obtain ⟨A', c', w', hrun, hs'⟩ := run_append_sat (P := P) ty hs ht hi hz1 hsz hby hr h1 hl
  refine Ls_run (v := .slice A' (nn + m) c') (w' := w') ?_ hd (h A' c' w' hs')
  intro n D a dst ps af g ha
  simp only [execOp, resolve, invoke, builtin, Sem.run_bind, Sem.run_pure, Result.andThen_ok, List.map_toArray, List.map_cons, List.map_nil, ha.eval hx, ha.eval hy, hrun]

theorem run_storeVar1 {p : Addr} {z u : Value} {bytes : Nat} (hi : Inf P t z 1 bytes) (hv : v.oneCell' = true) (hc : w.cell? p = some u) (hf : w.frozen? p = false) : (storeVar t p v).run P w = .ok () (w.setCell p v) := by
  have h1 := hi.sizeOf (P := P) w
  have h2 : v.cells = #[v] := by cases v <;> first | rfl | simp [Value.oneCell'] at hv
  have h3 := Go.run_store P w p v .plain hv
  rw [hc] at h3
  simp only [hf] at h3
  have h4 : p.add 0 = p := by simp [Addr.add]
  simp only [storeVar, Sem.run_bind, h1, Result.andThen_ok, h2]
  simp [storeCells, h4, h3]
theorem Ls_store {b off T bytes : Nat} {cs : List Value} {z : Value} (hs : Sat B w (Blk b cs T :: L)) (hi : Inf P t z 1 bytes) (hx : ev E x = some (.pointer (some ⟨b, off, none⟩))) (hy : ev E y = some v) (hv : v.oneCell' = true) (hoff : Nat.blt off cs.length = true)
    (h : ∀ w', Sat B w' (Blk b (cs.set off v) T :: L) → Ls P ops n D E w' rest Q) : Ls P ops n D E w (⟨none, .store t x y, ty, ps, af, none⟩ :: rest) Q := by
  have hlt : off < cs.length := Nat.le_of_ble_eq_true hoff
  have hc := hs.blk_cell off (List.getElem?_eq_getElem hlt)
  refine Ls_skip0 (w' := w.setCell ⟨b, off, none⟩ v) ?_ (h _ (hs.set_cell off v))
  intro n D a dst ps af g ha
  have := run_storeVar1 (P := P) hi hv hc.1 hc.2
  simp [execOp, ha.eval hx, ha.eval hy, Instr.storeAt, Instr.sureAddr, this]
/-- A store into a row of one's own. -/
theorem Ls_storeOwn {g i T bytes nn c : Nat} {xs : List Value} {z : Value} (hs : Sat B w (Own T 1 (.slice (some ⟨g, 0, none⟩) nn c) nn xs :: L)) (hi : Inf P t z 1 bytes) (hx : ev E x = some (.pointer (some ⟨g, i, none⟩))) (hy : ev E y = some v) (hv : v.oneCell' = true) (hin : i < nn)
    (h : ∀ w', Sat B w' (Own T 1 (.slice (some ⟨g, 0, none⟩) nn c) nn (xs.set i v) :: L) → Ls P ops n D E w' rest Q) : Ls P ops n D E w (⟨none, .store t x y, ty, ps, af, none⟩ :: rest) Q := by
  obtain ⟨⟨u, hc⟩, hf⟩ := hs.own_cell i hin
  refine Ls_skip0 (w' := w.setCell ⟨g, i, none⟩ v) ?_ (h _ (hs.set_own i v))
  intro n D a dst ps af g ha
  have := run_storeVar1 (P := P) hi hv hc hf
  simp [execOp, ha.eval hx, ha.eval hy, Instr.storeAt, Instr.sureAddr, this]
/-- A whole struct stored over a block. -/
theorem Ls_storeAgg {b T size bytes : Nat} {cs us : List Value} {z : Value} (hs : Sat B w (Blk b cs T :: L)) (hi : Inf P t z size bytes) (hx : ev E x = some (.pointer (some ⟨b, 0, none⟩))) (hy : ev E y = some (.agg us.toArray)) (hu : us.length = size) (hc : cs.length = size) (hv : ∀ u ∈ us, u.oneCell' = true)
    (h : ∀ w', Sat B w' (Blk b us T :: L) → Ls P ops n D E w' rest Q) : Ls P ops n D E w (⟨none, .store t x y, ty, ps, af, none⟩ :: rest) Q := by
  have h1 := hi.sizeOf (P := P) w
  have key : ∀ (l : List Value) (i : Nat) (w0 : World) (c0 : List Value), Sat B w0 (Blk b c0 T :: L) → i + l.length = c0.length → (∀ u ∈ l, u.oneCell' = true) →
      ∃ w1, (storeCells ⟨b, 0, none⟩ l i).run P w0 = .ok () w1 ∧ Sat B w1 (Blk b (c0.take i ++ l) T :: L) := by
    intro l
    induction l with
    | nil =>
      intro i w0 c0 hs0 hl _
      exact ⟨w0, by simp [storeCells], by
        have : c0.take i = c0 := List.take_of_length_le (by simp at hl; omega)
        simpa [this] using hs0⟩
    | cons u l ih =>
      intro i w0 c0 hs0 hl hv0
      have hi : i < c0.length := by simp at hl; omega
      have hc := hs0.blk_cell i (List.getElem?_eq_getElem hi)
      have h3 := Go.run_store P w0 ⟨b, i, none⟩ u .plain (hv0 u (by simp))
      rw [hc.1] at h3
      simp only [hc.2] at h3
      obtain ⟨w1, hr1, hs1⟩ := ih (i + 1) _ _ (hs0.set_cell i u) (by simp at hl ⊢; omega) (fun q hq => hv0 q (by simp [hq]))
      refine ⟨w1, ?_, ?_⟩
      · have e1 : (⟨b, 0, none⟩ : Addr).add i = ⟨b, i, none⟩ := by rw [Addr.add_lit]; simp
        simp only [storeCells, Sem.run_bind, e1]
        simp only [h3, Bool.false_eq_true, if_false, Result.andThen_ok]
        exact hr1
      · have e2 : (c0.set i u).take (i + 1) ++ l = c0.take i ++ u :: l := by
          have e3 : (c0.set i u).take i = c0.take i := by
            apply List.ext_getElem?
            intro j
            simp only [List.getElem?_take]
            split
            · rw [List.getElem?_set_ne (by omega)]
            · rfl
          rw [List.take_succ_eq_append_getElem (by simpa using hi), e3]
          simp
        rw [e2] at hs1
        exact hs1
  obtain ⟨w1, hr1, hs1⟩ := key us 0 w cs hs (by omega) hv
  refine Ls_skip0 (w' := w1) ?_ (h w1 (by simpa using hs1))
  intro n D a dst ps af g ha
  have h4 : ¬ us.toArray.size ≠ size := by simp [hu]
  simp only [execOp, ha.eval hx, ha.eval hy, Instr.storeAt, Instr.sureAddr, Sem.run_bind, Sem.run_pure, Result.andThen_ok, storeVar, h1, Value.cells]
  simp only [if_neg h4]
  simp [hr1]
end
end Go.Proofs.Ytcifdianinbkeaa.Lg
set_option linter.unusedVariables false
set_option linter.unusedSimpArgs false
namespace Go.Proofs.Ytcifdianinbkeaa.Lg
open Go Go.RowKit

/-- How an element lies in cells. -/
structure El (α : Type) where
  size : Nat
  enc : α → List Value
  dflt : α
  len : ∀ x, (enc x).length = size
def El.flat {α : Type} (K : El α) (l : List α) : List Value := l.flatMap K.enc
theorem El.flat_append {α : Type} (K : El α) (a b : List α) : K.flat (a ++ b) = K.flat a ++ K.flat b := by simp [El.flat]
theorem El.flat_length {α : Type} (K : El α) (l : List α) : (K.flat l).length = l.length * K.size := by
  induction l with
  | nil => simp [El.flat]
  | cons x l ih =>
    have : K.flat (x :: l) = K.enc x ++ K.flat l := by simp [El.flat]
    rw [this, List.length_append, K.len, ih, List.length_cons, Nat.add_mul, Nat.one_mul, Nat.add_comm]
theorem El.flat_get {α : Type} (K : El α) : ∀ (l : List α) (i : Nat) (hi : i < l.length) (j : Nat) (u : Value), (K.enc l[i])[j]? = some u → (K.flat l)[i * K.size + j]? = some u
  | [], i, hi, j, u, h => by simp at hi
  | x :: l, 0, hi, j, u, h => by
    have e : K.flat (x :: l) = K.enc x ++ K.flat l := by simp [El.flat]
    have hj : j < (K.enc x).length := (List.getElem?_eq_some_iff.1 h).1
    rw [e, Nat.zero_mul, Nat.zero_add, List.getElem?_append_left hj]
    exact h
  | x :: l, i + 1, hi, j, u, h => by
    have e : K.flat (x :: l) = K.enc x ++ K.flat l := by simp [El.flat]
    rw [e, List.getElem?_append_right (by rw [K.len, Nat.add_mul]; omega), K.len]
    have : (i + 1) * K.size + j - K.size = i * K.size + j := by rw [Nat.add_mul]; omega
    rw [this]
    exact El.flat_get K l i (by simpa using hi) j u h
def El.int (k : IntKind) : El Int := ⟨1, fun x => [.int k x], 0, fun _ => rfl⟩
def El.val : El Value := ⟨1, fun v => [v], .slice none 0 0, fun _ => rfl⟩
theorem El.int_flat (k : IntKind) (l : List Int) : (El.int k).flat l = l.map (fun x => .int k x) := by
  induction l with
  | nil => rfl
  | cons x l ih => have e : (El.int k).flat (x :: l) = [.int k x] ++ (El.int k).flat l := by simp [El.flat, El.int]
                   rw [e, ih]; rfl
theorem El.val_flat (l : List Value) : El.val.flat l = l := by
  induction l with
  | nil => rfl
  | cons x l ih => have e : El.val.flat (x :: l) = [x] ++ El.val.flat l := by simp [El.flat, El.val]
                   rw [e, ih]; rfl
theorem bytesV_flat (l : List Int) : bytesV l = (El.int .u8).flat l := (El.int_flat .u8 l).symm
theorem bytesV_append (a b : List Int) : bytesV (a ++ b) = bytesV a ++ bytesV b := by simp [bytesV]
theorem bytesV_drop (l : List Int) (i : Nat) : (bytesV l).drop i = bytesV (l.drop i) := by simp [bytesV]
theorem bytesV_one' (l : List Int) : ∀ u ∈ bytesV l, u.oneCell' = true := by
  intro u hu
  simp [bytesV] at hu
  obtain ⟨x, _, rfl⟩ := hu
  rfl

theorem rdB_drop {w : World} {A : Option Addr} {n c : Nat} {l : List Int} (h : Rd w A n c 1 (bytesV l)) (i : Nat) (hi : i ≤ n) : Rd w (if c = i then A else A.map (·.add (i * 1))) (n - i) (c - i) 1 (bytesV (l.drop i)) := by
  have := h.drop i hi
  have e : (bytesV l).drop (i * 1) = bytesV (l.drop i) := by rw [Nat.mul_one, bytesV_drop]
  rwa [e] at this
theorem rdB_len {w : World} {A : Option Addr} {n c : Nat} {l : List Int} (h : Rd w A n c 1 (bytesV l)) : l.length = n := by
  have := h.len; rw [bytesV_length] at this; omega
theorem w64 {n : Int} (h : -9223372036854775808 ≤ n ∧ n ≤ 9223372036854775807) : IntKind.i64.wrap n = n := by
  rw [IntKind.wrap_i64]; omega
theorem wu64 {n : Int} (h : 0 ≤ n ∧ n < 18446744073709551616) : IntKind.u64.wrap n = n := by
  rw [IntKind.wrap_u64]; omega
theorem wu8 {n : Int} (h : 0 ≤ n ∧ n < 256) : IntKind.u8.wrap n = n := by
  rw [IntKind.wrap_u8]; omega

section
variable {P : Program} {ops : Array Oper} {n : Nat} {D : List Deferred} {E : Env} {B w : World} {L : List Assn} {Q : Exit → Act → World → Prop} {c1 c2 : Code} {rest : List Oper} {ty : TypeId} {ps : String} {af : Array Edge} {op : Op} {d : Nat} {v : Value} {x y s : Operand} {e t t' : TypeId}
theorem St_eqE {E' : Env} {c : Code} (he : E = E') (h : St P n D E' w c Q) : St P n D E w c Q := he ▸ h
theorem St_ift {c : Operand} (hc : ev E c = some (.bool true)) (h1 : St P n D E w c1 Q) : St P n D E w (.cond c c1 c2) Q := fun a ha => wp_cond_true (ha.eval hc) (h1 a ha)
theorem St_iff {c : Operand} (hc : ev E c = some (.bool false)) (h1 : St P n D E w c2 Q) : St P n D E w (.cond c c1 c2) Q := fun a ha => wp_cond_false (ha.eval hc) (h1 a ha)
theorem St_ifN {c : Operand} {p : Prop} [Decidable p] (hc : ev E c = some (.bool (!decide p))) (h1 : ¬ p → St P n D E w c1 Q) (h2 : p → St P n D E w c2 Q) : St P n D E w (.cond c c1 c2) Q :=
  St_if hc (fun hb => h1 (by simpa using hb)) (fun hb => h2 (by simpa using hb))
theorem Ls_partP {l : List Oper} {t : Tmp} {p : Prop} [Decidable p] (hv : look E t = some (.bool (decide p))) (h1 : p → Ls P ops n D ((t, .bool true) :: E) w l Q) (h2 : ¬ p → Ls P ops n D ((t, .bool false) :: E) w l Q) : Ls P ops n D E w l Q :=
  Ls_part hv (fun h => h1 (of_decide_eq_true h)) (fun h => h2 (of_decide_eq_false h))
theorem Ls_partN {l : List Oper} {t : Tmp} {p : Prop} [Decidable p] (hv : look E t = some (.bool (!decide p))) (h1 : ¬ p → Ls P ops n D ((t, .bool true) :: E) w l Q) (h2 : p → Ls P ops n D ((t, .bool false) :: E) w l Q) : Ls P ops n D E w l Q :=
  Ls_part hv (fun h => h1 (by simpa using h)) (fun h => h2 (by simpa using h))
/-- An element of a slice that is read. -/
theorem Ls_index {α : Type} (K : El α) {l : List α} {A : Option Addr} {m c bytes : Nat} {zv : Value} {k : IntKind} {i : Int} (hr : Rd w A m c K.size (K.flat l)) (ht : P.underlying t = some (.slice e)) (hi : Inf P e zv K.size bytes)
    (hx : ev E x = some (.slice A m c)) (hy : ev E y = some (.int k i)) (h0 : 0 ≤ i) (h1 : i < m) {xv : α} (hxv : l.getD i.toNat K.dflt = xv) (hd : Nat.blt d n = true)
    (h : ∀ b off, (∀ j u, (K.enc xv)[j]? = some u → w.cell? ⟨b, off + j, none⟩ = some u) → Ls P ops n D ((d, .pointer (some ⟨b, off, none⟩)) :: E) w rest Q) :
    Ls P ops n D E w (⟨some d, .indexAddr t x y, ty, ps, af, none⟩ :: rest) Q := by
  subst hxv
  obtain ⟨b, off, rfl, _, hc⟩ := hr.cells (by omega)
  have hz : K.size ≠ 0 ∨ K.size = 0 := by omega
  refine Ls_run (run_index ht hi hx hy rfl h0 h1) hd (h b (off + i.toNat * K.size) fun j u hj => ?_)
  have hl := hr.len
  rw [K.flat_length] at hl
  have hj' : j < K.size := by rw [← K.len (l.getD i.toNat K.dflt)]; exact (List.getElem?_eq_some_iff.1 hj).1
  have hlm : l.length = m := by
    have : 0 < K.size := by omega
    exact Nat.eq_of_mul_eq_mul_right this hl
  have hil : i.toNat < l.length := by omega
  rw [Nat.add_assoc]
  refine hc _ u (El.flat_get K l i.toNat hil j u ?_)
  rw [List.getD_eq_getElem?_getD, List.getElem?_eq_getElem hil] at hj
  exact hj
theorem foldl_set (o : Nat) : ∀ (cs pre mid post : List Value) (k : Nat), mid.length = cs.length → pre.length = o + k →
    (cs.zipIdx k).foldl (fun (a : Array Value) (p : Value × Nat) => a.setIfInBounds (o + p.2) p.1) (pre ++ (mid ++ post)).toArray = (pre ++ (cs ++ post)).toArray
  | [], pre, mid, post, k, hm, hp => by
    have : mid = [] := List.eq_nil_of_length_eq_zero hm
    subst this; simp
  | c :: cs, pre, [], post, k, hm, hp => by simp at hm
  | c :: cs, pre, m :: mid, post, k, hm, hp => by
    have ih := foldl_set o cs (pre ++ [c]) mid post (k + 1) (by simpa using hm) (by simp; omega)
    simp only [List.zipIdx_cons, List.foldl_cons]
    have e : (pre ++ (m :: mid ++ post)).toArray.setIfInBounds (o + k) c = (pre ++ [c] ++ (mid ++ post)).toArray := by
      rw [List.setIfInBounds_toArray, ← hp]
      simp
    rw [e, ih]
    simp
theorem fill_seq (size : Nat) : ∀ (vs : List Value) (pre post : List Value) (k : Nat), (∀ v ∈ vs, v.cells.size = size) → pre.length = k * size → post.length = vs.length * size →
    Instr.fill (fun i => some (i * size, size)) (pre ++ post).toArray ((vs.zipIdx k).map fun p => (p.2, p.1)) = some (pre ++ vs.flatMap (fun v => v.cells.toList)).toArray
  | [], pre, post, k, hv, hp, hq => by
    have : post = [] := List.eq_nil_of_length_eq_zero (by simpa using hq)
    subst this; simp [Instr.fill]
  | v :: vs, pre, post, k, hv, hp, hq => by
    have h1 := hv v (by simp)
    have hq' : post.length = size + vs.length * size := by simpa [Nat.add_mul, Nat.add_comm] using hq
    have h2 : (post.take size).length = v.cells.toList.length := by simp [h1]; omega
    have e := foldl_set (k * size) v.cells.toList pre (post.take size) (post.drop size) 0 h2 (by simpa using hp)
    rw [List.take_append_drop] at e
    have e' : v.cells.zipIdx.foldl (fun (cs : Array Value) (x : Value × Nat) => cs.setIfInBounds (k * size + x.2) x.1) (pre ++ post).toArray = (pre ++ (v.cells.toList ++ post.drop size)).toArray := by
      rw [← e, ← Array.foldl_toList, Array.toList_zipIdx]
    have ih := fill_seq size vs (pre ++ v.cells.toList) (post.drop size) (k + 1) (fun u hu => hv u (by simp [hu])) (by simp [h1, hp, Nat.add_mul]) (by simp; omega)
    simp only [List.zipIdx_cons, List.map_cons, Instr.fill]
    have hif : ¬ ((decide (v.cells.size ≠ size) || decide (k * size + v.cells.size > (pre ++ post).toArray.size)) = true) := by
      simp [h1, hp]; omega
    rw [if_neg hif]
    have e3 : (Array.foldl (fun (cs : Array Value) (x : Value × Nat) => match x with | (c, j) => cs.setIfInBounds (k * size + j) c) (pre ++ post).toArray v.cells.zipIdx) = (pre ++ (v.cells.toList ++ post.drop size)).toArray := e'
    rw [e3, ← List.append_assoc, ih]
    simp
/-- A slice's literal, all its elements written out in their order. -/
theorem Ls_literal {z : Value} {size bytes len : Nat} {parts : List (Nat × Operand)} (vs : List Value) (hs : Sat B w L) (ht : P.underlying t = some (.slice e)) (hi : Inf P e z size bytes)
    (hp : parts.map (fun p => (p.1, ev E p.2)) = vs.zipIdx.map (fun p => (p.2, some p.1))) (hv : vs.all (fun v => Nat.beq v.cells.size size) = true) (hz : z.cells.size = size) (hlv : len = vs.length) (hlen : Nat.ble (len * size) 16777216 = true) (hd : Nat.blt d n = true)
    (h : ∀ b w', Sat B w' (Blk b (vs.flatMap (fun v => v.cells.toList)) e :: L) → Ls P ops n D ((d, .slice (some ⟨b, 0, none⟩) len len) :: E) w' rest Q) : Ls P ops n D E w (⟨some d, .buildSlice t len parts.toArray, ty, ps, af, none⟩ :: rest) Q := by
  have hv' : ∀ v ∈ vs, v.cells.size = size := fun v hvv => by
    have := List.all_eq_true.1 hv v hvv
    exact Nat.eq_of_beq_eq_true this
  refine Ls_buildSlice (pv := (vs.zipIdx).map fun p => (p.2, p.1)) hs ht hi (by rw [hp]; simp) hlen ?_ hd h
  subst hlv
  by_cases h0 : vs.length * size = 0
  · rw [if_pos h0]
    have := fill_seq size vs [] [] 0 hv' (by simp) (by simpa using h0.symm)
    simpa using this
  · rw [if_neg h0]
    have hl : ((Array.range (vs.length * size)).map (z.cells[· % z.cells.size]!)) = ((List.range (vs.length * size)).map (z.cells[· % z.cells.size]!)).toArray := by
      rw [← List.map_toArray]; simp [Array.range, List.toArray_range]
    rw [hl]
    have := fill_seq size vs [] ((List.range (vs.length * size)).map (z.cells[· % z.cells.size]!)) 0 hv' (by simp) (by simp)
    simpa using this
theorem run_as {v v' : Value} {w' : World} (h : RunO P E op ty w v w') (e : v = v') : RunO P E op ty w v' w' := e ▸ h
theorem run_asB {b c : Bool} {w' : World} (h : RunO P E op ty w (.bool b) w') (e : b = c) : RunO P E op ty w (.bool c) w' := e ▸ h
theorem Sat.own_addr {T size m c : Nat} {A : Option Addr} {xs : List Value} (hs : Sat B w (Own T size (.slice A m c) m xs :: L)) (hm : 0 < m) : ∃ g, A = some ⟨g, 0, none⟩ := by
  obtain ⟨h1, ⟨hl, hA⟩, hw⟩ := hs.head
  rcases hA with ⟨h, h0, _⟩ | ⟨g, cap, cur, h, _⟩
  · omega
  · cases h; exact ⟨g, rfl⟩
end
end Go.Proofs.Ytcifdianinbkeaa.Lg
set_option linter.unusedVariables false
set_option linter.unusedSimpArgs false
namespace Go.Proofs.Ytcifdianinbkeaa.Lg
open Go Go.RowKit Go.ChangeShapes Go.WideShapes

theorem rd_cells {w : World} {x : Addr} {len cap : Nat} {k : IntKind} {zs : List Int} (hl : len ≤ cap) (hz : zs.length = cap) (hc : ∀ i, i < zs.length → w.cell? (x.add i) = some (.int k (zs.getD i 0))) : Rd w (some x) len cap 1 ((El.int k).flat (zs.take len)) := by
  have hlen : (zs.take len).length = len := by rw [List.length_take]; omega
  refine ⟨by rw [El.flat_length, hlen]; rfl, hl, fun hp => ?_, fun h => by cases h⟩
  have h0 := hc 0 (by omega)
  have ex : x.add 0 = x := by simp [Addr.add]
  rw [ex] at h0
  obtain ⟨b, off, sp⟩ := x
  have hsp : sp = none := by
    cases sp with
    | none => rfl
    | some s =>
      simp only [World.cell?] at h0
      split at h0 <;> simp at h0
  subst hsp
  refine ⟨b, off, rfl, World.block_lt_of_cell? w _ h0, fun j u hj => ?_⟩
  have hj' : j < len := by
    have := (List.getElem?_eq_some_iff.1 hj).1
    rw [El.flat_length, hlen] at this
    simpa [El.int] using this
  have h1 := hc j (by omega)
  rw [Addr.add_lit] at h1
  rw [h1, ← hj, El.int_flat]
  simp [List.getD_eq_getElem?_getD, hj', show j < zs.length by omega]

/-- A slice of whole numbers among the arguments. -/
theorem rd_ints {H : Type} {enc : TypeId × Value → H} {P : Program} {W : World} {base : Nat} {spare : Nat → Bool} {held : Bool} {t e : TypeId} {k : IntKind} {a : Option Addr} {len cap : Nat} {d : DataW H} {ps : List MemPlace}
    (hu : P.underlying t = some (.slice e)) (he : P.underlying e = some (.int k)) (hc : P.cellsOf e = 1) (h : DataW.Trod enc P W base spare held t (.slice a len cap) d ps) :
    ∃ l : List Int, Rd W a len cap 1 ((El.int k).flat l) ∧ l.length = len ∧ ∀ x ∈ l, (Lit.int k x).wf = true := by
  obtain ⟨fuel, hf⟩ := h
  rcases open_ints hu he hc hf with ⟨hcs, _⟩ | ⟨x, l, c, zs, hcs, _, hl, hm, hz, _, hcell, hwz⟩
  · simp [Value.cells] at hcs
    obtain ⟨rfl, rfl, rfl⟩ := hcs
    exact ⟨[], Rd.none W 1, rfl, by simp⟩
  · simp [Value.cells] at hcs
    obtain ⟨rfl, rfl, rfl⟩ := hcs
    refine ⟨zs.take len, ?_, ?_, fun x hx => hwz x (List.mem_of_mem_take hx)⟩
    · split at hz
      · exact rd_cells hl hz hcell
      · obtain ⟨r1, r2, r3, r4⟩ := rd_cells (cap := len) (Nat.le_refl _) hz hcell
        exact ⟨r1, hl, r3, fun h => by cases h⟩
    · rw [List.length_take]; split at hz <;> omega

/-- Such a slice is no longer than its weight allows. -/
theorem sized_nums {H : Type} {enc : TypeId × Value → H} {P : Program} {W : World} {base : Nat} {spare : Nat → Bool} {held : Bool} {t e : TypeId} {k : IntKind} {a : Option Addr} {len cap : Nat} {d : DataW H} {ps : List MemPlace} {ts : List TypeId} {ds : List (DataW H)} {j : Nat}
    (hsz : (DataW.weightsEach P ts ds).all (· ≤ reachBytes) = true) (ht : ts[j]? = some t) (hd : ds[j]? = some d) (hu : P.underlying t = some (.slice e)) (he : P.underlying e = some (.int k)) (hc : P.cellsOf e = 1) {B : Nat} (hB : P.bytesOf e = B)
    (h : DataW.Trod enc P W base spare held t (.slice a len cap) d ps) : len * B ≤ 140737488351232 := by
  obtain ⟨fuel, hf⟩ := h
  rcases open_ints hu he hc hf with ⟨hcs, _⟩ | ⟨x, l, c, zs, hcs, _, hl, _, hz, hx, _, _⟩
  · simp [Value.cells] at hcs
    obtain ⟨rfl, rfl, rfl⟩ := hcs
    simp
  · simp [Value.cells] at hcs
    obtain ⟨rfl, rfl, rfl⟩ := hcs
    obtain ⟨hx, _⟩ := Prod.mk.inj hx
    subst hx
    have z := sized_slice hsz ht hd hu
    rw [hB] at z
    have hl2 : len ≤ zs.length := by
      rw [hz]
      split
      · exact hl
      · exact Nat.le_refl _
    have h1 : (lits (H := H) k (zs.take len)).length + (lits (H := H) k (zs.drop len)).length = zs.length := by
      simp [lits]
      omega
    rw [h1] at z
    exact Nat.le_trans (Nat.mul_le_mul_right _ hl2) z
end Go.Proofs.Ytcifdianinbkeaa.Lg
set_option linter.unusedVariables false
set_option linter.unusedSimpArgs false
namespace Go.Proofs.Ytcifdianinbkeaa.Lg
open Go Go.RowKit

section
variable {P : Program} {ops : Array Oper} {Q : Exit → Act → World → Prop} {md : Region.Mode} {H : World → Prop}

def wpH (H : World → Prop) (P : Program) (md : Region.Mode) (ops : Array Oper) (Q : Exit → Act → World → Prop) : Nat → Array Bool → Act → World → Prop
  | 0, listed, a, w => Region.ready md ops listed = [] ∧ Q .normal a w
  | fuel + 1, listed, a, w =>
    (Region.ready md ops listed = [] → Q .normal a w) ∧
    ∀ i ∈ Region.ready md ops listed, wpOp P ops Q i (fun a' w' => H w' ∧ wpH H P md ops Q fuel (listed.setIfInBounds i true) a' w') a w

theorem wpH_sound : ∀ (fuel : Nat) (listed : Array Bool) (a : Act) (w : World), wpH H P md ops Q fuel listed a w → wpAny P md ops Q fuel listed a w := by
  intro fuel
  induction fuel with
  | zero => intro listed a w h; exact h
  | succ fuel ih =>
    intro listed a w h
    exact ⟨h.1, fun i hi => wpOp_mono (fun a' w' hh => ih _ a' w' hh.2) (h.2 i hi)⟩

/-- It yields v in every world that H lets. -/
def YieldsH (H : World → Prop) (P : Program) (ops : Array Oper) (o : Oper) (v : Value) (a : Act) : Prop :=
  (Region.wanted o (yielded ops a.tmps) = true ∧ ∀ w, H w → (execOp a.eval o).run P w = .ok (.value v) w) ∨
  (Region.wanted o (yielded ops a.tmps) = false ∧ v = undef)

theorem YieldsH.wpOp {i : Nat} {o : Oper} {v : Value} {a : Act} (hi : ops[i]? = some o) (hy : YieldsH H P ops o v a)
    {K : Act → World → Prop} {w : World} (hw : H w) (h : K (a.put o.dst v) w) : wpOp P ops Q i K a w := by
  unfold Go.wpOp
  simp only [hi]
  rcases hy with ⟨hw', hv⟩ | ⟨hw', rfl⟩
  · simp only [hw', if_true, Oper.wp, hv w hw, Oper.upon]; exact .inl h
  · simp only [hw', Bool.false_eq_true, if_false]; exact h

theorem YieldsH.of_same {o : Oper} {v : Value} {a a' : Act} (hy : YieldsH H P ops o v a) (he : execOp a'.eval o = execOp a.eval o)
    (hw : Region.wanted o (yielded ops a'.tmps) = Region.wanted o (yielded ops a.tmps)) : YieldsH H P ops o v a' := by
  unfold YieldsH at *
  rw [he, hw]
  exact hy

theorem wpOp_putH {j : Nat} {oi oj : Oper} {v : Value} (hj : ops[j]? = some oj) (hap : oi.apart ops oj = true)
    (hsi : ∀ cs b, oi.op ≠ .select cs b) (hsj : ∀ cs b, oj.op ≠ .select cs b)
    (hQ : ∀ c a w, Q (.panic c) (a.put oi.dst v) w → Q (.panic c) a w) {K : Act → World → Prop} {a : Act} {w : World}
    (hy : YieldsH H P ops oi v a) (h : wpOp P ops Q j K (a.put oi.dst v) w) :
    wpOp P ops Q j (fun a' w' => YieldsH H P ops oi v a' ∧ K (a'.put oi.dst v) w') a w := by
  obtain ⟨h1, h2, h3⟩ := Oper.apart_spec hap
  have keep : ∀ (a : Act), YieldsH H P ops oi v a → ∀ u, YieldsH H P ops oi v (a.put oj.dst u) := fun a hy u =>
    hy.of_same (execOp_put oi hsi a oj.dst u h3) (wanted_put oi a oj.dst u h3)
  have keepD : ∀ d, YieldsH H P ops oi v { a with defers := d :: a.defers } := fun d => hy.of_same rfl rfl
  unfold wpOp at *
  simp only [hj] at *
  rw [wanted_put oj a oi.dst v h1] at h
  split
  · rename_i hw
    simp only [hw, if_true] at h
    rcases h with h | ⟨hasks, hlets⟩
    case inr => exact .inr ⟨by unfold Oper.asks at *; rw [execOp_put oj hsj a oi.dst v h1] at hasks; exact hasks, hlets⟩
    refine .inl ?_
    unfold Oper.wp at *
    rw [execOp_put oj hsj a oi.dst v h1] at h
    generalize (execOp a.eval oj).run P w = r at *
    cases r with
    | ok n w' =>
      cases n <;> simp only [Oper.upon] at h ⊢
      case value u => exact ⟨keep a hy u, by rw [← Act.put_comm a v u h2]; exact h⟩
      case skip => exact ⟨keep a hy _, by rw [← Act.put_comm a v undef h2]; exact h⟩
      case defer d =>
        refine ⟨keep _ (keepD d) _, ?_⟩
        rw [← Act.put_comm _ v undef h2, ← Act.put_defers]
        exact h
      case enter f args =>
        refine Calls.mono h fun e w'' he => ?_
        cases e with
        | returned u => exact ⟨keep a hy u, by rw [← Act.put_comm a v u h2]; exact he⟩
        | panicked c => exact hQ _ _ _ he
        | outgrown => exact he
      case row row args => exact Rows.mono h fun u w'' he => ⟨keep a hy u, by rw [← Act.put_comm a v u h2]; exact he⟩
    | halt x w' =>
      cases x <;> simp only [Oper.upon] at h ⊢
      case panic u => exact hQ _ _ _ h
  · rename_i hw
    simp only [hw] at h
    exact ⟨keep a hy _, by rw [← Act.put_comm a v undef h2]; exact h⟩

theorem wpH_first {i : Nat} {oi : Oper} {v : Value} (hi : ops[i]? = some oi) (hsel : ∀ (j : Nat) (o : Oper) cs b, ops[j]? = some o → o.op ≠ .select cs b)
    (hQ : ∀ c a w, Q (.panic c) (a.put oi.dst v) w → Q (.panic c) a w) :
    ∀ (fuel : Nat) (listed : Array Bool) (a : Act) (w : World), H w →
      (∀ j oj, ops[j]? = some oj → j ≠ i → listed.getD j true = false → (∀ e ∈ oj.after, Region.binds md e = true → e.on ≠ i) → oi.apart ops oj = true) →
      i ∈ Region.ready md ops listed → YieldsH H P ops oi v a →
      wpH H P md ops Q fuel (listed.setIfInBounds i true) (a.put oi.dst v) w → wpH H P md ops Q (fuel + 1) listed a w := by
  intro fuel
  induction fuel with
  | zero =>
    intro listed a w hH _ hr hy Hh
    refine ⟨fun h => (by rw [h] at hr; cases hr), fun j hj => ?_⟩
    by_cases hji : j = i
    · subst hji; exact hy.wpOp hi hH ⟨hH, Hh⟩
    · have := ready_mono hj hji
      rw [Hh.1] at this
      cases this
  | succ fuel ih =>
    intro listed a w hH hfree hr hy Hh
    refine ⟨fun h => (by rw [h] at hr; cases hr), fun j hj => ?_⟩
    by_cases hji : j = i
    · subst hji; exact hy.wpOp hi hH ⟨hH, Hh⟩
    · have h1 := Hh.2 j (ready_mono hj hji)
      obtain ⟨hjun, oj, hoj, hall⟩ := mem_ready.1 hj
      have hnot : ∀ e ∈ oj.after, Region.binds md e = true → e.on ≠ i := fun e he hb heq => by
        have h1 := hall e he hb
        have h0 := (mem_ready.1 hr).1
        rw [heq] at h1
        rcases Nat.lt_or_ge i listed.size with h' | h'
        · simp [h'] at h0 h1; rw [h0] at h1; cases h1
        · simp [Array.getElem?_eq_none h'] at h1
      have h2 := wpOp_putH hoj (hfree j oj hoj hji hjun hnot) (fun cs b => hsel i oi cs b hi) (fun cs b => hsel j oj cs b hoj) hQ hy h1
      have hfree' : ∀ k ok, ops[k]? = some ok → k ≠ i → (listed.setIfInBounds j true).getD k true = false →
          (∀ e ∈ ok.after, Region.binds md e = true → e.on ≠ i) → oi.apart ops ok = true := fun k ok hk hki hun hno => by
        refine hfree k ok hk hki ?_ hno
        by_cases hjk : j = k
        · subst hjk; exact hjun
        · rw [getD_set_ne true hjk] at hun; exact hun
      refine wpOp_mono (fun a' w' h3 => ⟨h3.2.1, ih (listed.setIfInBounds j true) a' w' h3.2.1 hfree' (ready_mono hr (Ne.symm hji)) h3.1 ?_⟩) h2
      rw [Array.setIfInBounds_comm _ _ hji]
      exact h3.2.2

theorem upon_then {o : Oper} {a : Act} {K K' : Act → World → Prop} {r : Result Next} (h : o.upon P a K (Exit.then K' Q) r) : o.upon P a K Q r := by
  cases r with
  | ok n w' =>
    cases n <;> simp only [Oper.upon] at h ⊢ <;> first
      | exact h
      | exact Calls.mono h (fun e w'' he => by cases e <;> exact he)
  | halt x w' => cases x <;> simp only [Oper.upon] at h ⊢ <;> exact h
end

section
variable {P : Program} {ops : Array Oper} {n : Nat} {D : List Deferred} {E : Env} {w : World} {Q : Exit → Act → World → Prop} {H : World → Prop} {fuel : Nat} {listed : Array Bool} {ty : TypeId} {ps : String} {af : Array Edge} {op : Op} {d : Nat} {v : Value}
def An (H : World → Prop) (P : Program) (ops : Array Oper) (n : Nat) (D : List Deferred) (E : Env) (w : World) (fuel : Nat) (listed : Array Bool) (Q : Exit → Act → World → Prop) : Prop := ∀ a, Good n D E a → wpH H P .any ops Q fuel listed a w

theorem St_draw (H : World → Prop) {id : Nat} (hm : P.follows .mixedOrders = true) (h : ∀ w', Quiet w w' → An H P ops n D E w' ops.size (Array.replicate ops.size false) Q) : St P n D E w (.region id ops true) Q := fun a ha =>
  wp_region_any hm (wpH_sound _ _ _ _ (h { w with drawn := w.drawn + 1 } ⟨rfl, rfl, rfl, rfl⟩ a ha))

theorem An_take (i : Nat) (hi : ops[i]? = some ⟨some d, op, ty, ps, af, none⟩) (hs : Region.noSelect ops = true) (hf : Region.free .any ops listed i = true) (hrd : (Region.ready .any ops listed).contains i = true)
    (hQ : ∀ c a w, Q (.panic c) (a.put (some d) v) w → Q (.panic c) a w) (hH : H w) (hr : ∀ x, H x → RunO P E op ty x v x) (hd : Nat.blt d n = true)
    (h : An H P ops n D ((d, v) :: E) w fuel (listed.setIfInBounds i true) Q) : An H P ops n D E w (fuel + 1) listed Q := fun a ha =>
  wpH_first hi (Region.noSelect_spec hs) hQ fuel listed a w hH (Region.free_spec hi hf) (by simpa using hrd) (.inl ⟨by simp [Region.wanted], fun x hx => hr x hx n D a _ _ _ _ ha⟩) (h _ (ha.put hd v))
theorem An_take_on (i : Nat) {j : Nat} {want : Bool} {t : Tmp} (hi : ops[i]? = some ⟨some d, op, ty, ps, af, some (j, want)⟩) (hs : Region.noSelect ops = true) (hf : Region.free .any ops listed i = true) (hrd : (Region.ready .any ops listed).contains i = true)
    (hj : (ops[j]?).bind (·.dst) = some t) (hv : look E t = some (.bool want))
    (hQ : ∀ c a w, Q (.panic c) (a.put (some d) v) w → Q (.panic c) a w) (hH : H w) (hr : ∀ x, H x → RunO P E op ty x v x) (hd : Nat.blt d n = true)
    (h : An H P ops n D ((d, v) :: E) w fuel (listed.setIfInBounds i true) Q) : An H P ops n D E w (fuel + 1) listed Q := fun a ha =>
  wpH_first hi (Region.noSelect_spec hs) hQ fuel listed a w hH (Region.free_spec hi hf) (by simpa using hrd)
    (.inl ⟨by simp [Region.wanted, yielded, hj, ha.rep t _ hv], fun x hx => hr x hx n D a _ _ _ _ ha⟩) (h _ (ha.put hd v))
theorem An_take_off (i : Nat) {j : Nat} {want b : Bool} {t : Tmp} (hi : ops[i]? = some ⟨some d, op, ty, ps, af, some (j, want)⟩) (hs : Region.noSelect ops = true) (hf : Region.free .any ops listed i = true) (hrd : (Region.ready .any ops listed).contains i = true)
    (hj : (ops[j]?).bind (·.dst) = some t) (hv : look E t = some (.bool b)) (hb : (b == want) = false)
    (hQ : ∀ c a w, Q (.panic c) (a.put (some d) undef) w → Q (.panic c) a w) (hH : H w) (hd : Nat.blt d n = true)
    (h : An H P ops n D ((d, undef) :: E) w fuel (listed.setIfInBounds i true) Q) : An H P ops n D E w (fuel + 1) listed Q := fun a ha =>
  wpH_first hi (Region.noSelect_spec hs) hQ fuel listed a w hH (Region.free_spec hi hf) (by simpa using hrd)
    (.inr ⟨by simp [Region.wanted, yielded, hj, ha.rep t _ hv]; simpa using hb, rfl⟩) (h _ (ha.put hd undef))
theorem An_take_off' (i : Nat) {j : Nat} {want : Bool} {t : Tmp} (hi : ops[i]? = some ⟨some d, op, ty, ps, af, some (j, want)⟩) (hs : Region.noSelect ops = true) (hf : Region.free .any ops listed i = true) (hrd : (Region.ready .any ops listed).contains i = true)
    (hj : (ops[j]?).bind (·.dst) = some t) (hv : look E t = some undef)
    (hQ : ∀ c a w, Q (.panic c) (a.put (some d) undef) w → Q (.panic c) a w) (hH : H w) (hd : Nat.blt d n = true)
    (h : An H P ops n D ((d, undef) :: E) w fuel (listed.setIfInBounds i true) Q) : An H P ops n D E w (fuel + 1) listed Q := fun a ha =>
  wpH_first hi (Region.noSelect_spec hs) hQ fuel listed a w hH (Region.free_spec hi hf) (by simpa using hrd)
    (.inr ⟨by simp [Region.wanted, yielded, hj, ha.rep t _ hv, undef], rfl⟩) (h _ (ha.put hd undef))
/-- What alone is left to do next, whatever it does. -/
theorem An_only (i : Nat) {o : Oper} (hrd : Region.ready .any ops listed = [i]) (hi : ops[i]? = some o)
    (h : Ls P ops n D E w [o] (Exit.then (fun a' w' => H w' ∧ wpH H P .any ops Q fuel (listed.setIfInBounds i true) a' w') Q)) : An H P ops n D E w (fuel + 1) listed Q := fun a ha => by
  refine ⟨fun h0 => (by rw [hrd] at h0; cases h0), fun j hj => ?_⟩
  rw [hrd] at hj
  simp at hj
  subst hj
  have h1 := h a ha
  unfold wpOp
  simp only [hi]
  unfold wpList at h1
  split
  · rename_i hw
    rw [if_pos hw] at h1
    rcases h1 with h1 | ⟨h1, a1, w1, h2⟩
    · exact .inl (upon_then h1)
    · exact .inr ⟨h1, a1, w1, h2⟩
  · rename_i hw
    rw [if_neg hw] at h1
    exact h1
theorem Jm_An {listed' : Array Bool} (hH : H w) (h : An H P ops n D E w fuel listed' Q) : Jm n D E w .normal (Exit.then (fun a' w' => H w' ∧ wpH H P .any ops Q fuel listed' a' w') Q) := fun a ha => ⟨hH, h a ha⟩
theorem An_done (hrd : Region.ready .any ops listed = []) (h : Jm n D E w .normal Q) : An H P ops n D E w fuel listed Q := fun a ha => by
  cases fuel with
  | zero => exact ⟨hrd, h a ha⟩
  | succ fuel => exact ⟨fun _ => h a ha, by rw [hrd]; simp⟩
theorem wpH_mono {H' : World → Prop} (hh : ∀ x, H' x → H x) : ∀ (fuel : Nat) (listed : Array Bool) (a : Act) (w : World), wpH H' P .any ops Q fuel listed a w → wpH H P .any ops Q fuel listed a w := by
  intro fuel
  induction fuel with
  | zero => intro listed a w h; exact h
  | succ fuel ih => exact fun listed a w h => ⟨h.1, fun i hi => wpOp_mono (fun a' w' hk => ⟨hh _ hk.1, ih _ a' w' hk.2⟩) (h.2 i hi)⟩
/-- From here on more is known to stay. -/
theorem An_mono {H' : World → Prop} (hh : ∀ x, H' x → H x) (h : An H' P ops n D E w fuel listed Q) : An H P ops n D E w fuel listed Q := fun a ha => wpH_mono hh _ _ _ _ (h a ha)
theorem An_grow {w0 : World} (hb : Below w0.heap.size w0 w) (h : An (fun x => Below w.heap.size w x) P ops n D E w fuel listed Q) : An (fun x => Below w0.heap.size w0 x) P ops n D E w fuel listed Q :=
  An_mono (fun x hx => hb.trans (hx.mono hb.size)) h
/-- The truth of a slot, parted. -/
theorem An_part {t : Tmp} {b : Bool} (hv : look E t = some (.bool b)) (h1 : b = true → An H P ops n D ((t, .bool true) :: E) w fuel listed Q) (h2 : b = false → An H P ops n D ((t, .bool false) :: E) w fuel listed Q) : An H P ops n D E w fuel listed Q := fun a ha => by
  have up : ∀ c : Bool, b = c → Good n D ((t, .bool c) :: E) a := by
    intro c hc
    subst hc
    refine ⟨ha.size, ha.defers, fun i u hi => ?_⟩
    by_cases e : t = i
    · subst e; rw [look_eq rfl] at hi; cases hi; exact ha.rep t _ hv
    · rw [look_ne e] at hi; exact ha.rep i u hi
  cases hb : b with
  | true => exact h1 hb a (up true hb)
  | false => exact h2 hb a (up false hb)
theorem An_partP {t : Tmp} {p : Prop} [Decidable p] (hv : look E t = some (.bool (decide p))) (h1 : p → An H P ops n D ((t, .bool true) :: E) w fuel listed Q) (h2 : ¬ p → An H P ops n D ((t, .bool false) :: E) w fuel listed Q) : An H P ops n D E w fuel listed Q :=
  An_part hv (fun h => h1 (of_decide_eq_true h)) (fun h => h2 (of_decide_eq_false h))
theorem An_partN {t : Tmp} {p : Prop} [Decidable p] (hv : look E t = some (.bool (!decide p))) (h1 : ¬ p → An H P ops n D ((t, .bool true) :: E) w fuel listed Q) (h2 : p → An H P ops n D ((t, .bool false) :: E) w fuel listed Q) : An H P ops n D E w fuel listed Q :=
  An_part hv (fun h => h1 (by simpa using h)) (fun h => h2 (by simpa using h))
/-- An element of a slice that is read, in an open order: the place. -/
theorem An_index (i : Nat) {α : Type} (K : El α) {l : List α} {A : Option Addr} {m c bytes e t : Nat} {zv : Value} {k : IntKind} {ix : Int} {x y : Operand} (hi : ops[i]? = some ⟨some d, .indexAddr t x y, ty, ps, af, none⟩) (hs : Region.noSelect ops = true) (hf : Region.free .any ops listed i = true) (hrd : (Region.ready .any ops listed).contains i = true)
    (hQ : ∀ v c a w, Q (.panic c) (a.put (some d) v) w → Q (.panic c) a w) (hH : H w) (hr : ∀ x, H x → Rd x A m c K.size (K.flat l)) (ht : P.underlying t = some (.slice e)) (hif : Inf P e zv K.size bytes)
    (hx : ev E x = some (.slice A m c)) (hy : ev E y = some (.int k ix)) (h0 : 0 ≤ ix) (h1 : ix < m) {xv : α} (hxv : l.getD ix.toNat K.dflt = xv) (hd : Nat.blt d n = true)
    (h : ∀ b off, (∀ x, H x → ∀ j u, (K.enc xv)[j]? = some u → x.cell? ⟨b, off + j, none⟩ = some u) → An H P ops n D ((d, .pointer (some ⟨b, off, none⟩)) :: E) w fuel (listed.setIfInBounds i true) Q) : An H P ops n D E w (fuel + 1) listed Q := by
  obtain ⟨b, off, rfl, _, hc⟩ := (hr w hH).cells (by omega)
  subst hxv
  refine An_take i hi hs hf hrd (hQ _) hH (fun x hx' => run_index ht hif hx hy rfl h0 h1) hd (h b (off + ix.toNat * K.size) fun x hx' j u hj => ?_)
  obtain ⟨b', off', e1, _, hc'⟩ := (hr x hx').cells (by omega)
  cases e1
  have hl := (hr x hx').len
  rw [K.flat_length] at hl
  have hj' : j < K.size := by rw [← K.len (l.getD ix.toNat K.dflt)]; exact (List.getElem?_eq_some_iff.1 hj).1
  have hlm : l.length = m := by
    have : 0 < K.size := by omega
    exact Nat.eq_of_mul_eq_mul_right this hl
  have hil : ix.toNat < l.length := by omega
  rw [Nat.add_assoc]
  refine hc' _ u (El.flat_get K l ix.toNat hil j u ?_)
  rw [List.getD_eq_getElem?_getD, List.getElem?_eq_getElem hil] at hj
  exact hj
end
end Go.Proofs.Ytcifdianinbkeaa.Lg
set_option linter.unusedVariables false
set_option linter.unusedSimpArgs false
namespace Go.Proofs.Ytcifdianinbkeaa.Lg
open Go Go.RowKit

theorem grownCap_ge (w : World) (need old : Nat) (e : TypeId) (h : need < 2 ^ 63) : need ≤ grownCap w need old e ∧ grownCap w need old e < 2 ^ 63 := by
  unfold grownCap
  simp only [Question.cut]
  have h1 : 0 < 2 ^ 63 - need := by omega
  have := Nat.mod_lt (w.tape w.drawn (.appendCap need old e)) h1
  omega

section
variable {P : Program} {ops : Array Oper} {n : Nat} {D : List Deferred} {E : Env} {B w : World} {L : List Assn} {Q : Exit → Act → World → Prop} {rest : List Oper} {ty : TypeId} {ps : String} {af : Array Edge} {d : Nat} {x y s : Operand} {e t tn : TypeId}
theorem Sat.own_shrink {T size m c : Nat} {A : Option Addr} {xs : List Value} (hs : Sat B w (Own T size (.slice A m c) m xs :: L)) (k : Nat) (hk : k ≤ m) : Sat B w (Own T size (.slice A k c) k (xs.take (k * size)) :: L) := by
  refine hs.imp ?_
  rintro h1 ⟨hl, hA⟩
  have hkm : k * size ≤ m * size := Nat.mul_le_mul_right _ hk
  refine ⟨by rw [List.length_take, hl]; omega, ?_⟩
  rcases hA with ⟨h, h0, hn⟩ | ⟨g, cap, cur, h, h2, h3, h4, h5, hi⟩
  · cases h
    have : k = 0 := by omega
    subst this
    exact .inl ⟨rfl, rfl, hn⟩
  · cases h
    refine .inr ⟨g, c, cur, rfl, by omega, h3, h4, ?_, hi⟩
    rw [← h5, List.take_take]
    congr 1
    omega
theorem Ls_appendZeros {z : Value} {bytes m : Nat} {k kn : IntKind} (hs : Sat B w L) (ht : P.underlying t = some (.slice e)) (htn : P.underlying tn = some (.int kn)) (hi : Inf P e z 1 bytes) (hz1 : z.cells = #[z])
    (hx : ev E s = some (.slice none 0 0)) (hy : ev E x = some (.int k (m : Int))) (h0 : 0 < m) (hb : m * bytes ≤ 140737488355328) (h63 : m ≤ 140737488355328) (hd : Nat.blt d n = true)
    (h : ∀ b c w', m ≤ c → Sat B w' (Own e 1 (.slice (some ⟨b, 0, none⟩) m c) m (List.replicate m z) :: L) → Ls P ops n D ((d, .slice (some ⟨b, 0, none⟩) m c) :: E) w' rest Q) :
    Ls P ops n D E w (⟨some d, .call { callee := .builtin .append, args := #[s, x], argTypes := #[t, tn] }, ty, ps, af, none⟩ :: rest) Q := by
  obtain ⟨i, hi1, hi2, hi3, hi4⟩ := hi
  have hrun := Lib.run_append_nil_zeros (P := P) w t tn ty e i z k kn ht htn hi1 hi2 m h0 (by omega) (by omega) (by rw [hi4]; omega)
  have hc := grownCap_ge w m 0 e (by omega)
  have hq : Sat B w.drew L := hs.grow ⟨rfl, rfl, rfl, Nat.le_refl _, fun _ _ => rfl⟩
  have hal := hq.alloc (.cells (Builtin.zeroCells z.cells m ++ Builtin.zeroCells z.cells (grownCap w m 0 e - m)) e (0, 0))
  have hsz : ∀ q, (Builtin.zeroCells z.cells q).size = q := fun q => by simp [Builtin.zeroCells, hz1]
  have hlist : ∀ q, (Builtin.zeroCells z.cells q).toList = List.replicate q z := fun q => by
    apply List.ext_getElem
    · simp [Builtin.zeroCells, hz1]
    · intro j h1 h2
      simp [Builtin.zeroCells, hz1, Nat.mod_one]
  have hown : Sat B (w.drew.alloc (.cells (Builtin.zeroCells z.cells m ++ Builtin.zeroCells z.cells (grownCap w m 0 e - m)) e (0, 0))) (Own e 1 (.slice (some ⟨w.heap.size, 0, none⟩) m (grownCap w m 0 e)) m (List.replicate m z) :: L) := by
    refine hal.imp fun h1 hA => ⟨by simp, .inr ⟨w.heap.size, grownCap w m 0 e, _, rfl, hc.1, by simp only [maxLen]; omega, ?_, ?_, hA⟩⟩
    · rw [Array.size_append, hsz, hsz]; omega
    · rw [Array.toList_append, hlist, hlist]
      simp
  refine Ls_run (v := .slice (some ⟨w.heap.size, 0, none⟩) m (grownCap w m 0 e)) (w' := w.drew.alloc (.cells (Builtin.zeroCells z.cells m ++ Builtin.zeroCells z.cells (grownCap w m 0 e - m)) e)) ?_ hd (h _ _ _ hc.1 hown)
  intro n D a dst ps af g ha
  simp only [execOp, resolve, invoke, builtin, Sem.run_bind, Sem.run_pure, Result.andThen_ok, List.map_toArray, List.map_cons, List.map_nil, ha.eval hx, ha.eval hy, hrun]

/-- The place of an element, in an open order, behind a guard. -/
theorem An_index_on {H : World → Prop} {fuel : Nat} {listed : Array Bool} (i : Nat) {j : Nat} {want : Bool} {tg : Tmp} {α : Type} (K : El α) {l : List α} {A : Option Addr} {m c bytes e t : Nat} {zv : Value} {k : IntKind} {ix : Int} {x y : Operand} (hi : ops[i]? = some ⟨some d, .indexAddr t x y, ty, ps, af, some (j, want)⟩) (hs : Region.noSelect ops = true) (hf : Region.free .any ops listed i = true) (hrd : (Region.ready .any ops listed).contains i = true)
    (hj : (ops[j]?).bind (·.dst) = some tg) (hv : look E tg = some (.bool want))
    (hQ : ∀ v c a w, Q (.panic c) (a.put (some d) v) w → Q (.panic c) a w) (hH : H w) (hr : ∀ x, H x → Rd x A m c K.size (K.flat l)) (ht : P.underlying t = some (.slice e)) (hif : Inf P e zv K.size bytes)
    (hx : ev E x = some (.slice A m c)) (hy : ev E y = some (.int k ix)) (h0 : 0 ≤ ix) (h1 : ix < m) {xv : α} (hxv : l.getD ix.toNat K.dflt = xv) (hd : Nat.blt d n = true)
    (h : ∀ b off, (∀ x, H x → ∀ j u, (K.enc xv)[j]? = some u → x.cell? ⟨b, off + j, none⟩ = some u) → An H P ops n D ((d, .pointer (some ⟨b, off, none⟩)) :: E) w fuel (listed.setIfInBounds i true) Q) : An H P ops n D E w (fuel + 1) listed Q := by
  obtain ⟨b, off, rfl, _, hc⟩ := (hr w hH).cells (by omega)
  subst hxv
  refine An_take_on i hi hs hf hrd hj hv (hQ _) hH (fun x hx' => run_index ht hif hx hy rfl h0 h1) hd (h b (off + ix.toNat * K.size) fun x hx' j u hj => ?_)
  obtain ⟨b', off', e1, _, hc'⟩ := (hr x hx').cells (by omega)
  cases e1
  have hl := (hr x hx').len
  rw [K.flat_length] at hl
  have hj' : j < K.size := by rw [← K.len (l.getD ix.toNat K.dflt)]; exact (List.getElem?_eq_some_iff.1 hj).1
  have hlm : l.length = m := by
    have : 0 < K.size := by omega
    exact Nat.eq_of_mul_eq_mul_right this hl
  have hil : ix.toNat < l.length := by omega
  rw [Nat.add_assoc]
  refine hc' _ u (El.flat_get K l ix.toNat hil j u ?_)
  rw [List.getD_eq_getElem?_getD, List.getElem?_eq_getElem hil] at hj
  exact hj
end

/-- Slices of bytes: their values, and what each shows. -/
def Parts (w : World) (vs : List Value) (ls : List (List Int)) : Prop :=
  vs.length = ls.length ∧ ∀ i, i < ls.length → ∃ A n c, vs.getD i (.slice none 0 0) = .slice A n c ∧ Rd w A n c 1 (bytesV (ls.getD i []))
theorem Parts.grow {w w' : World} {vs : List Value} {ls : List (List Int)} (h : Parts w vs ls) (hb : Below w.heap.size w w') : Parts w' vs ls :=
  ⟨h.1, fun i hi => let ⟨A, n, c, e, r⟩ := h.2 i hi; ⟨A, n, c, e, r.grow hb⟩⟩
theorem Parts.nil (w : World) : Parts w [] [] := ⟨rfl, fun i hi => by simp at hi⟩
theorem Parts.cons {w : World} {A : Option Addr} {n c : Nat} {l : List Int} {vs : List Value} {ls : List (List Int)} (hr : Rd w A n c 1 (bytesV l)) (h : Parts w vs ls) : Parts w (.slice A n c :: vs) (l :: ls) :=
  ⟨by simp [h.1], fun i hi => by
    cases i with
    | zero => exact ⟨A, n, c, rfl, hr⟩
    | succ i => simpa using h.2 i (by simpa using hi)⟩
/-- How many bytes lists have, up to the i'th. -/
def upto (ls : List (List Int)) (i : Nat) : Nat := ((ls.take i).map List.length).sum
theorem getD_lt (ls : List (List Int)) (i : Nat) (hi : i < ls.length) : ls.getD i [] = ls[i] := by
  rw [List.getD_eq_getElem?_getD, List.getElem?_eq_getElem hi]; rfl
theorem upto_succ (ls : List (List Int)) (i : Nat) (hi : i < ls.length) : upto ls (i + 1) = upto ls i + (ls.getD i []).length := by
  unfold upto
  rw [List.take_succ_eq_append_getElem hi, getD_lt ls i hi, List.map_append, List.sum_append]
  simp
theorem upto_le (ls : List (List Int)) (i : Nat) : upto ls i ≤ (ls.map List.length).sum := by
  have h : (ls.map List.length).sum = ((ls.take i).map List.length).sum + ((ls.drop i).map List.length).sum := by
    rw [← List.sum_append, ← List.map_append, List.take_append_drop]
  unfold upto
  omega
theorem upto_all (ls : List (List Int)) : upto ls ls.length = (ls.map List.length).sum := by simp [upto]
theorem flat_take_succ (ls : List (List Int)) (i : Nat) (hi : i < ls.length) : (ls.take (i + 1)).flatten = (ls.take i).flatten ++ ls.getD i [] := by
  rw [List.take_succ_eq_append_getElem hi, getD_lt ls i hi, List.flatten_append]
  simp
theorem flat_len (ls : List (List Int)) : ls.flatten.length = (ls.map List.length).sum := by simp [List.length_flatten]
end Go.Proofs.Ytcifdianinbkeaa.Lg
set_option linter.unusedVariables false
set_option linter.unusedSimpArgs false
namespace Go.Proofs.Ytcifdianinbkeaa.Lg
open Go Go.RowKit Go.ChangeShapes Go.WideShapes Go.Deep

/-! The bulk. -/
/-! A slice, its elements decoded. -/
section
variable {H α : Type} {enc : TypeId × Value → H} {P : Program} {W : World} {base : Nat} {spare : Nat → Bool} {held : Bool} {t e : TypeId} {A : Option Addr} {len cap : Nat} {d : DataW H} {ps : List MemPlace}
theorem rd_slice (K : El α) (Good : α → DataW H → Prop) (hu : P.underlying t = some (.slice e)) (hc : P.cellsOf e = K.size) (hpos : 0 < K.size)
    (hdec : ∀ n cs y, DataW.trod enc P W base spare held n e cs = some y → ∃ a, K.enc a = cs ∧ Good a y.1) (h : DataW.Trod enc P W base spare held t (.slice A len cap) d ps) :
    ∃ l : List α, Rd W A len cap K.size (K.flat l) ∧ l.length = len ∧ ((l = [] ∧ d = .nil) ∨ ∃ ds sp, d = .slice ds sp ∧ ds.length = len ∧ ∀ i, i < len → Good (l.getD i K.dflt) (ds.getD i .nil)) := by
  obtain ⟨fuel, hf⟩ := h
  rcases open_slice hu hf with ⟨hcs, hx⟩ | ⟨a, len', cap', m, n, D, Pl, hcs, hb, hl, hm, hmm, hx, hel⟩
  · simp [Value.cells] at hcs
    obtain ⟨rfl, rfl, rfl⟩ := hcs
    exact ⟨[], Rd.none W K.size, rfl, .inl ⟨rfl, (Prod.mk.inj hx).1⟩⟩
  · simp [Value.cells] at hcs
    obtain ⟨rfl, rfl, rfl⟩ := hcs
    have hlm : len ≤ m := by rw [hmm]; split <;> omega
    rw [hc] at hel
    have each : ∀ i, i < len → ∃ x : α, (∀ j, j < K.size → W.cell? ((a.add (i * K.size)).add j) = (K.enc x)[j]?) ∧ Good x (D i) := by
      intro i hi
      obtain ⟨cs', h1, h2⟩ := hel i (by omega)
      obtain ⟨x, hx, hg⟩ := hdec _ _ _ h2
      subst hx
      exact ⟨x, (World.cells?_some h1).2.2, hg⟩
    have hmk : ∃ l : List α, l.length = len ∧ ∀ i, i < len → (∀ j, j < K.size → W.cell? ((a.add (i * K.size)).add j) = (K.enc (l.getD i K.dflt))[j]?) ∧ Good (l.getD i K.dflt) (D i) := by
      have pre : ∀ q, q ≤ len → ∃ l : List α, l.length = q ∧ ∀ i, i < q → (∀ j, j < K.size → W.cell? ((a.add (i * K.size)).add j) = (K.enc (l.getD i K.dflt))[j]?) ∧ Good (l.getD i K.dflt) (D i) := by
        intro q
        induction q with
        | zero => intro _; exact ⟨[], rfl, fun i hi => by omega⟩
        | succ q ih =>
          intro hq
          obtain ⟨l, hll, hl⟩ := ih (by omega)
          obtain ⟨x, hx⟩ := each q (by omega)
          refine ⟨l ++ [x], by simp [hll], fun i hi => ?_⟩
          by_cases hiq : i < q
          · have : (l ++ [x]).getD i K.dflt = l.getD i K.dflt := by simp [List.getD_eq_getElem?_getD, List.getElem?_append_left (show i < l.length by omega)]
            rw [this]; exact hl i hiq
          · have hiq : i = l.length := by omega
            subst hiq
            have : (l ++ [x]).getD l.length K.dflt = x := by simp [List.getD_eq_getElem?_getD]
            rw [this]
            rw [hll]; exact hx
      exact pre len (Nat.le_refl _)
    obtain ⟨l, hll, hl9⟩ := hmk
    refine ⟨l, ⟨by rw [El.flat_length, hll], hl, fun hp => ?_, fun h => by cases h⟩, hll, .inr ⟨_, _, (Prod.mk.inj hx).1, by simp, fun i hi => ?_⟩⟩
    · have h0 := (hl9 0 hp).1 0 hpos
      have h00 : (K.enc (l.getD 0 K.dflt))[0]? = some ((K.enc (l.getD 0 K.dflt))[0]'(by rw [K.len]; exact hpos)) := List.getElem?_eq_getElem _
      rw [h00] at h0
      have ex : (a.add (0 * K.size)).add 0 = a := by simp [Addr.add]
      rw [ex] at h0
      obtain ⟨b, off, sp⟩ := a
      have hsp : sp = none := by
        cases sp with
        | none => rfl
        | some s =>
          simp only [World.cell?] at h0
          split at h0 <;> simp at h0
      subst hsp
      refine ⟨b, off, rfl, World.block_lt_of_cell? W _ h0, fun j u hj => ?_⟩
      have hj' : j < len * K.size := by
        have := (List.getElem?_eq_some_iff.1 hj).1
        rwa [El.flat_length, hll] at this
      have hi : j / K.size < len := Nat.div_lt_of_lt_mul (by rw [Nat.mul_comm]; exact hj')
      have hr : j % K.size < K.size := Nat.mod_lt _ hpos
      have hcell := (hl9 (j / K.size) hi).1 (j % K.size) hr
      have hil : j / K.size < l.length := by omega
      have hg : l.getD (j / K.size) K.dflt = l[j / K.size] := by rw [List.getD_eq_getElem?_getD, List.getElem?_eq_getElem hil]; rfl
      rw [hg] at hcell
      have hsome : (K.enc l[j / K.size])[j % K.size]? = some ((K.enc l[j / K.size])[j % K.size]'(by rw [K.len]; exact hr)) := List.getElem?_eq_getElem _
      have hfl := El.flat_get K l (j / K.size) hil (j % K.size) _ hsome
      have hdm : j / K.size * K.size + j % K.size = j := by rw [Nat.mul_comm]; exact Nat.div_add_mod j K.size
      rw [hdm, hj] at hfl
      rw [hsome, ← hfl] at hcell
      rw [← hcell]
      rw [Addr.add_lit, Addr.add_lit, Nat.add_assoc, hdm]
    · have hD : ((List.range len).map D).getD i .nil = D i := by simp [List.getD_eq_getElem?_getD, hi]
      rw [hD]; exact (hl9 i hi).2
theorem rd_slice' (K : El α) (Good : α → Prop) (hu : P.underlying t = some (.slice e)) (hc : P.cellsOf e = K.size) (hpos : 0 < K.size)
    (hdec : ∀ n cs y, DataW.trod enc P W base spare held n e cs = some y → ∃ a, K.enc a = cs ∧ Good a) (h : DataW.Trod enc P W base spare held t (.slice A len cap) d ps) :
    ∃ l : List α, Rd W A len cap K.size (K.flat l) ∧ l.length = len ∧ ∀ x ∈ l, Good x := by
  obtain ⟨l, hr, hl, hd⟩ := rd_slice K (fun a _ => Good a) hu hc hpos hdec h
  refine ⟨l, hr, hl, fun x hx => ?_⟩
  rcases hd with ⟨rfl, _⟩ | ⟨ds, sp, _, _, hg⟩
  · cases hx
  · obtain ⟨i, hi, rfl⟩ := List.getElem_of_mem hx
    have := hg i (by omega)
    rwa [List.getD_eq_getElem?_getD, List.getElem?_eq_getElem hi] at this
/-- A slice is no longer than its weight allows. -/
theorem sized_any {ts : List TypeId} {ds : List (DataW H)} {j : Nat} (hsz : (DataW.weightsEach P ts ds).all (· ≤ reachBytes) = true) (ht : ts[j]? = some t) (hd : ds[j]? = some d) (hu : P.underlying t = some (.slice e)) {B : Nat} (hB : P.bytesOf e = B)
    (h : DataW.Trod enc P W base spare held t (.slice A len cap) d ps) : len * B ≤ 140737488351232 := by
  obtain ⟨fuel, hf⟩ := h
  rcases open_slice hu hf with ⟨hcs, hx⟩ | ⟨a, len', cap', m, n, D, Pl, hcs, hb, hl, hm, hmm, hx, hel⟩
  · simp [Value.cells] at hcs
    obtain ⟨rfl, rfl, rfl⟩ := hcs
    simp
  · simp [Value.cells] at hcs
    obtain ⟨rfl, rfl, rfl⟩ := hcs
    obtain ⟨hx, _⟩ := Prod.mk.inj hx
    subst hx
    have z := sized_slice hsz ht hd hu
    rw [hB] at z
    simp only [List.length_map, List.length_range] at z
    exact Nat.le_trans (Nat.mul_le_mul_right _ (Nat.le_add_right _ _)) z
end

section
variable {H : Type} {enc : TypeId × Value → H} {P : Program} {W : World} {base fuel : Nat} {spare : Nat → Bool} {held : Bool} {t : TypeId} {cs : List Value} {x : DataW H × List MemPlace}
theorem trod_at {fs : Array Field} (ht : P.underlying t = some (.struct fs)) (h : DataW.trod enc P W base spare held fuel t cs = some x) :
    ∃ (n : Nat) (xs : List (DataW H × List MemPlace)), x.1 = .agg (xs.map (·.1)) ∧ cs.length = P.cellsOf t ∧
      ∀ (i : Nat) (f : Field), fs[i]? = some f → ∃ y, xs[i]? = some y ∧ DataW.trod enc P W base spare held n f.type ((cs.drop f.offset).take (P.cellsOf f.type)) = some y := by
  obtain ⟨xs, n, _, hx, hl, hn, hf⟩ := DataW.trod_struct ht h
  refine ⟨n, xs, by rw [hx], hl, fun i f hif => ?_⟩
  have hi : i < xs.length := by rw [hn]; exact (Array.getElem?_eq_some_iff.1 hif).1
  have := hf i f hif
  rw [List.getElem?_eq_getElem hi] at this ⊢
  exact ⟨_, rfl, this⟩
theorem bulk_part {xs : List (DataW H × List MemPlace)} {y : DataW H × List MemPlace} {i : Nat} (hx : x.1 = .agg (xs.map (·.1))) (hy : xs[i]? = some y) : Rows.uptoBulk y.1 + 1 ≤ Rows.uptoBulk x.1 := by
  rw [hx]
  have hm : y.1 ∈ xs.map (·.1) := List.mem_map.2 ⟨y, List.mem_of_getElem? hy, rfl⟩
  have part : ∀ (l : List (DataW H)) (d : DataW H), d ∈ l → Rows.uptoBulk d ≤ Rows.uptoBulkAll l := by
    intro l
    induction l with
    | nil => intro d hd; cases hd
    | cons a r ih =>
      intro d hd
      simp only [Rows.uptoBulkAll]
      rcases List.mem_cons.1 hd with rfl | hd
      · omega
      · have := ih d hd; omega
  have := part _ _ hm
  simp only [Rows.uptoBulk]
  omega
theorem trod_float {k : FloatKind} (ht : P.underlying t = some (.float k)) (h : DataW.trod enc P W base spare held fuel t cs = some x) : ∃ n, cs = [.float k n] := by
  cases fuel with
  | zero => simp [DataW.trod] at h
  | succ n =>
    unfold DataW.trod at h
    rw [ht] at h
    split at h <;> simp_all
theorem trod_sliceF {e : TypeId} (ht : P.underlying t = some (.slice e)) (h : DataW.trod enc P W base spare held fuel t cs = some x) :
    ∃ A n c, cs = [.slice A n c] ∧ DataW.Trod enc P W base spare held t (.slice A n c) x.1 x.2 ∧ n ≤ c ∧ c ≤ maxLen := by
  rcases open_slice ht h with ⟨rfl, hx⟩ | ⟨a, len, cap, m, n, D, Pl, rfl, hb, hl, hm, hmm, hx, hel⟩
  · exact ⟨_, _, _, rfl, ⟨fuel, h⟩, Nat.le_refl _, Nat.zero_le _⟩
  · exact ⟨_, _, _, rfl, ⟨fuel, h⟩, hl, hm⟩
end
end Go.Proofs.Ytcifdianinbkeaa.Lg
set_option linter.unusedVariables false
set_option linter.unusedSimpArgs false
namespace Go.Proofs.Ytcifdianinbkeaa.Lg
open Go Go.RowKit Go.Deep Go.ChangeShapes Go.WideShapes
section
variable {H : Type} {enc : TypeId × Value → H} {P : Program} {W : World} {base fuel : Nat} {spare : Nat → Bool} {held : Bool} {t e : TypeId} {A : Option Addr} {len cap : Nat} {d : DataW H} {ps : List MemPlace} {α : Type}
theorem light_part {fs : Array Field} {f : Field} {xs : List (DataW H × List MemPlace)} {x y : DataW H × List MemPlace} {i : Nat} (ht : P.underlying t = some (.struct fs)) (hf : fs[i]? = some f) (hx : x.1 = .agg (xs.map (·.1))) (hy : xs[i]? = some y) : ∀ m ∈ y.1.weights P f.type, m ∈ x.1.weights P t := fun m hm => by
  rw [hx]
  simp only [DataW.weights, ht]
  exact DataW.weights_mem_each (j := i) (by simp [hf]) (by simp [hy]) m hm
end
end Go.Proofs.Ytcifdianinbkeaa.Lg
set_option linter.unusedVariables false
set_option linter.unusedSimpArgs false
namespace Go.Proofs.Ytcifdianinbkeaa.Lg
open Go Go.RowKit
section
variable {P : Program} {E : Env} {w : World} {ty t : TypeId}
theorem run_buildO {parts : List (Nat × Operand)} {pv : List (Nat × Value)} {cells : Array Value} (hp : parts.map (fun p => (p.1, ev E p.2)) = pv.map (fun p => (p.1, some p.2))) (hb : P.built t pv = some cells) :
    RunO P E (.build t parts.toArray) ty w (.agg cells) w := fun n D a dst ps af g ha => by
  have hpv := evp_map ha hp
  have hrun := run_build (P := P) w t pv.toArray cells (by simpa using hb)
  simp only [execOp, List.map_toArray, hpv, hrun, Sem.run_bind, Sem.run_pure, Result.andThen_ok]
end
end Go.Proofs.Ytcifdianinbkeaa.Lg
set_option linter.unusedVariables false
set_option linter.unusedSimpArgs false
namespace Go.Proofs.Ytcifdianinbkeaa.Lg
open Go Go.RowKit
section
variable {P : Program} {E : Env} {w : World} {ty t t' : TypeId} {x y : Operand} {d off : Nat} {xs ys : Array Value} {a b : Value} {r r1 r2 : Bool} {f : Field} {fs : List Field}
def EqT (P : Program) (d : Nat) (t : TypeId) (a b : Value) (r : Bool) : Prop := ∀ w, (Op.equalIn d t a b).run P w = .ok r w
def EqF (P : Program) (d : Nat) (xs ys : Array Value) (fs : List Field) (r : Bool) : Prop := ∀ w, (Op.eqFields d xs ys fs).run P w = .ok r w
theorem EqF.nil : EqF P d xs ys [] true := fun w => by simp [Op.eqFields]
theorem EqF.cons (hn : (f.name == "_") = false) (ha : ∀ w, (part f.type xs f.offset).run P w = .ok a w) (hb : ∀ w, (part f.type ys f.offset).run P w = .ok b w) (h1 : EqT P d f.type a b r1) (h2 : EqF P d xs ys fs r2) : EqF P d xs ys (f :: fs) (r1 && r2) := fun w => by
  have hn' : f.name ≠ "_" := by simpa using hn
  simp only [Op.eqFields, if_pos hn', Sem.run_bind, ha w, hb w, h1 w, Result.andThen_ok]
  cases r1
  · simp
  · simpa using h2 w
theorem EqT.int {k k' : IntKind} {m n : Int} (h : P.underlying t = some (.int k')) : EqT P (d + 1) t (.int k m) (.int k n) (m == n) := fun w => run_equalIn_int w d t k k' m n h
theorem EqT.bool {m n : Bool} (h : P.underlying t = some .bool) : EqT P (d + 1) t (.bool m) (.bool n) (m == n) := fun w => run_equalIn_bool' w d t m n h
theorem EqT.struct {fa : Array Field} (ht : P.underlying t = some (.struct fa)) (hp : P.stoodInHeld t = false) (hf : EqF P d xs ys fa.toList r) : EqT P (d + 1) t (.agg xs) (.agg ys) r := fun w => by
  have e : P.fieldsOf t = fa := by simp [Program.fieldsOf, ht]
  rw [run_equalIn_struct w d t xs ys (by rw [e]; exact ht) hp, e]
  exact hf w
end

/-! Rows, each owned. -/
abbrev nilV : Value := .slice none 0 0
section
variable {α : Type}
def rowsA (T : TypeId) (K : El α) : List Value → List (List α) → List Assn
  | v :: vs, x :: xs => Own T K.size v x.length (K.flat x) :: rowsA T K vs xs
  | _, _ => []
theorem rowsA_get (T : TypeId) (K : El α) : ∀ (vs : List Value) (xss : List (List α)) (k : Nat), vs.length = xss.length → k < vs.length →
    (rowsA T K vs xss)[k]? = some (Own T K.size (vs.getD k nilV) (xss.getD k []).length (K.flat (xss.getD k [])))
  | v :: vs, x :: xs, 0, _, _ => by simp [rowsA]
  | v :: vs, x :: xs, k + 1, h, hk => by simpa [rowsA] using rowsA_get T K vs xs k (by simpa using h) (by simpa using hk)
  | [], _, _, _, hk => by simp at hk
  | _ :: _, [], _, h, _ => by simp at h
theorem rowsA_put (T : TypeId) (K : El α) (v' : Value) (x' : List α) : ∀ (vs : List Value) (xss : List (List α)) (k : Nat), vs.length = xss.length → k < vs.length →
    (Own T K.size v' x'.length (K.flat x') :: (rowsA T K vs xss).eraseIdx k).Perm (rowsA T K (vs.set k v') (xss.set k x'))
  | v :: vs, x :: xs, 0, _, _ => by simp [rowsA]
  | v :: vs, x :: xs, k + 1, h, hk => by
    have ih := rowsA_put T K v' x' vs xs k (by simpa using h) (by simpa using hk)
    simp only [rowsA, List.eraseIdx_cons_succ, List.set_cons_succ]
    exact (List.Perm.swap _ _ _).trans (ih.cons _)
  | [], _, _, _, hk => by simp at hk
  | _ :: _, [], _, h, _ => by simp at h
theorem rowsA_snoc (T : TypeId) (K : El α) (v' : Value) (x' : List α) : ∀ (vs : List Value) (xss : List (List α)), vs.length = xss.length →
    (Own T K.size v' x'.length (K.flat x') :: rowsA T K vs xss).Perm (rowsA T K (vs ++ [v']) (xss ++ [x']))
  | [], [], _ => by simp [rowsA]
  | v :: vs, x :: xs, h => by
    have ih := rowsA_snoc T K v' x' vs xs (by simpa using h)
    simp only [rowsA, List.cons_append]
    exact (List.Perm.swap _ _ _).trans (ih.cons _)
  | [], _ :: _, h => by simp at h
  | _ :: _, [], h => by simp at h
theorem eraseIdx_app {β : Type} (pre L : List β) (k : Nat) : (pre ++ L).eraseIdx (pre.length + k) = pre ++ L.eraseIdx k := by
  induction pre with
  | nil => simp
  | cons a pre ih => simp only [List.cons_append, List.length_cons, Nat.add_right_comm, List.eraseIdx_cons_succ, ih]
variable {B w : World} {pre : List Assn} {T : TypeId} {K : El α} {vs : List Value} {xss : List (List α)}
theorem Sat.row_out (k : Nat) (hs : Sat B w (pre ++ rowsA T K vs xss)) (hl : vs.length = xss.length) (hk : k < vs.length) : Sat B w (Own T K.size (vs.getD k nilV) (xss.getD k []).length (K.flat (xss.getD k [])) :: (pre ++ (rowsA T K vs xss).eraseIdx k)) := by
  have h := hs.front (pre.length + k) (by rw [List.getElem?_append_right (by omega), Nat.add_sub_cancel_left]; exact rowsA_get T K vs xss k hl hk)
  rwa [eraseIdx_app] at h
theorem Sat.row_in (k : Nat) {v' : Value} {n' : Nat} {c' : List Value} (x' : List α) (hs : Sat B w (Own T K.size v' n' c' :: (pre ++ (rowsA T K vs xss).eraseIdx k))) (hn : n' = x'.length) (hc : c' = K.flat x') (hl : vs.length = xss.length) (hk : k < vs.length) :
    Sat B w (pre ++ rowsA T K (vs.set k v') (xss.set k x')) := by
  subst hn hc
  refine hs.perm (List.Perm.trans ?_ (List.Perm.append_left pre (rowsA_put T K v' x' vs xss k hl hk)))
  exact (List.perm_middle).symm
theorem Sat.row_add {v' : Value} {n' : Nat} {c' : List Value} (x' : List α) (hs : Sat B w (Own T K.size v' n' c' :: (pre ++ rowsA T K vs xss))) (hn : n' = x'.length) (hc : c' = K.flat x') (hl : vs.length = xss.length) :
    Sat B w (pre ++ rowsA T K (vs ++ [v']) (xss ++ [x'])) := by
  subst hn hc
  refine hs.perm (List.Perm.trans ?_ (List.Perm.append_left pre (rowsA_snoc T K v' x' vs xss hl)))
  exact (List.perm_middle).symm
theorem Sat.rows_nil (T : TypeId) (K : El α) (n : Nat) (hs : Sat B w pre) : Sat B w (pre ++ rowsA T K (List.replicate n nilV) (List.replicate n [])) := by
  induction n with
  | zero => simpa [rowsA] using hs
  | succ n ih =>
    have := ih.own_nil T K.size
    simp only [List.replicate_succ, rowsA]
    exact this.perm (List.perm_middle).symm
/-- What slices of rows show. -/
def PartsK (K : El α) (w : World) (vs : List Value) (xss : List (List α)) : Prop :=
  vs.length = xss.length ∧ ∀ i, i < xss.length → ∃ A n c, vs.getD i nilV = .slice A n c ∧ Rd w A n c K.size (K.flat (xss.getD i []))
theorem PartsK.grow {w w' : World} (h : PartsK K w vs xss) (hb : Below w.heap.size w w') : PartsK K w' vs xss :=
  ⟨h.1, fun i hi => let ⟨A, n, c, e, r⟩ := h.2 i hi; ⟨A, n, c, e, r.grow hb⟩⟩
theorem PartsK.inB {L : List Assn} (h : PartsK K B vs xss) (hs : Sat B w L) : PartsK K w vs xss := h.grow hs.below
theorem PartsK.nil (K : El α) (w : World) : PartsK K w [] [] := ⟨rfl, fun i hi => by simp at hi⟩
theorem PartsK.cons {A : Option Addr} {n c : Nat} {l : List α} (hr : Rd w A n c K.size (K.flat l)) (h : PartsK K w vs xss) : PartsK K w (.slice A n c :: vs) (l :: xss) :=
  ⟨by simp [h.1], fun i hi => by
    cases i with
    | zero => exact ⟨A, n, c, rfl, hr⟩
    | succ i => simpa using h.2 i (by simpa using hi)⟩
theorem Sat.parts (hs : Sat B w (pre ++ rowsA T K vs xss)) (hl : vs.length = xss.length) : PartsK K w vs xss := ⟨hl, fun i hi => by
  have h := hs.row_out i hl (by omega)
  obtain ⟨A, c, hv, _⟩ := h.own_form
  rw [hv] at h
  exact ⟨A, _, c, hv, h.rd⟩⟩
end
end Go.Proofs.Ytcifdianinbkeaa.Lg
set_option linter.unusedVariables false
set_option linter.unusedSimpArgs false
namespace Go.Proofs.Ytcifdianinbkeaa.Lg
open Go Go.RowKit

theorem Sat.own_blk {B w : World} {T size g n c : Nat} {xs : List Value} {L : List Assn} (hs : Sat B w (Own T size (.slice (some ⟨g, 0, none⟩) n c) n xs :: L)) :
    ∃ cur : List Value, cur.length = c * size ∧ cur.take (n * size) = xs ∧ n ≤ c ∧ c ≤ maxLen ∧ xs.length = n * size ∧ Sat B w (Blk g cur T :: L) := by
  have h1 : Sat B w ((fun h => ∃ cur : List Value, (cur.length = c * size ∧ cur.take (n * size) = xs ∧ n ≤ c ∧ c ≤ maxLen ∧ xs.length = n * size) ∧ Blk g cur T h) :: L) := hs.imp (by
    rintro h ⟨hl, hA⟩
    rcases hA with ⟨h0, _⟩ | ⟨g', cap, cur, h0, h2, h3, h4, h5, hi⟩
    · cases h0
    · cases h0
      exact ⟨cur.toList, ⟨by simpa using h4, h5, h2, h3, hl⟩, by simpa [Blk] using hi⟩)
  obtain ⟨cur, h2⟩ := Sat.ex h1
  obtain ⟨⟨a, b, d, e, f⟩, h3⟩ := Sat.pure h2
  exact ⟨cur, a, b, d, e, f, h3⟩
theorem Sat.blk_own {B w : World} {T size g n c : Nat} {xs cur : List Value} {L : List Assn} (hs : Sat B w (Blk g cur T :: L)) (h1 : cur.length = c * size) (h2 : cur.take (n * size) = xs) (h3 : n ≤ c) (h4 : c ≤ maxLen) : Sat B w (Own T size (.slice (some ⟨g, 0, none⟩) n c) n xs :: L) := hs.imp (by
  intro h hb
  have hle : n * size ≤ c * size := Nat.mul_le_mul_right _ h3
  refine ⟨by rw [← h2, List.length_take]; omega, .inr ⟨g, c, cur.toArray, rfl, h3, h4, by simpa using h1, by simpa using h2, hb⟩⟩)

section
variable {P : Program} {ops : Array Oper} {n : Nat} {D : List Deferred} {E : Env} {B w : World} {L : List Assn} {Q : Exit → Act → World → Prop} {rest : List Oper} {ty : TypeId} {ps : String} {af : Array Edge} {d : Nat} {v : Value} {x y : Operand} {e t : TypeId}
/-- A whole struct stored into a block, from off on. -/
theorem Ls_storeAggAt {b off T size bytes : Nat} {cs us : List Value} {z : Value} (hs : Sat B w (Blk b cs T :: L)) (hi : Inf P t z size bytes) (hx : ev E x = some (.pointer (some ⟨b, off, none⟩))) (hy : ev E y = some (.agg us.toArray)) (hu : us.length = size) (hc : off + size ≤ cs.length) (hv : ∀ u ∈ us, u.oneCell' = true)
    (h : ∀ w', Sat B w' (Blk b (cs.take off ++ us ++ cs.drop (off + size)) T :: L) → Ls P ops n D E w' rest Q) : Ls P ops n D E w (⟨none, .store t x y, ty, ps, af, none⟩ :: rest) Q := by
  have h1 := hi.sizeOf (P := P) w
  have key : ∀ (l : List Value) (i : Nat) (w0 : World) (c0 : List Value), Sat B w0 (Blk b c0 T :: L) → off + i + l.length ≤ c0.length → (∀ u ∈ l, u.oneCell' = true) →
      ∃ w1, (storeCells ⟨b, off, none⟩ l i).run P w0 = .ok () w1 ∧ Sat B w1 (Blk b (c0.take (off + i) ++ l ++ c0.drop (off + i + l.length)) T :: L) := by
    intro l
    induction l with
    | nil =>
      intro i w0 c0 hs0 hl _
      exact ⟨w0, by simp [storeCells], by simpa using hs0⟩
    | cons u l ih =>
      intro i w0 c0 hs0 hl hv0
      have hi : off + i < c0.length := by simp at hl; omega
      have hc := hs0.blk_cell (off + i) (List.getElem?_eq_getElem hi)
      have h3 := Go.run_store P w0 ⟨b, off + i, none⟩ u .plain (hv0 u (by simp))
      rw [hc.1] at h3
      simp only [hc.2] at h3
      obtain ⟨w1, hr1, hs1⟩ := ih (i + 1) _ _ (hs0.set_cell (off + i) u) (by simp at hl ⊢; omega) (fun q hq => hv0 q (by simp [hq]))
      refine ⟨w1, ?_, ?_⟩
      · have e1 : (⟨b, off, none⟩ : Addr).add i = ⟨b, off + i, none⟩ := by rw [Addr.add_lit]
        simp only [storeCells, Sem.run_bind, e1]
        simp only [h3, Bool.false_eq_true, if_false, Result.andThen_ok]
        exact hr1
      · have e2 : (c0.set (off + i) u).take (off + (i + 1)) = c0.take (off + i) ++ [u] := by
          rw [← Nat.add_assoc, List.take_succ_eq_append_getElem (by simpa using hi), List.take_set_of_le (Nat.le_refl _)]
          simp
        have e3 : (c0.set (off + i) u).drop (off + (i + 1) + l.length) = c0.drop (off + i + (u :: l).length) := by
          rw [List.drop_set_of_lt (by omega)]
          congr 1
          simp; omega
        rw [e2, e3] at hs1
        simpa using hs1
  obtain ⟨w1, hr1, hs1⟩ := key us 0 w cs hs (by omega) hv
  refine Ls_skip0 (w' := w1) ?_ (h w1 (by simpa [hu] using hs1))
  intro n D a dst ps af g ha
  have h4 : ¬ us.toArray.size ≠ size := by simp [hu]
  simp only [execOp, ha.eval hx, ha.eval hy, Instr.storeAt, Instr.sureAddr, Sem.run_bind, Sem.run_pure, Result.andThen_ok, storeVar, h1, Value.cells]
  simp only [if_neg h4]
  simp [hr1]
/-- A cell of a row of structs of one's own. -/
theorem Ls_storeOwnC {g i T size bytes nn c : Nat} {xs : List Value} {z : Value} (hs : Sat B w (Own T size (.slice (some ⟨g, 0, none⟩) nn c) nn xs :: L)) (hi : Inf P t z 1 bytes) (hx : ev E x = some (.pointer (some ⟨g, i, none⟩))) (hy : ev E y = some v) (hv : v.oneCell' = true) (hin : i < nn * size)
    (h : ∀ w', Sat B w' (Own T size (.slice (some ⟨g, 0, none⟩) nn c) nn (xs.set i v) :: L) → Ls P ops n D E w' rest Q) : Ls P ops n D E w (⟨none, .store t x y, ty, ps, af, none⟩ :: rest) Q := by
  obtain ⟨cur, h1, h2, h3, h4, h5, hs1⟩ := hs.own_blk
  have hle : nn * size ≤ c * size := Nat.mul_le_mul_right _ h3
  refine Ls_store hs1 hi hx hy hv (by rw [Nat.blt_eq]; omega) (fun w' hs' => h w' (hs'.blk_own (by simpa using h1) ?_ h3 h4))
  rw [← h2, List.take_set]
end
end Go.Proofs.Ytcifdianinbkeaa.Lg
set_option linter.unusedVariables false
set_option linter.unusedSimpArgs false
namespace Go.Proofs.Ytcifdianinbkeaa.Lg
open Go Go.RowKit
/-- A part of memory in which F can be read, whatever lies around it. -/
def Keep (F : World → Prop) : Assn := fun h => ∀ w : World, (∀ b o, h b = some o → w.heap[b]? = some o) → F w
theorem Stars.app : ∀ {L1 L : List Assn} {h : Heap}, Stars (L1 ++ L) h → ∃ h1 h2, Stars L1 h1 ∧ Stars L h2 ∧ (∀ b, h1 b = none ∨ h2 b = none) ∧ ∀ b, h b = (h1 b).or (h2 b)
  | [], L, h, hs => ⟨fun _ => none, h, fun _ => rfl, hs, fun _ => .inl rfl, fun b => by simp⟩
  | A :: L1, L, h, hs => by
    obtain ⟨h1, h2, hA, hL, hd, he⟩ := hs
    obtain ⟨h3, h4, h3L, h4L, hd2, he2⟩ := Stars.app (L1 := L1) hL
    exact ⟨fun b => (h1 b).or (h3 b), h4, ⟨h1, h3, hA, h3L, fun b => o_join1 (hd b) (he2 b) (hd2 b), fun _ => rfl⟩, h4L, fun b => o_join2 (hd b) (he2 b) (hd2 b), fun b => o_join3 (he b) (he2 b)⟩
theorem Sat.toKeep {B w : World} {L1 L : List Assn} {F : World → Prop} (hF : ∀ B w, Sat B w L1 → F w) (hs : Sat B w (L1 ++ L)) : Sat B w (Keep F :: L) := by
  obtain ⟨hb, h, hL, hw⟩ := hs
  obtain ⟨h1, h2, h3, h4, hd, he⟩ := Stars.app hL
  refine ⟨hb, h, ⟨h1, h2, fun w' hw' => hF { w' with heap := #[] } w' ⟨⟨rfl, rfl, rfl, by simp, fun k hk => by simp at hk⟩, h1, h3, fun b o hbo => ⟨by simp, hw' b o hbo⟩⟩, h4, hd, he⟩, hw⟩
theorem Sat.kept {B w : World} {L : List Assn} {F : World → Prop} (hs : Sat B w L) (i : Nat) (hi : L[i]? = some (Keep F)) : F w := by
  obtain ⟨h1, hA, hw⟩ := (hs.front i hi).head
  exact hA w (fun b o hbo => (hw b o hbo).2)
/-! Rows that turn one after another. -/
section
variable {α : Type}
variable {f g : List α → List α} {D : List (List α)} {i : Nat}
theorem set_getD_same {β : Type} {l : List β} {d : β} (hi : i < l.length) : l.set i (l.getD i d) = l := by
  rw [List.getD_eq_getElem?_getD, List.getElem?_eq_getElem hi]; simp
end
end Go.Proofs.Ytcifdianinbkeaa.Lg
set_option linter.unusedVariables false
set_option linter.unusedSimpArgs false
namespace Go.Proofs.Ytcifdianinbkeaa.Lg
open Go Go.RowKit
theorem run_nilCheck {P : Program} {E : Env} {ty : TypeId} {w : World} {x : Operand} {a : Addr} (hx : ev E x = some (.pointer (some a))) : RunO P E (.nilCheck x) ty w (.pointer (some a)) w := fun n D a' dst ps af g ha => by
  simp [execOp, ha.eval hx]
theorem Stars.mk_app : ∀ {M L : List Assn} {h h1 h2 : Heap}, Stars M h1 → Stars L h2 → (∀ b, h1 b = none ∨ h2 b = none) → (∀ b, h b = (h1 b).or (h2 b)) → Stars (M ++ L) h
  | [], L, h, h1, h2, hM, hL, hd, he => by
    have : h = h2 := funext fun b => by rw [he b, hM b]; simp
    rw [this]; exact hL
  | A :: M, L, h, h1, h2, ⟨h3, h4, hA, hM, hd2, he2⟩, hL, hd, he =>
    ⟨h3, fun b => (h4 b).or (h2 b), hA, Stars.mk_app hM hL (fun b => o_app1 (he2 b) (hd b)) (fun _ => rfl), fun b => o_app2 (he2 b) (hd2 b) (hd b), fun b => by rw [he b]; exact o_app3 (he2 b)⟩
/-- Many parts as one. -/
theorem Sat.pack {B w : World} {M L : List Assn} (hs : Sat B w (M ++ L)) : Sat B w ((fun h => Stars M h) :: L) := by
  obtain ⟨hb, h, hL, hw⟩ := hs
  obtain ⟨h1, h2, h3, h4, hd, he⟩ := Stars.app hL
  exact ⟨hb, h, ⟨h1, h2, h3, h4, hd, he⟩, hw⟩
theorem Sat.unpack {B w : World} {M L : List Assn} (hs : Sat B w ((fun h => Stars M h) :: L)) : Sat B w (M ++ L) := by
  obtain ⟨hb, h, ⟨h1, h2, h3, h4, hd, he⟩, hw⟩ := hs
  exact ⟨hb, h, Stars.mk_app h3 h4 hd he, hw⟩
/-- An object: some choice of what is not told, and the parts that it then has. -/
def Thing {σ : Type} (p : σ → Prop) (M : σ → List Assn) : Assn := fun h => ∃ s, p s ∧ Stars (M s) h
theorem Sat.openObj {σ : Type} {B w : World} {p : σ → Prop} {M : σ → List Assn} {L : List Assn} (hs : Sat B w (Thing p M :: L)) : ∃ s, p s ∧ Sat B w (M s ++ L) := by
  obtain ⟨s, h1⟩ := Sat.ex (A := fun s h => p s ∧ Stars (M s) h) hs
  obtain ⟨h2, h3⟩ := Sat.pure h1
  exact ⟨s, h2, h3.unpack⟩
theorem Sat.shutObj {σ : Type} {B w : World} {p : σ → Prop} {M : σ → List Assn} {L : List Assn} (s : σ) (hp : p s) (hs : Sat B w (M s ++ L)) : Sat B w (Thing p M :: L) :=
  hs.pack.imp fun h hh => ⟨s, hp, hh⟩
theorem perm_rows {a b : Assn} {R L : List Assn} : ((a :: b :: R) ++ L).Perm (a :: b :: (L ++ R)) := List.Perm.cons a (List.Perm.cons b List.perm_append_comm)
/-- One block, read: what is owned around it does not matter. -/
theorem Sat.ofBlk {w : World} {b T : Nat} {cs : List Value} (h : w.heap[b]? = some (.cells cs.toArray T (0, 0))) : Sat { w with heap := #[] } w [Blk b cs T] := by
  refine ⟨⟨rfl, rfl, rfl, by simp, fun k hk => by simp at hk⟩, fun b' => if b' = b then some (.cells cs.toArray T (0, 0)) else none, ⟨_, fun _ => none, fun _ => rfl, fun _ => rfl, fun _ => .inr rfl, fun b' => by simp⟩, fun b' o ho => ⟨by simp, ?_⟩⟩
  by_cases e : b' = b
  · subst e; simp at ho; subst ho; exact h
  · simp [e] at ho
section
variable {α : Type} {B w : World} {pre : List Assn} {T : TypeId} {K : El α} {vs : List Value} {xss : List (List α)}
/-- A row gives way to another. -/
theorem Sat.row_swap (k : Nat) {v' : Value} {n' : Nat} {c' : List Value} (x' : List α) (hs : Sat B w (Own T K.size v' n' c' :: (pre ++ rowsA T K vs xss))) (hn : n' = x'.length) (hc : c' = K.flat x') (hl : vs.length = xss.length) (hk : k < vs.length) :
    Sat B w (pre ++ rowsA T K (vs.set k v') (xss.set k x')) :=
  Sat.row_in k x' (Sat.row_out (pre := Own T K.size v' n' c' :: pre) k hs hl hk).tail hn hc hl hk
end
/-- What can be read beside anything that leaves L as it is. -/
theorem Sat.rdL {B w : World} {pre R L : List Assn} {F : World → Prop} (hF : ∀ w' X, Sat B w' (X :: L) → F w') (hs : Sat B w (pre ++ (L ++ R))) : F w :=
  hF w _ (Sat.pack (M := pre ++ R) (hs.perm (by rw [List.append_assoc]; exact List.Perm.append_left pre List.perm_append_comm)))
end Go.Proofs.Ytcifdianinbkeaa.Lg
set_option linter.unusedVariables false
set_option linter.unusedSimpArgs false
namespace Go.Proofs.Ytcifdianinbkeaa.Lg
open Go Go.RowKit

section
variable {P : Program} {ops : Array Oper} {Q : Exit → Act → World → Prop} {md : Region.Mode} {H H2 : World → Prop} {j : Nat}
def closedB (j : Nat) (listed : Array Bool) : Bool := listed.getD j false

def wpC (j : Nat) (H : World → Prop) (P : Program) (md : Region.Mode) (ops : Array Oper) (Q : Exit → Act → World → Prop) : Nat → Array Bool → Act → World → Prop
  | 0, listed, a, w => Region.ready md ops listed = [] ∧ Q .normal a w
  | fuel + 1, listed, a, w =>
    (Region.ready md ops listed = [] → Q .normal a w) ∧
    ∀ i ∈ Region.ready md ops listed, wpOp P ops Q i (fun a' w' => (closedB j (listed.setIfInBounds i true) = false → H w') ∧ wpC j H P md ops Q fuel (listed.setIfInBounds i true) a' w') a w

theorem wpC_sound : ∀ (fuel : Nat) (listed : Array Bool) (a : Act) (w : World), wpC j H P md ops Q fuel listed a w → wpAny P md ops Q fuel listed a w := by
  intro fuel
  induction fuel with
  | zero => intro listed a w h; exact h
  | succ fuel ih =>
    intro listed a w h
    exact ⟨h.1, fun i hi => wpOp_mono (fun a' w' hh => ih _ a' w' hh.2) (h.2 i hi)⟩

theorem getD_set_self {L : Array Bool} {i : Nat} : closedB i (L.setIfInBounds i true) = true ∨ L.size ≤ i := by
  rcases Nat.lt_or_ge i L.size with h | h
  · left; simp [closedB, h]
  · exact .inr h
theorem closedB_set_ne {L : Array Bool} {i k : Nat} (h : i ≠ k) : closedB k (L.setIfInBounds i true) = closedB k L := by
  have := getD_set_ne (listed := L) false h
  exact this
theorem closedB_set {L : Array Bool} {i k : Nat} (h : closedB k L = true) : closedB k (L.setIfInBounds i true) = true := by
  by_cases e : i = k
  · subst e
    rcases getD_set_self (L := L) (i := i) with h1 | h1
    · exact h1
    · simp [closedB, Array.getD, Nat.not_lt.2 h1] at h
  · rw [closedB_set_ne e]; exact h

/-- Each of S waits for another of S, or is i. -/
def Waits (md : Region.Mode) (ops : Array Oper) (i : Nat) (S : List Nat) : Prop := ∀ s ∈ S, s = i ∨ ∃ o e, ops[s]? = some o ∧ e ∈ o.after ∧ Region.binds md e = true ∧ e.on ∈ S
def waitsB (md : Region.Mode) (ops : Array Oper) (listed : Array Bool) (i j : Nat) (S : List Nat) : Bool :=
  S.all (fun s => (Nat.beq s i || (match ops[s]? with | some o => o.after.any (fun e => Region.binds md e && S.contains e.on) | none => false)) && !(listed.getD s true)) && S.contains j && !(Nat.beq i j)
theorem waitsB_spec {listed : Array Bool} {i j : Nat} {S : List Nat} (h : waitsB md ops listed i j S = true) : Waits md ops i S ∧ (∀ s ∈ S, listed.getD s true = false) ∧ j ∈ S ∧ i ≠ j := by
  unfold waitsB at h
  simp only [Bool.and_eq_true, List.all_eq_true] at h
  obtain ⟨⟨h1, h2⟩, h3⟩ := h
  refine ⟨fun s hs => ?_, fun s hs => by simpa using (h1 s hs).2, by simpa using h2, fun e => by subst e; simp at h3⟩
  have := (h1 s hs).1
  simp only [Bool.or_eq_true] at this
  rcases this with h | h
  · exact .inl (Nat.eq_of_beq_eq_true h)
  · right
    cases ho : ops[s]? with
    | none => simp [ho] at h
    | some o =>
      simp only [ho] at h
      obtain ⟨e, he, hb⟩ := Array.any_eq_true'.1 h
      simp only [Bool.and_eq_true] at hb
      exact ⟨o, e, rfl, he, hb.1, by simpa using hb.2⟩

theorem wpC_first {i : Nat} {oi : Oper} {v : Value} {S : List Nat} (hij : i ≠ j) (hi : ops[i]? = some oi) (hsel : ∀ (j : Nat) (o : Oper) cs b, ops[j]? = some o → o.op ≠ .select cs b)
    (hQ : ∀ c a w, Q (.panic c) (a.put oi.dst v) w → Q (.panic c) a w) (hS : Waits md ops i S)
    (hyld : ∀ listed : Array Bool, (∀ s ∈ S, listed.getD s true = false) → ∀ x, (closedB j listed = false → H x) → H2 x) :
    ∀ (fuel : Nat) (listed : Array Bool) (a : Act) (w : World), (closedB j listed = false → H w) → (∀ s ∈ S, listed.getD s true = false) →
      (∀ j oj, ops[j]? = some oj → j ≠ i → listed.getD j true = false → (∀ e ∈ oj.after, Region.binds md e = true → e.on ≠ i) → oi.apart ops oj = true) →
      i ∈ Region.ready md ops listed → YieldsH H2 P ops oi v a →
      wpC j H P md ops Q fuel (listed.setIfInBounds i true) (a.put oi.dst v) w → wpC j H P md ops Q (fuel + 1) listed a w := by
  intro fuel
  induction fuel with
  | zero =>
    intro listed a w hH hun _ hr hy Hh
    refine ⟨fun h => (by rw [h] at hr; cases hr), fun j' hj => ?_⟩
    by_cases hji : j' = i
    · subst hji; exact hy.wpOp hi (hyld listed hun w hH) ⟨fun hc => hH (by rwa [closedB_set_ne hij] at hc), Hh⟩
    · have := ready_mono hj hji
      rw [Hh.1] at this
      cases this
  | succ fuel ih =>
    intro listed a w hH hun hfree hr hy Hh
    refine ⟨fun h => (by rw [h] at hr; cases hr), fun j' hj => ?_⟩
    by_cases hji : j' = i
    · subst hji; exact hy.wpOp hi (hyld listed hun w hH) ⟨fun hc => hH (by rwa [closedB_set_ne hij] at hc), Hh⟩
    · have h1 := Hh.2 j' (ready_mono hj hji)
      obtain ⟨hjun, oj, hoj, hall⟩ := mem_ready.1 hj
      have hnot : ∀ e ∈ oj.after, Region.binds md e = true → e.on ≠ i := fun e he hb heq => by
        have h1 := hall e he hb
        have h0 := (mem_ready.1 hr).1
        rw [heq] at h1
        rcases Nat.lt_or_ge i listed.size with h' | h'
        · simp [h'] at h0 h1; rw [h0] at h1; cases h1
        · simp [Array.getElem?_eq_none h'] at h1
      have hjS : j' ∉ S := fun hjS => by
        rcases hS j' hjS with e | ⟨o, e, ho, he, hb, hon⟩
        · exact hji e
        · rw [hoj] at ho
          cases ho
          have h1 := hall e he hb
          have h0 := hun _ hon
          rcases Nat.lt_or_ge e.on listed.size with h' | h'
          · simp [h'] at h0 h1; rw [h0] at h1; cases h1
          · simp [Array.getElem?_eq_none h'] at h1
      have h2 := wpOp_putH hoj (hfree j' oj hoj hji hjun hnot) (fun cs b => hsel i oi cs b hi) (fun cs b => hsel j' oj cs b hoj) hQ hy h1
      have hun' : ∀ s ∈ S, (listed.setIfInBounds j' true).getD s true = false := fun s hs => by
        have hne : j' ≠ s := fun e => hjS (e ▸ hs)
        rw [getD_set_ne true hne]; exact hun s hs
      have hfree' : ∀ k ok, ops[k]? = some ok → k ≠ i → (listed.setIfInBounds j' true).getD k true = false →
          (∀ e ∈ ok.after, Region.binds md e = true → e.on ≠ i) → oi.apart ops ok = true := fun k ok hk hki hun hno => by
        refine hfree k ok hk hki ?_ hno
        by_cases hjk : j' = k
        · subst hjk; exact hjun
        · rw [getD_set_ne true hjk] at hun; exact hun
      refine wpOp_mono (fun a' w' h3 => ?_) h2
      have hH' : closedB j (listed.setIfInBounds j' true) = false → H w' := fun hc => h3.2.1 (by rw [Array.setIfInBounds_comm _ _ (Ne.symm hji), closedB_set_ne hij]; exact hc)
      refine ⟨hH', ih (listed.setIfInBounds j' true) a' w' hH' hun' hfree' (ready_mono hr (Ne.symm hji)) h3.1 ?_⟩
      rw [Array.setIfInBounds_comm _ _ hji]
      exact h3.2.2
end

section
variable {P : Program} {ops : Array Oper} {n : Nat} {D : List Deferred} {E : Env} {w : World} {Q : Exit → Act → World → Prop} {H : World → Prop} {fuel j : Nat} {listed : Array Bool} {ty : TypeId} {ps : String} {af : Array Edge} {op : Op} {d : Nat} {v : Value}
def AnC (j : Nat) (H : World → Prop) (P : Program) (ops : Array Oper) (n : Nat) (D : List Deferred) (E : Env) (w : World) (fuel : Nat) (listed : Array Bool) (Q : Exit → Act → World → Prop) : Prop := ∀ a, Good n D E a → wpC j H P .any ops Q fuel listed a w

theorem St_drawC (j : Nat) (H : World → Prop) {id : Nat} (hm : P.follows .mixedOrders = true) (h : ∀ w', Quiet w w' → AnC j H P ops n D E w' ops.size (Array.replicate ops.size false) Q) : St P n D E w (.region id ops true) Q := fun a ha =>
  wp_region_any hm (wpC_sound _ _ _ _ (h { w with drawn := w.drawn + 1 } ⟨rfl, rfl, rfl, rfl⟩ a ha))
/-- What looks at memory, and comes before j. -/
theorem AnC_take (i : Nat) (S : List Nat) (hi : ops[i]? = some ⟨some d, op, ty, ps, af, none⟩) (hs : Region.noSelect ops = true) (hf : Region.free .any ops listed i = true) (hrd : (Region.ready .any ops listed).contains i = true) (hS : waitsB .any ops listed i j S = true)
    (hQ : ∀ c a w, Q (.panic c) (a.put (some d) v) w → Q (.panic c) a w) (hH : H w) (hr : ∀ x, H x → RunO P E op ty x v x) (hd : Nat.blt d n = true)
    (h : AnC j H P ops n D ((d, v) :: E) w fuel (listed.setIfInBounds i true) Q) : AnC j H P ops n D E w (fuel + 1) listed Q := fun a ha => by
  obtain ⟨h1, h2, h3, h4⟩ := waitsB_spec hS
  have hcl : ∀ L : Array Bool, (∀ s ∈ S, L.getD s true = false) → closedB j L = false := fun L hL => by
    have := hL j h3
    unfold closedB
    rcases Nat.lt_or_ge j L.size with h' | h'
    · simp [h'] at this ⊢; exact this
    · simp [Nat.not_lt.2 h']
  exact wpC_first (S := S) (H2 := H) h4 hi (Region.noSelect_spec hs) hQ h1 (fun L hL x hx => hx (hcl L hL)) fuel listed a w (fun _ => hH) h2 (Region.free_spec hi hf) (by simpa using hrd) (.inl ⟨by simp [Region.wanted], fun x hx => hr x hx n D a _ _ _ _ ha⟩) (h _ (ha.put hd v))
/-- What looks at no memory. -/
theorem AnC_takeP (i : Nat) (hij : Nat.beq i j = false) (hi : ops[i]? = some ⟨some d, op, ty, ps, af, none⟩) (hs : Region.noSelect ops = true) (hf : Region.free .any ops listed i = true) (hrd : (Region.ready .any ops listed).contains i = true)
    (hQ : ∀ c a w, Q (.panic c) (a.put (some d) v) w → Q (.panic c) a w) (hH : closedB j listed = false → H w) (hr : ∀ x, RunO P E op ty x v x) (hd : Nat.blt d n = true)
    (h : AnC j H P ops n D ((d, v) :: E) w fuel (listed.setIfInBounds i true) Q) : AnC j H P ops n D E w (fuel + 1) listed Q := fun a ha =>
  wpC_first (S := []) (H2 := fun _ => True) (fun e => by subst e; simp at hij) hi (Region.noSelect_spec hs) hQ (fun s hs => by cases hs) (fun _ _ _ _ => trivial) fuel listed a w hH (fun s hs => by cases hs) (Region.free_spec hi hf) (by simpa using hrd)
    (.inl ⟨by simp [Region.wanted], fun x _ => hr x n D a _ _ _ _ ha⟩) (h _ (ha.put hd v))
theorem AnC_only (i : Nat) {o : Oper} (hrd : Region.ready .any ops listed = [i]) (hi : ops[i]? = some o)
    (h : Ls P ops n D E w [o] (Exit.then (fun a' w' => (closedB j (listed.setIfInBounds i true) = false → H w') ∧ wpC j H P .any ops Q fuel (listed.setIfInBounds i true) a' w') Q)) : AnC j H P ops n D E w (fuel + 1) listed Q := fun a ha => by
  refine ⟨fun h0 => (by rw [hrd] at h0; cases h0), fun j' hj => ?_⟩
  rw [hrd] at hj
  simp at hj
  subst hj
  have h1 := h a ha
  unfold wpOp
  simp only [hi]
  unfold wpList at h1
  split
  · rename_i hw
    rw [if_pos hw] at h1
    rcases h1 with h1 | ⟨h1, a1, w1, h2⟩
    · exact .inl (upon_then h1)
    · exact .inr ⟨h1, a1, w1, h2⟩
  · rename_i hw
    rw [if_neg hw] at h1
    exact h1
theorem Jm_AnC {L' : Array Bool} (hH : closedB j L' = false → H w) (h : AnC j H P ops n D E w fuel L' Q) : Jm n D E w .normal (Exit.then (fun a' w' => (closedB j L' = false → H w') ∧ wpC j H P .any ops Q fuel L' a' w') Q) := fun a ha => ⟨hH, h a ha⟩
theorem Jm_AnC_closed {L' : Array Bool} (hc : closedB j L' = true) (h : AnC j H P ops n D E w fuel L' Q) : Jm n D E w .normal (Exit.then (fun a' w' => (closedB j L' = false → H w') ∧ wpC j H P .any ops Q fuel L' a' w') Q) := fun a ha => ⟨fun hc' => absurd hc (by rw [hc']; simp), h a ha⟩
theorem AnC_done (hrd : Region.ready .any ops listed = []) (h : Jm n D E w .normal Q) : AnC j H P ops n D E w fuel listed Q := fun a ha => by
  cases fuel with
  | zero => exact ⟨hrd, h a ha⟩
  | succ fuel => exact ⟨fun _ => h a ha, by rw [hrd]; simp⟩
theorem wpC_mono {H' : World → Prop} (hh : ∀ x, H' x → H x) : ∀ (fuel : Nat) (listed : Array Bool) (a : Act) (w : World), wpC j H' P .any ops Q fuel listed a w → wpC j H P .any ops Q fuel listed a w := by
  intro fuel
  induction fuel with
  | zero => intro listed a w h; exact h
  | succ fuel ih => exact fun listed a w h => ⟨h.1, fun i hi => wpOp_mono (fun a' w' hk => ⟨fun hc => hh _ (hk.1 hc), ih _ a' w' hk.2⟩) (h.2 i hi)⟩
theorem AnC_grow {w0 : World} (hb : Below w0.heap.size w0 w) (h : AnC j (fun x => Below w.heap.size w x) P ops n D E w fuel listed Q) : AnC j (fun x => Below w0.heap.size w0 x) P ops n D E w fuel listed Q := fun a ha =>
  wpC_mono (fun x hx => hb.trans (hx.mono hb.size)) _ _ _ _ (h a ha)
theorem wpC_switch {j' : Nat} {H' : World → Prop} : ∀ (fuel : Nat) (listed : Array Bool) (a : Act) (w : World), closedB j listed = true → wpC j' H' P .any ops Q fuel listed a w → wpC j H P .any ops Q fuel listed a w := by
  intro fuel
  induction fuel with
  | zero => intro listed a w _ h; exact h
  | succ fuel ih => exact fun listed a w hc h => ⟨h.1, fun i hi => wpOp_mono (fun a' w' hk => ⟨fun hc' => absurd (closedB_set hc) (by rw [hc']; simp), ih _ a' w' (closedB_set hc) hk.2⟩) (h.2 i hi)⟩
/-- Once j is done, another takes its part. -/
theorem AnC_switch {H' : World → Prop} (j' : Nat) (hc : closedB j listed = true) (h : AnC j' H' P ops n D E w fuel listed Q) : AnC j H P ops n D E w fuel listed Q := fun a ha => wpC_switch _ _ _ _ hc (h a ha)
/-- The place of a slice's element, that is read before j. -/
theorem AnC_index (i : Nat) (S : List Nat) {α : Type} (K : El α) {l : List α} {A : Option Addr} {m c bytes e t : Nat} {zv : Value} {k : IntKind} {ix : Int} {x y : Operand} (hi : ops[i]? = some ⟨some d, .indexAddr t x y, ty, ps, af, none⟩) (hs : Region.noSelect ops = true) (hf : Region.free .any ops listed i = true) (hrd : (Region.ready .any ops listed).contains i = true) (hS : waitsB .any ops listed i j S = true)
    (hQ : ∀ v c a w, Q (.panic c) (a.put (some d) v) w → Q (.panic c) a w) (hH : H w) (hr : ∀ x, H x → Rd x A m c K.size (K.flat l)) (ht : P.underlying t = some (.slice e)) (hif : Inf P e zv K.size bytes)
    (hx : ev E x = some (.slice A m c)) (hy : ev E y = some (.int k ix)) (h0 : 0 ≤ ix) (h1 : ix < m) {xv : α} (hxv : l.getD ix.toNat K.dflt = xv) (hd : Nat.blt d n = true)
    (h : ∀ b off, (∀ x, H x → ∀ j u, (K.enc xv)[j]? = some u → x.cell? ⟨b, off + j, none⟩ = some u) → AnC j H P ops n D ((d, .pointer (some ⟨b, off, none⟩)) :: E) w fuel (listed.setIfInBounds i true) Q) : AnC j H P ops n D E w (fuel + 1) listed Q := by
  obtain ⟨b, off, rfl, _, hc⟩ := (hr w hH).cells (by omega)
  subst hxv
  refine AnC_take i S hi hs hf hrd hS (hQ _) hH (fun x hx' => run_index ht hif hx hy rfl h0 h1) hd (h b (off + ix.toNat * K.size) fun x hx' j u hj => ?_)
  obtain ⟨b', off', e1, _, hc'⟩ := (hr x hx').cells (by omega)
  cases e1
  have hl := (hr x hx').len
  rw [K.flat_length] at hl
  have hj' : j < K.size := by rw [← K.len (l.getD ix.toNat K.dflt)]; exact (List.getElem?_eq_some_iff.1 hj).1
  have hlm : l.length = m := by
    have : 0 < K.size := by omega
    exact Nat.eq_of_mul_eq_mul_right this hl
  have hil : ix.toNat < l.length := by omega
  rw [Nat.add_assoc]
  refine hc' _ u (El.flat_get K l ix.toNat hil j u ?_)
  rw [List.getD_eq_getElem?_getD, List.getElem?_eq_getElem hil] at hj
  exact hj
end
end Go.Proofs.Ytcifdianinbkeaa.Lg
set_option linter.unusedVariables false
set_option linter.unusedSimpArgs false
namespace Go.Proofs.Ytcifdianinbkeaa.Lg
open Go Go.RowKit
section
variable {P : Program} {ops : Array Oper} {n : Nat} {D : List Deferred} {E : Env} {w : World} {Q : Exit → Act → World → Prop} {rest : List Oper} {ty : TypeId} {ps : String} {af : Array Edge} {d : Nat}
theorem Ls_callv {f : FuncId} {fn : Func} {t : Operand} {cap : List Value} {xs : List Operand} {ts : Array TypeId} {args : List Value} {Φ : Value → World → Prop}
    (hf : P.funcs[f]? = some fn) (hname : (fn.name == "runtime.NumGoroutine") = false) (hb : fn.body.isSome = true) (hv : ev E t = some (.func (.func f) #[] cap.toArray)) (hx : evs E xs = some args)
    (hc : Calls P f (args ++ cap).toArray w (Ret Φ)) (hd : Nat.blt d n = true) (h : ∀ v w', Φ v w' → Ls P ops n D ((d, v) :: E) w' rest Q) :
    Ls P ops n D E w (⟨some d, .call { callee := .value t, args := xs.toArray, argTypes := ts }, ty, ps, af, none⟩ :: rest) Q := fun a ha => by
  have hargs : xs.toArray.map a.eval = args.toArray := by
    rw [List.map_toArray, ha.evals hx]
  have ht := ha.eval hv
  refine wpList_plain rfl fun K hK => ?_
  have he := enters hf hname hb (args ++ cap).toArray w
  have hrun : (execOp a.eval ⟨some d, .call { callee := .value t, args := xs.toArray, argTypes := ts }, ty, ps, af, none⟩).run P w = .ok (.enter f (args ++ cap).toArray) w := by
    unfold execOp
    simp only [resolve, ht, Deferred.ofValue, hargs, Sem.run_bind, Sem.run_pure, Result.andThen_ok, invoke]
    simpa using he
  unfold Oper.wp
  rw [hrun, Oper.upon_enter]
  refine hc.mono fun e w'' hh => ?_
  obtain ⟨u, rfl, hu⟩ := hh
  exact hK _ _ (h u w'' hu _ (ha.put hd u))
end
/-- The first of many parts. -/
theorem Sat.pre {B w : World} {L1 L : List Assn} (hs : Sat B w (L1 ++ L)) : Sat B w L1 := by
  obtain ⟨hb, h, hL, hw⟩ := hs
  obtain ⟨h1, h2, h3, h4, hd, he⟩ := Stars.app hL
  exact ⟨hb, h1, h3, fun b o hbo => hw b o (by rw [he b, hbo]; rfl)⟩
/-- Some of the parts, whatever else there is: what a region in any order may read, if what it writes is not among them. -/
def Hold (B : World) (Ls : List Assn) (x : World) : Prop := ∃ R, Sat B x (Ls ++ R)
theorem Hold.of {B w : World} {Ls R : List Assn} (hs : Sat B w (Ls ++ R)) : Hold B Ls w := ⟨R, hs⟩
section
variable {P : Program} {ops : Array Oper} {n : Nat} {D : List Deferred} {E : Env} {B w : World} {Q : Exit → Act → World → Prop}
theorem St_hold {Ls : List Assn} (h : Hold B Ls w) {id : Nat} (hm : P.follows .mixedOrders = true) (k : ∀ w', Quiet w w' → An (Hold B Ls) P ops n D E w' ops.size (Array.replicate ops.size false) Q) : St P n D E w (.region id ops true) Q := St_draw (Hold B Ls) hm k
end
/-- Nothing, as a part. -/
theorem Sat.addNone {B w : World} {L : List Assn} {A : Assn} (hA : A (fun _ => Option.none)) (hs : Sat B w L) : Sat B w (A :: L) := by
  obtain ⟨hb, h, hL, hw⟩ := hs
  exact ⟨hb, h, ⟨fun _ => Option.none, h, hA, hL, fun _ => .inl rfl, fun b => by simp⟩, hw⟩
section
variable {P : Program} {n : Nat} {E : Env} {w : World} {fn : Func} {R : Ending → World → Prop}
theorem run_loadVar_agg {ty b off size bytes : Nat} {zv : Value} {cs : List Value} (ht : (∃ fs, P.underlying ty = some (.struct fs)) ∨ (∃ n e, P.underlying ty = some (.array n e))) (hi : Inf P ty zv size bytes) (hl : cs.length = size) (hc : ∀ j u, cs[j]? = some u → w.cell? ⟨b, off + j, none⟩ = some u) :
    (loadVar ty ⟨b, off, none⟩).run P w = .ok (.agg cs.toArray) w := by
  have h1 := isAgg_agg ht w
  have h2 := hi.sizeOf (P := P) w
  have h3 := run_loadCells_list (P := P) w ⟨b, off, none⟩ cs (fun j u hj => by rw [Addr.add_lit]; exact hc j u hj)
  subst hl
  simp [loadVar, h1, h2, h3]
/-- A result that stands in a cell of its own. -/
theorem Jm_retC {t : Tmp} {ty b off size bytes : Nat} {zv : Value} {cs : List Value} (hr : fn.results = #[.cell t ty]) (ht : (∃ fs, P.underlying ty = some (.struct fs)) ∨ (∃ n e, P.underlying ty = some (.array n e))) (hi : Inf P ty zv size bytes) (hv : look E t = some (.pointer (some ⟨b, off, none⟩)))
    (hl : cs.length = size) (hc : ∀ j u, cs[j]? = some u → w.cell? ⟨b, off + j, none⟩ = some u) (h : R (.returned (.agg cs.toArray)) w) : Jm n [] E w .ret (bodyPost P fn R) := fun a ha =>
  ⟨ha.defers, _, by have h1 : a.tmps[t]?.getD undef = .pointer (some ⟨b, off, none⟩) := (by have := ha.tmp hv; simpa using this); have h2 := run_loadVar_agg ht hi hl hc; simp [results, hr, h1, h2, asAddr], h⟩
theorem Jm_retCT {t u : Tmp} {ty b off size bytes : Nat} {zv x : Value} {cs : List Value} (hr : fn.results = #[.cell t ty, .tmp u]) (ht : (∃ fs, P.underlying ty = some (.struct fs)) ∨ (∃ n e, P.underlying ty = some (.array n e))) (hi : Inf P ty zv size bytes) (hv : look E t = some (.pointer (some ⟨b, off, none⟩))) (hx : look E u = some x)
    (hl : cs.length = size) (hc : ∀ j u, cs[j]? = some u → w.cell? ⟨b, off + j, none⟩ = some u) (h : R (.returned (.tuple #[.agg cs.toArray, x])) w) : Jm n [] E w .ret (bodyPost P fn R) := fun a ha =>
  ⟨ha.defers, _, by have h1 : a.tmps[t]?.getD undef = .pointer (some ⟨b, off, none⟩) := (by have := ha.tmp hv; simpa using this); have h3 : a.tmps[u]?.getD undef = x := (by have := ha.tmp hx; simpa using this); have h2 := run_loadVar_agg ht hi hl hc; simp [results, hr, h1, h2, h3, asAddr], h⟩
end
/-- One cell of a block that is being written, and some parts. -/
def HoldAt (B : World) (b T i : Nat) (v : Value) (Ls : List Assn) (x : World) : Prop := ∃ cs R, cs[i]? = some v ∧ Sat B x (Blk b cs T :: (Ls ++ R))
theorem HoldAt.of {B w : World} {b T i : Nat} {v : Value} {Ls R : List Assn} {cs : List Value} (hc : cs[i]? = some v) (hs : Sat B w (Blk b cs T :: (Ls ++ R))) : HoldAt B b T i v Ls w := ⟨cs, R, hc, hs⟩
theorem HoldAt.cell {B x : World} {b T i : Nat} {v : Value} {Ls : List Assn} (h : HoldAt B b T i v Ls x) : x.cell? ⟨b, i, none⟩ = some v := by
  obtain ⟨cs, R, hc, hs⟩ := h
  exact hs.blk_at 0 rfl i hc
theorem HoldAt.hold {B x : World} {b T i : Nat} {v : Value} {Ls : List Assn} (h : HoldAt B b T i v Ls x) : ∃ R, Sat B x (Ls ++ R) := by
  obtain ⟨cs, R, _, hs⟩ := h
  exact ⟨R, hs.tail⟩
section
variable {P : Program} {ops : Array Oper} {n : Nat} {D : List Deferred} {E : Env} {w : World} {Q : Exit → Act → World → Prop} {H : World → Prop} {fuel : Nat} {listed : Array Bool}
theorem wpOp_of_Ls {i : Nat} {o : Oper} {K : Act → World → Prop} (hi : ops[i]? = some o) {a : Act} (ha : Good n D E a) (h : Ls P ops n D E w [o] (Exit.then K Q)) : wpOp P ops Q i K a w := by
  have h1 := h a ha
  unfold wpOp
  simp only [hi]
  unfold wpList at h1
  split
  · rename_i hw
    rw [if_pos hw] at h1
    rcases h1 with h1 | ⟨h1, a1, w1, h2⟩
    · exact .inl (upon_then h1)
    · exact .inr ⟨h1, a1, w1, h2⟩
  · rename_i hw
    rw [if_neg hw] at h1
    exact h1
/-- Two things are left to do next, in either order. -/
theorem An_two (i j : Nat) {o1 o2 : Oper} (hrd : Region.ready .any ops listed = [i, j]) (hi : ops[i]? = some o1) (hj : ops[j]? = some o2)
    (h1 : Ls P ops n D E w [o1] (Exit.then (fun a' w' => H w' ∧ wpH H P .any ops Q fuel (listed.setIfInBounds i true) a' w') Q))
    (h2 : Ls P ops n D E w [o2] (Exit.then (fun a' w' => H w' ∧ wpH H P .any ops Q fuel (listed.setIfInBounds j true) a' w') Q)) : An H P ops n D E w (fuel + 1) listed Q := fun a ha => by
  refine ⟨fun h0 => (by rw [hrd] at h0; cases h0), fun k hk => ?_⟩
  rw [hrd] at hk
  simp at hk
  rcases hk with rfl | rfl
  · exact wpOp_of_Ls hi ha h1
  · exact wpOp_of_Ls hj ha h2
theorem An_three (i j k : Nat) {o1 o2 o3 : Oper} (hrd : Region.ready .any ops listed = [i, j, k]) (hi : ops[i]? = some o1) (hj : ops[j]? = some o2) (hk3 : ops[k]? = some o3)
    (h1 : Ls P ops n D E w [o1] (Exit.then (fun a' w' => H w' ∧ wpH H P .any ops Q fuel (listed.setIfInBounds i true) a' w') Q))
    (h2 : Ls P ops n D E w [o2] (Exit.then (fun a' w' => H w' ∧ wpH H P .any ops Q fuel (listed.setIfInBounds j true) a' w') Q))
    (h3 : Ls P ops n D E w [o3] (Exit.then (fun a' w' => H w' ∧ wpH H P .any ops Q fuel (listed.setIfInBounds k true) a' w') Q)) : An H P ops n D E w (fuel + 1) listed Q := fun a ha => by
  refine ⟨fun h0 => (by rw [hrd] at h0; cases h0), fun q hq => ?_⟩
  rw [hrd] at hq
  simp at hq
  rcases hq with rfl | rfl | rfl
  · exact wpOp_of_Ls hi ha h1
  · exact wpOp_of_Ls hj ha h2
  · exact wpOp_of_Ls hk3 ha h3
end
section
variable {P : Program} {n : Nat} {D : List Deferred} {E : Env} {w : World} {Q : Exit → Act → World → Prop} {x : Exit}
/-- What a piece of code leaves, told once for all the ways through it. -/
theorem St_join {σ : Type} (En : σ → Env) (Inv : σ → World → Prop) {c : Code} (h1 : St P n D E w c (Exit.then (fun a' w' => ∃ s, Good n D (En s) a' ∧ Inv s w') Q)) (h2 : ∀ s w', Inv s w' → Jm n D (En s) w' .normal Q) : St P n D E w c Q := fun a ha => by
  refine wp_mono (h1 a ha) ?_
  intro e a' w' hq
  cases e with
  | normal =>
    obtain ⟨s, hg, hI⟩ := hq
    exact h2 s w' hI a' hg
  | exit id => exact hq
  | goto l => exact hq
  | ret => exact hq
  | panic ch => exact hq
  | outgrown => exact hq
theorem Jm_join {σ : Type} {En : σ → Env} {Inv : σ → World → Prop} (s : σ) (hE : SubE (En s) E) (hI : Inv s w) : Jm n D E w .normal (Exit.then (fun a' w' => ∃ s, Good n D (En s) a' ∧ Inv s w') Q) := fun a ha => ⟨s, ha.sub hE, hI⟩
theorem Jm_eqE {E' : Env} (he : E = E') (h : Jm n D E' w x Q) : Jm n D E w x Q := he ▸ h
end
theorem St_holdAt {P : Program} {ops : Array Oper} {n : Nat} {D : List Deferred} {E : Env} {B w : World} {Q : Exit → Act → World → Prop} {b T i : Nat} {v : Value} {Ls : List Assn} (j : Nat) (h : HoldAt B b T i v Ls w) {id : Nat} (hm : P.follows .mixedOrders = true)
    (k : ∀ w', Quiet w w' → AnC j (HoldAt B b T i v Ls) P ops n D E w' ops.size (Array.replicate ops.size false) Q) : St P n D E w (.region id ops true) Q := St_drawC j (HoldAt B b T i v Ls) hm k
theorem St_holdC {P : Program} {ops : Array Oper} {n : Nat} {D : List Deferred} {E : Env} {B w : World} {Q : Exit → Act → World → Prop} {Ls : List Assn} (j : Nat) (h : Hold B Ls w) {id : Nat} (hm : P.follows .mixedOrders = true)
    (k : ∀ w', Quiet w w' → AnC j (Hold B Ls) P ops n D E w' ops.size (Array.replicate ops.size false) Q) : St P n D E w (.region id ops true) Q := St_drawC j (Hold B Ls) hm k
theorem run_min {P : Program} {E : Env} {w : World} {x y : Operand} {k k' : IntKind} {a b : Int} {ts : Array TypeId} {ty : TypeId} (hx : ev E x = some (.int k a)) (hy : ev E y = some (.int k' b)) :
    RunO P E (.call { callee := .builtin .min, args := #[x, y], argTypes := ts }) ty w (.int k (if b < a then b else a)) w := fun n D a' dst ps af g ha => by
  simp [execOp, resolve, invoke, builtin, ha.eval hx, ha.eval hy, Builtin.min_, Builtin.min2]
end Go.Proofs.Ytcifdianinbkeaa.Lg
set_option linter.unusedVariables false
set_option linter.unusedSimpArgs false
namespace Go.Proofs.Ytcifdianinbkeaa.Lg
open Go Go.RowKit
def lk (n d : Nat) (E : Env) (x : Operand) : Option Value := cond (Nat.blt d n) (ev E x) none
theorem lk_1 {n d : Nat} {E : Env} {x : Operand} {v : Value} (h : lk n d E x = some v) : ev E x = some v := by
  unfold lk at h; cases hb : Nat.blt d n <;> simp [hb] at h; exact h
theorem lk_2 {n d : Nat} {E : Env} {x : Operand} {v : Value} (h : lk n d E x = some v) : Nat.blt d n = true := by
  unfold lk at h; cases hb : Nat.blt d n <;> simp [hb] at h; rfl
/-- What a guard's slot holds. -/
def gk (ops : Array Oper) (E : Env) (j : Nat) : Option Value := ((ops[j]?).bind (·.dst)).bind (look E)
def gkd (ops : Array Oper) (n d : Nat) (E : Env) (j : Nat) : Option Value := cond (Nat.blt d n) (gk ops E j) none
theorem gk_1 {ops : Array Oper} {E : Env} {j : Nat} {v : Value} (h : gk ops E j = some v) : ∃ t, (ops[j]?).bind (·.dst) = some t ∧ look E t = some v := by
  unfold gk at h
  cases ht : (ops[j]?).bind (·.dst) with
  | none => rw [ht] at h; cases h
  | some t => rw [ht] at h; exact ⟨t, rfl, h⟩
theorem gkd_1 {ops : Array Oper} {n d : Nat} {E : Env} {j : Nat} {v : Value} (h : gkd ops n d E j = some v) : Nat.blt d n = true ∧ gk ops E j = some v := by
  unfold gkd at h; cases hb : Nat.blt d n <;> simp [hb] at h; exact ⟨rfl, h⟩
/-- A panic passes. -/
class QP (Q : Exit → Act → World → Prop) : Prop where
  pass : ∀ (d : Nat) v c a w, Q (.panic c) (a.put (some d) v) w → Q (.panic c) a w
instance {K : Act → World → Prop} {Q : Exit → Act → World → Prop} [h : QP Q] : QP (Exit.then K Q) := ⟨fun d v c a w q => h.pass d v c a w q⟩
instance {id : Nat} {Q : Exit → Act → World → Prop} [h : QP Q] : QP (Exit.inBlock id Q) := ⟨fun d v c a w q => h.pass d v c a w q⟩
instance {P : Program} {fn : Func} {R : Ending → World → Prop} : QP (bodyPost P fn R) := ⟨fun d v c a w q => q⟩
/-- A list's parts, laid ahead of another's. -/
class App {α : Type} (M L : List α) (N : outParam (List α)) : Prop where
  eq : M ++ L = N
instance (priority := low) app_any {α : Type} {M L : List α} : App M L (M ++ L) := ⟨rfl⟩
section
variable {B w w' : World} {L M N : List Assn} {a1 a2 a3 a4 a5 a6 a7 a8 a9 b1 b2 b3 b4 b5 b6 : Assn}
theorem Sat.T (hs : Sat B w L) (hs' : Sat w w' M) [a : App M L N] : Sat B w' N := a.eq ▸ hs.trans hs'
theorem Sat.F1 (h : Sat B w (a1 :: a2 :: L)) : Sat B w (a2 :: a1 :: L) := h.front 1 rfl
theorem Sat.F2 (h : Sat B w (a1 :: a2 :: a3 :: L)) : Sat B w (a3 :: a1 :: a2 :: L) := h.front 2 rfl
theorem Sat.F3 (h : Sat B w (a1 :: a2 :: a3 :: a4 :: L)) : Sat B w (a4 :: a1 :: a2 :: a3 :: L) := h.front 3 rfl
theorem Sat.F4 (h : Sat B w (a1 :: a2 :: a3 :: a4 :: a5 :: L)) : Sat B w (a5 :: a1 :: a2 :: a3 :: a4 :: L) := h.front 4 rfl
theorem Sat.F5 (h : Sat B w (a1 :: a2 :: a3 :: a4 :: a5 :: a6 :: L)) : Sat B w (a6 :: a1 :: a2 :: a3 :: a4 :: a5 :: L) := h.front 5 rfl
theorem Sat.F6 (h : Sat B w (a1 :: a2 :: a3 :: a4 :: a5 :: a6 :: a7 :: L)) : Sat B w (a7 :: a1 :: a2 :: a3 :: a4 :: a5 :: a6 :: L) := h.front 6 rfl
theorem Sat.F7 (h : Sat B w (a1 :: a2 :: a3 :: a4 :: a5 :: a6 :: a7 :: a8 :: L)) : Sat B w (a8 :: a1 :: a2 :: a3 :: a4 :: a5 :: a6 :: a7 :: L) := h.front 7 rfl
theorem Sat.F8 (h : Sat B w (a1 :: a2 :: a3 :: a4 :: a5 :: a6 :: a7 :: a8 :: a9 :: L)) : Sat B w (a9 :: a1 :: a2 :: a3 :: a4 :: a5 :: a6 :: a7 :: a8 :: L) := h.front 8 rfl
theorem Sat.F9 (h : Sat B w (a1 :: a2 :: a3 :: a4 :: a5 :: a6 :: a7 :: a8 :: a9 :: b1 :: L)) : Sat B w (b1 :: a1 :: a2 :: a3 :: a4 :: a5 :: a6 :: a7 :: a8 :: a9 :: L) := h.front 9 rfl
theorem Sat.F10 (h : Sat B w (a1 :: a2 :: a3 :: a4 :: a5 :: a6 :: a7 :: a8 :: a9 :: b1 :: b2 :: L)) : Sat B w (b2 :: a1 :: a2 :: a3 :: a4 :: a5 :: a6 :: a7 :: a8 :: a9 :: b1 :: L) := h.front 10 rfl
theorem Sat.F11 (h : Sat B w (a1 :: a2 :: a3 :: a4 :: a5 :: a6 :: a7 :: a8 :: a9 :: b1 :: b2 :: b3 :: L)) : Sat B w (b3 :: a1 :: a2 :: a3 :: a4 :: a5 :: a6 :: a7 :: a8 :: a9 :: b1 :: b2 :: L) := h.front 11 rfl
theorem Sat.F12 (h : Sat B w (a1 :: a2 :: a3 :: a4 :: a5 :: a6 :: a7 :: a8 :: a9 :: b1 :: b2 :: b3 :: b4 :: L)) : Sat B w (b4 :: a1 :: a2 :: a3 :: a4 :: a5 :: a6 :: a7 :: a8 :: a9 :: b1 :: b2 :: b3 :: L) := h.front 12 rfl
theorem Sat.E0 (h : Sat B w (a1 :: L)) : Sat B w L := h.tail
theorem Sat.E1 (h : Sat B w (a1 :: a2 :: L)) : Sat B w (a1 :: L) := h.erase 1
theorem Sat.E2 (h : Sat B w (a1 :: a2 :: a3 :: L)) : Sat B w (a1 :: a2 :: L) := h.erase 2
theorem Sat.E3 (h : Sat B w (a1 :: a2 :: a3 :: a4 :: L)) : Sat B w (a1 :: a2 :: a3 :: L) := h.erase 3
theorem Sat.E4 (h : Sat B w (a1 :: a2 :: a3 :: a4 :: a5 :: L)) : Sat B w (a1 :: a2 :: a3 :: a4 :: L) := h.erase 4
theorem Sat.E5 (h : Sat B w (a1 :: a2 :: a3 :: a4 :: a5 :: a6 :: L)) : Sat B w (a1 :: a2 :: a3 :: a4 :: a5 :: L) := h.erase 5
theorem Sat.E7 (h : Sat B w (a1 :: a2 :: a3 :: a4 :: a5 :: a6 :: a7 :: a8 :: L)) : Sat B w (a1 :: a2 :: a3 :: a4 :: a5 :: a6 :: a7 :: L) := h.erase 7
theorem Sat.E8 (h : Sat B w (a1 :: a2 :: a3 :: a4 :: a5 :: a6 :: a7 :: a8 :: a9 :: L)) : Sat B w (a1 :: a2 :: a3 :: a4 :: a5 :: a6 :: a7 :: a8 :: L) := h.erase 8
end
section
variable {P : Program} {ops : Array Oper} {n : Nat} {D : List Deferred} {E E' : Env} {w w' : World} {Q : Exit → Act → World → Prop} {c1 c2 : Code} {rest : List Oper} {ty t : TypeId} {ps : String} {af : Array Edge} {op : Op} {d : Nat} {v : Value} {x y z : Operand}
theorem Zs {id : Nat} {l : List Oper} (h : Ls P l.toArray n D E w l (Exit.then (fun a w => c2.wp P Q a w) Q)) : St P n D E w ((Code.region id l.toArray false).seq c2) Q := St_seq (St_region h)
theorem Zq {Q' : Exit → Act → World → Prop} (h : St P n D E w c2 Q) : Jm n D E w .normal (Exit.then (fun a w => c2.wp P Q a w) Q') := Jm_seq h
theorem Zj {Q' : Exit → Act → World → Prop} (h : St P n D E w c2 Q) : Ls P ops n D E w [] (Exit.then (fun a w => c2.wp P Q a w) Q') := Ls_nil (Jm_seq h)
theorem Zn {id : Nat} {l : List Oper} {Q' : Exit → Act → World → Prop} (h : Ls P l.toArray n D E w l Q) : Ls P ops n D E w [] (Exit.then (fun a w => (Code.region id l.toArray false).wp P Q a w) Q') := Ls_nil (Jm_seq (St_region h))
theorem Zt {id : Nat} {l : List Oper} {Q' : Exit → Act → World → Prop} (h : Ls P l.toArray n D E w l (Exit.then (fun a w => c2.wp P Q a w) Q)) : Ls P ops n D E w [] (Exit.then (fun a w => ((Code.region id l.toArray false).seq c2).wp P Q a w) Q') := Ls_nil (Jm_seq (Zs h))
theorem Zm (hx : lk n d E x = some v) (h : Ls P ops n D ((d, v) :: E) w rest Q) : Ls P ops n D E w (⟨some d, .move x, ty, ps, af, none⟩ :: rest) Q := Ls_run (run_move (lk_1 hx)) (lk_2 hx) h
theorem Za (hx : lk n d E x = some v) (h : Ls P ops n D ((d, v) :: E) w rest Q) : Ls P ops n D E w (⟨some d, .assign x, ty, ps, af, none⟩ :: rest) Q := Ls_run (run_assign (lk_1 hx)) (lk_2 hx) h
theorem Zr (hr : RunO P E op ty w v w') (hd : Nat.blt d n = true) (h : Ls P ops n D ((d, v) :: E) w' rest Q) : Ls P ops n D E w (⟨some d, op, ty, ps, af, none⟩ :: rest) Q := Ls_run hr hd h
theorem Zk {p : Addr} (hx : lk n d E x = some (.pointer (some p))) (h : Ls P ops n D ((d, .pointer (some p)) :: E) w rest Q) : Ls P ops n D E w (⟨some d, .nilCheck x, ty, ps, af, none⟩ :: rest) Q := Ls_run (run_nilCheck (lk_1 hx)) (lk_2 hx) h
theorem Zl {p : Addr} (ht : Scalar P t) (hx : lk n d E x = some (.pointer (some p))) (hc : w.cell? p = some v) (h : Ls P ops n D ((d, v) :: E) w rest Q) : Ls P ops n D E w (⟨some d, .load t x, ty, ps, af, none⟩ :: rest) Q := Ls_run (run_load ht (lk_1 hx) hc) (lk_2 hx) h
def fdB (fs : Array Field) (i ft size off o : Nat) : Bool := match fs[i]? with | some f => Nat.beq f.type ft && (!Nat.beq size 0 && Nat.beq (off + f.offset) o) | none => false
theorem run_fd {fs : Array Field} {i ft b off size bytes : Nat} {zv : Value} (ht : P.underlying t = some (.struct fs)) (hi : Inf P ft zv size bytes) (hx : ev E x = some (.pointer (some ⟨b, off, none⟩))) (o : Nat) (hq : fdB fs i ft size off o = true) :
    RunO P E (.fieldAddr t x i) ty w (.pointer (some ⟨b, o, none⟩)) w := by
  unfold fdB at hq
  split at hq
  · rename_i f hf
    rw [Bool.and_eq_true, Bool.and_eq_true, Bool.not_eq_true'] at hq
    obtain ⟨h1, h2, h3⟩ := hq
    have h1 := Nat.eq_of_beq_eq_true h1
    have h3 := Nat.eq_of_beq_eq_true h3
    subst h3
    exact run_field ht hf (h1 ▸ hi) (fun e => by subst e; simp at h2) hx
  · cases hq
theorem Zf {fs : Array Field} {i ft b off size bytes : Nat} {zv : Value} (ht : P.underlying t = some (.struct fs)) (hi : Inf P ft zv size bytes) (hx : lk n d E x = some (.pointer (some ⟨b, off, none⟩))) (o : Nat) (hq : fdB fs i ft size off o = true)
    (h : Ls P ops n D ((d, .pointer (some ⟨b, o, none⟩)) :: E) w rest Q) : Ls P ops n D E w (⟨some d, .fieldAddr t x i, ty, ps, af, none⟩ :: rest) Q := Ls_run (run_fd ht hi (lk_1 hx) o hq) (lk_2 hx) h
theorem Zo {dst : Option Tmp} {j : Nat} {want : Bool} (hv : gk ops E j = some (.bool want)) (h : Ls P ops n D E w (⟨dst, op, ty, ps, af, none⟩ :: rest) Q) : Ls P ops n D E w (⟨dst, op, ty, ps, af, some (j, want)⟩ :: rest) Q := by
  obtain ⟨t, h1, h2⟩ := gk_1 hv; exact Ls_on h1 h2 h
theorem Zx {j : Nat} {want : Bool} (hv : gkd ops n d E j = some (.bool (!want))) (h : Ls P ops n D ((d, undef) :: E) w rest Q) : Ls P ops n D E w (⟨some d, op, ty, ps, af, some (j, want)⟩ :: rest) Q := by
  obtain ⟨h0, h1⟩ := gkd_1 hv; obtain ⟨t, h1, h2⟩ := gk_1 h1; exact Ls_off h1 h2 (by cases want <;> rfl) h0 h
theorem Zu {j : Nat} {want : Bool} (hv : gkd ops n d E j = some undef) (h : Ls P ops n D ((d, undef) :: E) w rest Q) : Ls P ops n D E w (⟨some d, op, ty, ps, af, some (j, want)⟩ :: rest) Q := by
  obtain ⟨h0, h1⟩ := gkd_1 hv; obtain ⟨t, h1, h2⟩ := gk_1 h1; exact Ls_off' h1 h2 h0 h
/-- A function of the program, by its number. -/
def Fn (P : Program) (f : FuncId) : Prop := ∃ fn : Func, P.funcs[f]? = some fn ∧ (fn.name == "runtime.NumGoroutine") = false ∧ fn.body.isSome = true
theorem Zc {f : FuncId} {xs : List Operand} {ts : Array TypeId} {args : List Value} {Φ : Value → World → Prop} (hf : Fn P f) (hx : evs E xs = some args)
    (hc : Calls P f args.toArray w (Ret Φ)) (hd : Nat.blt d n = true) (h : ∀ v w', Φ v w' → Ls P ops n D ((d, v) :: E) w' rest Q) :
    Ls P ops n D E w (⟨some d, .call { callee := .value (.func f), args := xs.toArray, argTypes := ts }, ty, ps, af, none⟩ :: rest) Q := by
  obtain ⟨fn, h1, h2, h3⟩ := hf; exact Ls_call h1 h2 h3 hx hc hd h
def envOf : Nat → List Value → Env
  | _, [] => []
  | i, v :: l => (i, v) :: envOf (i + 1) l
theorem envOf_sound : ∀ (l : List Value) (k : Nat) (i : Nat) (v : Value), look (envOf k l) i = some v → k ≤ i ∧ l[i - k]? = some v
  | [], k, i, v, h => by simp [envOf, look] at h
  | u :: l, k, i, v, h => by
    simp only [envOf] at h
    by_cases e : k = i
    · subst e; rw [look_eq rfl] at h; cases h; exact ⟨Nat.le_refl _, by simp⟩
    · rw [look_ne e] at h
      obtain ⟨h1, h2⟩ := envOf_sound l (k + 1) i v h
      refine ⟨by omega, ?_⟩
      rw [show i - k = (i - (k + 1)) + 1 by omega, List.getElem?_cons_succ]; exact h2
theorem Zb {fn : Func} {f : FuncId} {c : Code} {args : List Value} {R : Ending → World → Prop} (hf : P.funcs[f]? = some fn) (hb : fn.body = some c) (hn : fn.ntmps = n)
    (hl : Nat.ble args.length n = true) (h : St P n [] (envOf 0 args) w c (bodyPost P fn R)) : Calls P f args.toArray w R :=
  Calls_body hf hb hn hl (fun i v hi => (envOf_sound args 0 i v hi).2) h
/-! Regions in any order -/
variable {H : World → Prop} {fuel j : Nat} {listed : Array Bool}
def okB (ops : Array Oper) (listed : Array Bool) (i n d : Nat) : Bool := Region.noSelect ops && (Region.free .any ops listed i && ((Region.ready .any ops listed).contains i && Nat.blt d n))
theorem okB_1 {i : Nat} (h : okB ops listed i n d = true) : Region.noSelect ops = true ∧ Region.free .any ops listed i = true ∧ (Region.ready .any ops listed).contains i = true ∧ Nat.blt d n = true := by
  unfold okB at h; simp only [Bool.and_eq_true] at h; exact h
theorem Ya (hH : H w) (i : Nat) (hi : ops[i]? = some ⟨some d, op, ty, ps, af, none⟩) (hc : okB ops listed i n d = true) (hr : ∀ x, H x → RunO P E op ty x v x)
    [q : QP Q] (h : An H P ops n D ((d, v) :: E) w fuel (listed.setIfInBounds i true) Q) : An H P ops n D E w (fuel + 1) listed Q := by
  obtain ⟨h1, h2, h3, h4⟩ := okB_1 hc
  exact An_take i hi h1 h2 h3 (fun c a w => q.pass _ _ c a w) hH hr h4 h
theorem Ym (hH : H w) (i : Nat) (hi : ops[i]? = some ⟨some d, .move x, ty, ps, af, none⟩) (hc : okB ops listed i n d = true) (hx : ev E x = some v)
    [q : QP Q] (h : An H P ops n D ((d, v) :: E) w fuel (listed.setIfInBounds i true) Q) : An H P ops n D E w (fuel + 1) listed Q := Ya hH i hi hc (fun _ _ => run_move hx) h
theorem Yo (hH : H w) (i : Nat) {j : Nat} {want : Bool} (hi : ops[i]? = some ⟨some d, op, ty, ps, af, some (j, want)⟩) (hc : okB ops listed i n d = true) (hv : gk ops E j = some (.bool want)) (hr : ∀ x, H x → RunO P E op ty x v x)
    [q : QP Q] (h : An H P ops n D ((d, v) :: E) w fuel (listed.setIfInBounds i true) Q) : An H P ops n D E w (fuel + 1) listed Q := by
  obtain ⟨h1, h2, h3, h4⟩ := okB_1 hc
  obtain ⟨t, k1, k2⟩ := gk_1 hv
  exact An_take_on i hi h1 h2 h3 k1 k2 (fun c a w => q.pass _ _ c a w) hH hr h4 h
theorem Yf (hH : H w) (i : Nat) {j : Nat} {want : Bool} (hi : ops[i]? = some ⟨some d, op, ty, ps, af, some (j, want)⟩) (hc : okB ops listed i n d = true) (hv : gk ops E j = some (.bool (!want)))
    [q : QP Q] (h : An H P ops n D ((d, undef) :: E) w fuel (listed.setIfInBounds i true) Q) : An H P ops n D E w (fuel + 1) listed Q := by
  obtain ⟨h1, h2, h3, h4⟩ := okB_1 hc
  obtain ⟨t, k1, k2⟩ := gk_1 hv
  exact An_take_off i hi h1 h2 h3 k1 k2 (by cases want <;> rfl) (fun c a w => q.pass _ _ c a w) hH h4 h
theorem Yu (hH : H w) (i : Nat) {j : Nat} {want : Bool} (hi : ops[i]? = some ⟨some d, op, ty, ps, af, some (j, want)⟩) (hc : okB ops listed i n d = true) (hv : gk ops E j = some undef)
    [q : QP Q] (h : An H P ops n D ((d, undef) :: E) w fuel (listed.setIfInBounds i true) Q) : An H P ops n D E w (fuel + 1) listed Q := by
  obtain ⟨h1, h2, h3, h4⟩ := okB_1 hc
  obtain ⟨t, k1, k2⟩ := gk_1 hv
  exact An_take_off' i hi h1 h2 h3 k1 k2 (fun c a w => q.pass _ _ c a w) hH h4 h
def okC (ops : Array Oper) (listed : Array Bool) (i j : Nat) (S : List Nat) (n d : Nat) : Bool := waitsB .any ops listed i j S && okB ops listed i n d
theorem Yd (hH : H w) (i : Nat) (S : List Nat) (hi : ops[i]? = some ⟨some d, op, ty, ps, af, none⟩) (hc : okC ops listed i j S n d = true) (hr : ∀ x, H x → RunO P E op ty x v x)
    [q : QP Q] (h : AnC j H P ops n D ((d, v) :: E) w fuel (listed.setIfInBounds i true) Q) : AnC j H P ops n D E w (fuel + 1) listed Q := by
  unfold okC at hc; simp only [Bool.and_eq_true] at hc
  obtain ⟨h1, h2, h3, h4⟩ := okB_1 hc.2
  exact AnC_take i S hi h1 h2 h3 hc.1 (fun c a w => q.pass _ _ c a w) hH hr h4 h
def okP (ops : Array Oper) (listed : Array Bool) (i j n d : Nat) : Bool := !Nat.beq i j && okB ops listed i n d
theorem Yr (hH : closedB j listed = false → H w) (i : Nat) (hi : ops[i]? = some ⟨some d, op, ty, ps, af, none⟩) (hc : okP ops listed i j n d = true) (hr : ∀ x, RunO P E op ty x v x)
    [q : QP Q] (h : AnC j H P ops n D ((d, v) :: E) w fuel (listed.setIfInBounds i true) Q) : AnC j H P ops n D E w (fuel + 1) listed Q := by
  unfold okP at hc; simp only [Bool.and_eq_true, Bool.not_eq_true'] at hc
  obtain ⟨h1, h2, h3, h4⟩ := okB_1 hc.2
  exact AnC_takeP i hc.1 hi h1 h2 h3 (fun c a w => q.pass _ _ c a w) hH hr h4 h
end
/-! States of loops and joins -/
section
variable {α β γ δ ε ζ η θ : Type}
theorem ex1 (f : α → θ) : ∃ F : α → θ, ∀ a, F a = f a := ⟨f, fun _ => rfl⟩
theorem ex2 (f : α → β → θ) : ∃ F : α × β → θ, ∀ a b, F (a, b) = f a b := ⟨fun s => f s.1 s.2, fun _ _ => rfl⟩
theorem ex3 (f : α → β → γ → θ) : ∃ F : α × β × γ → θ, ∀ a b c, F (a, b, c) = f a b c := ⟨fun s => f s.1 s.2.1 s.2.2, fun _ _ _ => rfl⟩
theorem ex4 (f : α → β → γ → δ → θ) : ∃ F : α × β × γ × δ → θ, ∀ a b c d, F (a, b, c, d) = f a b c d := ⟨fun s => f s.1 s.2.1 s.2.2.1 s.2.2.2, fun _ _ _ _ => rfl⟩
theorem ex5 (f : α → β → γ → δ → ε → θ) : ∃ F : α × β × γ × δ × ε → θ, ∀ a b c d e, F (a, b, c, d, e) = f a b c d e := ⟨fun s => f s.1 s.2.1 s.2.2.1 s.2.2.2.1 s.2.2.2.2, fun _ _ _ _ _ => rfl⟩
theorem ex8 {ι κ : Type} (f : α → β → γ → δ → ε → ζ → ι → κ → θ) : ∃ F : α × β × γ × δ × ε × ζ × ι × κ → θ, ∀ a b c d e z q r, F (a, b, c, d, e, z, q, r) = f a b c d e z q r := ⟨fun s => f s.1 s.2.1 s.2.2.1 s.2.2.2.1 s.2.2.2.2.1 s.2.2.2.2.2.1 s.2.2.2.2.2.2.1 s.2.2.2.2.2.2.2, fun _ _ _ _ _ _ _ _ => rfl⟩
theorem ex9 {ι κ μ : Type} (f : α → β → γ → δ → ε → ζ → ι → κ → μ → θ) : ∃ F : α × β × γ × δ × ε × ζ × ι × κ × μ → θ, ∀ a b c d e z q r s, F (a, b, c, d, e, z, q, r, s) = f a b c d e z q r s := ⟨fun s => f s.1 s.2.1 s.2.2.1 s.2.2.2.1 s.2.2.2.2.1 s.2.2.2.2.2.1 s.2.2.2.2.2.2.1 s.2.2.2.2.2.2.2.1 s.2.2.2.2.2.2.2.2, fun _ _ _ _ _ _ _ _ _ => rfl⟩
theorem ew8 {ι κ : Type} (f : α → β → γ → δ → ε → ζ → ι → κ → World → Prop) : ∃ F : α × β × γ × δ × ε × ζ × ι × κ → World → Prop, ∀ a b c d e z q r w, F (a, b, c, d, e, z, q, r) w = f a b c d e z q r w := ⟨fun s => f s.1 s.2.1 s.2.2.1 s.2.2.2.1 s.2.2.2.2.1 s.2.2.2.2.2.1 s.2.2.2.2.2.2.1 s.2.2.2.2.2.2.2, fun _ _ _ _ _ _ _ _ _ => rfl⟩
theorem ew9 {ι κ μ : Type} (f : α → β → γ → δ → ε → ζ → ι → κ → μ → World → Prop) : ∃ F : α × β × γ × δ × ε × ζ × ι × κ × μ → World → Prop, ∀ a b c d e z q r s w, F (a, b, c, d, e, z, q, r, s) w = f a b c d e z q r s w := ⟨fun s => f s.1 s.2.1 s.2.2.1 s.2.2.2.1 s.2.2.2.2.1 s.2.2.2.2.2.1 s.2.2.2.2.2.2.1 s.2.2.2.2.2.2.2.1 s.2.2.2.2.2.2.2.2, fun _ _ _ _ _ _ _ _ _ _ => rfl⟩
theorem ew1 (f : α → World → Prop) : ∃ F : α → World → Prop, ∀ a w, F a w = f a w := ⟨f, fun _ _ => rfl⟩
theorem ew2 (f : α → β → World → Prop) : ∃ F : α × β → World → Prop, ∀ a b w, F (a, b) w = f a b w := ⟨fun s => f s.1 s.2, fun _ _ _ => rfl⟩
theorem ew3 (f : α → β → γ → World → Prop) : ∃ F : α × β × γ → World → Prop, ∀ a b c w, F (a, b, c) w = f a b c w := ⟨fun s => f s.1 s.2.1 s.2.2, fun _ _ _ _ => rfl⟩
theorem ew4 (f : α → β → γ → δ → World → Prop) : ∃ F : α × β × γ × δ → World → Prop, ∀ a b c d w, F (a, b, c, d) w = f a b c d w := ⟨fun s => f s.1 s.2.1 s.2.2.1 s.2.2.2, fun _ _ _ _ _ => rfl⟩
theorem ew5 (f : α → β → γ → δ → ε → World → Prop) : ∃ F : α × β × γ × δ × ε → World → Prop, ∀ a b c d e w, F (a, b, c, d, e) w = f a b c d e w := ⟨fun s => f s.1 s.2.1 s.2.2.1 s.2.2.2.1 s.2.2.2.2, fun _ _ _ _ _ _ => rfl⟩
end
section
variable {E : Env} {i1 i2 i3 i4 i5 i6 i7 i8 : Nat} {v1 v2 v3 v4 v5 v6 v7 v8 : Value}
def lks (E : Env) : List (Nat × Value) → Prop
  | [] => True
  | (i, v) :: l => look E i = some v ∧ lks E l
theorem sE : ∀ {l : List (Nat × Value)}, lks E l → SubE l E
  | [], _ => subE_nil
  | (i, v) :: l, h => subE_cons h.1 (sE h.2)
end
end Go.Proofs.Ytcifdianinbkeaa.Lg
namespace Go.Proofs.Ytcifdianinbkeaa.Lg
open Go Go.RowKit
theorem infq2 : (Try.prog.info? 2).map (fun i => (i.zero, i.size, i.bytes)) = some (some (.int .i64 0), 1, 8) := by kernel_rfl
theorem inf2 : Inf Try.prog 2 (.int .i64 0) 1 8 := Inf.mk' infq2
theorem sc2 : Scalar Try.prog 2 := ⟨_, Try.underlying2, by simp, by simp⟩
theorem infq3 : (Try.prog.info? 3).map (fun i => (i.zero, i.size, i.bytes)) = some (some (.int .i64 0), 1, 8) := by kernel_rfl
theorem inf3 : Inf Try.prog 3 (.int .i64 0) 1 8 := Inf.mk' infq3
theorem sc3 : Scalar Try.prog 3 := ⟨_, Try.underlying3, by simp, by simp⟩
abbrev un3 := Try.underlying3
theorem us3 : (Try.prog.underlying 3).isSome = true := by rw [Try.underlying3]; rfl
theorem infq4 : (Try.prog.info? 4).map (fun i => (i.zero, i.size, i.bytes)) = some (some (.bool false), 1, 1) := by kernel_rfl
theorem inf4 : Inf Try.prog 4 (.bool false) 1 1 := Inf.mk' infq4
theorem sc4 : Scalar Try.prog 4 := ⟨_, Try.underlying4, by simp, by simp⟩
theorem infq5 : (Try.prog.info? 5).map (fun i => (i.zero, i.size, i.bytes)) = some (some (.int .u8 0), 1, 1) := by kernel_rfl
theorem inf5 : Inf Try.prog 5 (.int .u8 0) 1 1 := Inf.mk' infq5
theorem sc5 : Scalar Try.prog 5 := ⟨_, Try.underlying5, by simp, by simp⟩
abbrev un5 := Try.underlying5
theorem us5 : (Try.prog.underlying 5).isSome = true := by rw [Try.underlying5]; rfl
theorem infq22 : (Try.prog.info? 22).map (fun i => (i.zero, i.size, i.bytes)) = some (some (.slice none 0 0), 1, 24) := by kernel_rfl
theorem inf22 : Inf Try.prog 22 (.slice none 0 0) 1 24 := Inf.mk' infq22
theorem sc22 : Scalar Try.prog 22 := ⟨_, Try.underlying22, by simp, by simp⟩
abbrev un22 := Try.underlying22
theorem infq24 : (Try.prog.info? 24).map (fun i => (i.zero, i.size, i.bytes)) = some (some (.agg #[.int .i64 0, .int .i64 0, .int .i64 0, .slice none 0 0, .int .i64 0, .int .i64 0, .int .i64 0, .int .i64 0]), 8, 80) := by kernel_rfl
theorem inf24 : Inf Try.prog 24 (.agg #[.int .i64 0, .int .i64 0, .int .i64 0, .slice none 0 0, .int .i64 0, .int .i64 0, .int .i64 0, .int .i64 0]) 8 80 := Inf.mk' infq24
theorem agg24 : (∃ fs, Try.prog.underlying 24 = some (.struct fs)) ∨ (∃ n e, Try.prog.underlying 24 = some (.array n e)) := .inl ⟨_, Try.underlying24⟩
abbrev un24 := Try.underlying24
theorem infq25 : (Try.prog.info? 25).map (fun i => (i.zero, i.size, i.bytes)) = some (some (.slice none 0 0), 1, 24) := by kernel_rfl
theorem inf25 : Inf Try.prog 25 (.slice none 0 0) 1 24 := Inf.mk' infq25
theorem sc25 : Scalar Try.prog 25 := ⟨_, Try.underlying25, by simp, by simp⟩
abbrev un25 := Try.underlying25
theorem infq27 : (Try.prog.info? 27).map (fun i => (i.zero, i.size, i.bytes)) = some (some (.pointer none), 1, 8) := by kernel_rfl
theorem inf27 : Inf Try.prog 27 (.pointer none) 1 8 := Inf.mk' infq27
theorem sc27 : Scalar Try.prog 27 := ⟨_, Try.underlying27, by simp, by simp⟩
abbrev un27 := Try.underlying27
theorem infq28 : (Try.prog.info? 28).map (fun i => (i.zero, i.size, i.bytes)) = some (some (.pointer none), 1, 8) := by kernel_rfl
theorem inf28 : Inf Try.prog 28 (.pointer none) 1 8 := Inf.mk' infq28
theorem sc28 : Scalar Try.prog 28 := ⟨_, Try.underlying28, by simp, by simp⟩
abbrev un28 := Try.underlying28
theorem infq29 : (Try.prog.info? 29).map (fun i => (i.zero, i.size, i.bytes)) = some (some (.slice none 0 0), 1, 24) := by kernel_rfl
theorem inf29 : Inf Try.prog 29 (.slice none 0 0) 1 24 := Inf.mk' infq29
theorem sc29 : Scalar Try.prog 29 := ⟨_, Try.underlying29, by simp, by simp⟩
abbrev un29 := Try.underlying29
theorem infq31 : (Try.prog.info? 31).map (fun i => (i.zero, i.size, i.bytes)) = some (some (.agg #[.int .i64 0, .int .i64 0, .int .i64 0, .slice none 0 0, .int .i64 0, .int .i64 0, .int .i64 0, .int .i64 0, .pointer none, .pointer none, .slice none 0 0]), 11, 120) := by kernel_rfl
theorem inf31 : Inf Try.prog 31 (.agg #[.int .i64 0, .int .i64 0, .int .i64 0, .slice none 0 0, .int .i64 0, .int .i64 0, .int .i64 0, .int .i64 0, .pointer none, .pointer none, .slice none 0 0]) 11 120 := Inf.mk' infq31
theorem agg31 : (∃ fs, Try.prog.underlying 31 = some (.struct fs)) ∨ (∃ n e, Try.prog.underlying 31 = some (.array n e)) := .inl ⟨_, Try.underlying31⟩
abbrev un31 := Try.underlying31
theorem infq38 : (Try.prog.info? 38).map (fun i => (i.zero, i.size, i.bytes)) = some (some (.slice none 0 0), 1, 24) := by kernel_rfl
theorem inf38 : Inf Try.prog 38 (.slice none 0 0) 1 24 := Inf.mk' infq38
theorem sc38 : Scalar Try.prog 38 := ⟨_, Try.underlying38, by simp, by simp⟩
abbrev un38 := Try.underlying38
theorem infq39 : (Try.prog.info? 39).map (fun i => (i.zero, i.size, i.bytes)) = some (some (.slice none 0 0), 1, 24) := by kernel_rfl
theorem inf39 : Inf Try.prog 39 (.slice none 0 0) 1 24 := Inf.mk' infq39
theorem sc39 : Scalar Try.prog 39 := ⟨_, Try.underlying39, by simp, by simp⟩
abbrev un39 := Try.underlying39
theorem infq41 : (Try.prog.info? 41).map (fun i => (i.zero, i.size, i.bytes)) = some (some (.agg #[.int .i64 0, .int .i64 0, .int .i64 0, .int .i64 0, .int .i64 0, .int .i64 0, .slice none 0 0, .slice none 0 0, .slice none 0 0]), 9, 120) := by kernel_rfl
theorem inf41 : Inf Try.prog 41 (.agg #[.int .i64 0, .int .i64 0, .int .i64 0, .int .i64 0, .int .i64 0, .int .i64 0, .slice none 0 0, .slice none 0 0, .slice none 0 0]) 9 120 := Inf.mk' infq41
theorem agg41 : (∃ fs, Try.prog.underlying 41 = some (.struct fs)) ∨ (∃ n e, Try.prog.underlying 41 = some (.array n e)) := .inl ⟨_, Try.underlying41⟩
abbrev un41 := Try.underlying41
theorem infq43 : (Try.prog.info? 43).map (fun i => (i.zero, i.size, i.bytes)) = some (some (.agg #[.int .i64 0, .int .i64 0, .int .i64 0, .int .i64 0, .int .i64 0, .slice none 0 0, .slice none 0 0]), 7, 88) := by kernel_rfl
theorem inf43 : Inf Try.prog 43 (.agg #[.int .i64 0, .int .i64 0, .int .i64 0, .int .i64 0, .int .i64 0, .slice none 0 0, .slice none 0 0]) 7 88 := Inf.mk' infq43
theorem agg43 : (∃ fs, Try.prog.underlying 43 = some (.struct fs)) ∨ (∃ n e, Try.prog.underlying 43 = some (.array n e)) := .inl ⟨_, Try.underlying43⟩
abbrev un43 := Try.underlying43
theorem infq44 : (Try.prog.info? 44).map (fun i => (i.zero, i.size, i.bytes)) = some (some (.slice none 0 0), 1, 24) := by kernel_rfl
theorem inf44 : Inf Try.prog 44 (.slice none 0 0) 1 24 := Inf.mk' infq44
theorem sc44 : Scalar Try.prog 44 := ⟨_, Try.underlying44, by simp, by simp⟩
abbrev un44 := Try.underlying44
theorem infq51 : (Try.prog.info? 51).map (fun i => (i.zero, i.size, i.bytes)) = some (some (.agg #[.int .i64 0, .slice none 0 0, .slice none 0 0]), 3, 56) := by kernel_rfl
theorem inf51 : Inf Try.prog 51 (.agg #[.int .i64 0, .slice none 0 0, .slice none 0 0]) 3 56 := Inf.mk' infq51
theorem agg51 : (∃ fs, Try.prog.underlying 51 = some (.struct fs)) ∨ (∃ n e, Try.prog.underlying 51 = some (.array n e)) := .inl ⟨_, Try.underlying51⟩
abbrev un51 := Try.underlying51
theorem infq53 : (Try.prog.info? 53).map (fun i => (i.zero, i.size, i.bytes)) = some (some (.agg #[.int .i64 0, .slice none 0 0, .slice none 0 0, .int .i64 0]), 4, 64) := by kernel_rfl
theorem inf53 : Inf Try.prog 53 (.agg #[.int .i64 0, .slice none 0 0, .slice none 0 0, .int .i64 0]) 4 64 := Inf.mk' infq53
theorem agg53 : (∃ fs, Try.prog.underlying 53 = some (.struct fs)) ∨ (∃ n e, Try.prog.underlying 53 = some (.array n e)) := .inl ⟨_, Try.underlying53⟩
abbrev un53 := Try.underlying53
abbrev un56 := Try.underlying56
theorem infq60 : (Try.prog.info? 60).map (fun i => (i.zero, i.size, i.bytes)) = some (some (.agg #[.int .i64 0, .int .i64 0, .slice none 0 0]), 3, 40) := by kernel_rfl
theorem inf60 : Inf Try.prog 60 (.agg #[.int .i64 0, .int .i64 0, .slice none 0 0]) 3 40 := Inf.mk' infq60
theorem agg60 : (∃ fs, Try.prog.underlying 60 = some (.struct fs)) ∨ (∃ n e, Try.prog.underlying 60 = some (.array n e)) := .inl ⟨_, Try.underlying60⟩
abbrev un60 := Try.underlying60
abbrev un67 := Try.underlying67
theorem us67 : (Try.prog.underlying 67).isSome = true := by rw [Try.underlying67]; rfl
theorem infq77 : (Try.prog.info? 77).map (fun i => (i.zero, i.size, i.bytes)) = some (some (.pointer none), 1, 8) := by kernel_rfl
theorem inf77 : Inf Try.prog 77 (.pointer none) 1 8 := Inf.mk' infq77
theorem sc77 : Scalar Try.prog 77 := ⟨_, Try.underlying77, by simp, by simp⟩
abbrev un77 := Try.underlying77
abbrev un79 := Try.underlying79
theorem infq94 : (Try.prog.info? 94).map (fun i => (i.zero, i.size, i.bytes)) = some (some (.agg #[.int .i64 0, .int .i64 0, .float .f64 0]), 3, 24) := by kernel_rfl
theorem inf94 : Inf Try.prog 94 (.agg #[.int .i64 0, .int .i64 0, .float .f64 0]) 3 24 := Inf.mk' infq94
theorem agg94 : (∃ fs, Try.prog.underlying 94 = some (.struct fs)) ∨ (∃ n e, Try.prog.underlying 94 = some (.array n e)) := .inl ⟨_, Try.underlying94⟩
abbrev un94 := Try.underlying94
theorem infq98 : (Try.prog.info? 98).map (fun i => (i.zero, i.size, i.bytes)) = some (some (.agg #[.int .i64 0, .int .i64 0, .int .i64 0]), 3, 24) := by kernel_rfl
theorem inf98 : Inf Try.prog 98 (.agg #[.int .i64 0, .int .i64 0, .int .i64 0]) 3 24 := Inf.mk' infq98
theorem agg98 : (∃ fs, Try.prog.underlying 98 = some (.struct fs)) ∨ (∃ n e, Try.prog.underlying 98 = some (.array n e)) := .inr ⟨_, _, Try.underlying98⟩
abbrev un98 := Try.underlying98
abbrev un99 := Try.underlying99
theorem infq106 : (Try.prog.info? 106).map (fun i => (i.zero, i.size, i.bytes)) = some (some (.agg #[.int .i64 0, .slice none 0 0, .slice none 0 0, .int .i64 0, .int .i64 0]), 5, 72) := by kernel_rfl
theorem inf106 : Inf Try.prog 106 (.agg #[.int .i64 0, .slice none 0 0, .slice none 0 0, .int .i64 0, .int .i64 0]) 5 72 := Inf.mk' infq106
theorem agg106 : (∃ fs, Try.prog.underlying 106 = some (.struct fs)) ∨ (∃ n e, Try.prog.underlying 106 = some (.array n e)) := .inl ⟨_, Try.underlying106⟩
abbrev un106 := Try.underlying106
abbrev un108 := Try.underlying108
theorem infq120 : (Try.prog.info? 120).map (fun i => (i.zero, i.size, i.bytes)) = some (some (.slice none 0 0), 1, 24) := by kernel_rfl
theorem inf120 : Inf Try.prog 120 (.slice none 0 0) 1 24 := Inf.mk' infq120
theorem sc120 : Scalar Try.prog 120 := ⟨_, Try.underlying120, by simp, by simp⟩
abbrev un120 := Try.underlying120
abbrev un122 := Try.underlying122
theorem infq125 : (Try.prog.info? 125).map (fun i => (i.zero, i.size, i.bytes)) = some (some (.slice none 0 0), 1, 24) := by kernel_rfl
theorem inf125 : Inf Try.prog 125 (.slice none 0 0) 1 24 := Inf.mk' infq125
theorem sc125 : Scalar Try.prog 125 := ⟨_, Try.underlying125, by simp, by simp⟩
abbrev un125 := Try.underlying125
theorem infq134 : (Try.prog.info? 134).map (fun i => (i.zero, i.size, i.bytes)) = some (some (.int .u64 0), 1, 8) := by kernel_rfl
theorem inf134 : Inf Try.prog 134 (.int .u64 0) 1 8 := Inf.mk' infq134
theorem sc134 : Scalar Try.prog 134 := ⟨_, Try.underlying134, by simp, by simp⟩
abbrev un134 := Try.underlying134
theorem us134 : (Try.prog.underlying 134).isSome = true := by rw [Try.underlying134]; rfl
theorem infq136 : (Try.prog.info? 136).map (fun i => (i.zero, i.size, i.bytes)) = some (some (.agg #[.bool false, .int .u64 0]), 2, 16) := by kernel_rfl
theorem inf136 : Inf Try.prog 136 (.agg #[.bool false, .int .u64 0]) 2 16 := Inf.mk' infq136
abbrev un136 := Try.underlying136
theorem infq138 : (Try.prog.info? 138).map (fun i => (i.zero, i.size, i.bytes)) = some (some (.agg #[.int .u64 0, .bool false, .int .u64 0]), 3, 24) := by kernel_rfl
theorem inf138 : Inf Try.prog 138 (.agg #[.int .u64 0, .bool false, .int .u64 0]) 3 24 := Inf.mk' infq138
theorem agg138 : (∃ fs, Try.prog.underlying 138 = some (.struct fs)) ∨ (∃ n e, Try.prog.underlying 138 = some (.array n e)) := .inl ⟨_, Try.underlying138⟩
abbrev un138 := Try.underlying138
theorem infq142 : (Try.prog.info? 142).map (fun i => (i.zero, i.size, i.bytes)) = some (some (.pointer none), 1, 8) := by kernel_rfl
theorem inf142 : Inf Try.prog 142 (.pointer none) 1 8 := Inf.mk' infq142
theorem sc142 : Scalar Try.prog 142 := ⟨_, Try.underlying142, by simp, by simp⟩
abbrev un143 := Try.underlying143
theorem infq146 : (Try.prog.info? 146).map (fun i => (i.zero, i.size, i.bytes)) = some (some (.pointer none), 1, 8) := by kernel_rfl
theorem inf146 : Inf Try.prog 146 (.pointer none) 1 8 := Inf.mk' infq146
theorem sc146 : Scalar Try.prog 146 := ⟨_, Try.underlying146, by simp, by simp⟩
abbrev un147 := Try.underlying147
theorem fn8 : Fn Try.prog 8 := ⟨_, Try.func8, by kernel_rfl, rfl⟩
theorem fn9 : Fn Try.prog 9 := ⟨_, Try.func9, by kernel_rfl, rfl⟩
theorem fn10 : Fn Try.prog 10 := ⟨_, Try.func10, by kernel_rfl, rfl⟩
theorem fn11 : Fn Try.prog 11 := ⟨_, Try.func11, by kernel_rfl, rfl⟩
theorem fn12 : Fn Try.prog 12 := ⟨_, Try.func12, by kernel_rfl, rfl⟩
theorem fn13 : Fn Try.prog 13 := ⟨_, Try.func13, by kernel_rfl, rfl⟩
theorem fn14 : Fn Try.prog 14 := ⟨_, Try.func14, by kernel_rfl, rfl⟩
theorem fn15 : Fn Try.prog 15 := ⟨_, Try.func15, by kernel_rfl, rfl⟩
theorem fn16 : Fn Try.prog 16 := ⟨_, Try.func16, by kernel_rfl, rfl⟩
theorem fn17 : Fn Try.prog 17 := ⟨_, Try.func17, by kernel_rfl, rfl⟩
theorem fn18 : Fn Try.prog 18 := ⟨_, Try.func18, by kernel_rfl, rfl⟩
theorem fn19 : Fn Try.prog 19 := ⟨_, Try.func19, by kernel_rfl, rfl⟩
theorem fn20 : Fn Try.prog 20 := ⟨_, Try.func20, by kernel_rfl, rfl⟩
theorem fn21 : Fn Try.prog 21 := ⟨_, Try.func21, by kernel_rfl, rfl⟩
theorem fn22 : Fn Try.prog 22 := ⟨_, Try.func22, by kernel_rfl, rfl⟩
theorem fn23 : Fn Try.prog 23 := ⟨_, Try.func23, by kernel_rfl, rfl⟩
theorem fn25 : Fn Try.prog 25 := ⟨_, Try.func25, by kernel_rfl, rfl⟩
theorem fn26 : Fn Try.prog 26 := ⟨_, Try.func26, by kernel_rfl, rfl⟩
theorem fn27 : Fn Try.prog 27 := ⟨_, Try.func27, by kernel_rfl, rfl⟩
theorem fn28 : Fn Try.prog 28 := ⟨_, Try.func28, by kernel_rfl, rfl⟩
theorem fn29 : Fn Try.prog 29 := ⟨_, Try.func29, by kernel_rfl, rfl⟩
theorem fn30 : Fn Try.prog 30 := ⟨_, Try.func30, by kernel_rfl, rfl⟩
theorem fn31 : Fn Try.prog 31 := ⟨_, Try.func31, by kernel_rfl, rfl⟩
theorem fn32 : Fn Try.prog 32 := ⟨_, Try.func32, by kernel_rfl, rfl⟩
theorem fn33 : Fn Try.prog 33 := ⟨_, Try.func33, by kernel_rfl, rfl⟩
theorem fn34 : Fn Try.prog 34 := ⟨_, Try.func34, by kernel_rfl, rfl⟩
theorem fn35 : Fn Try.prog 35 := ⟨_, Try.func35, by kernel_rfl, rfl⟩
theorem fn36 : Fn Try.prog 36 := ⟨_, Try.func36, by kernel_rfl, rfl⟩
theorem fn37 : Fn Try.prog 37 := ⟨_, Try.func37, by kernel_rfl, rfl⟩
theorem fn38 : Fn Try.prog 38 := ⟨_, Try.func38, by kernel_rfl, rfl⟩
theorem fn39 : Fn Try.prog 39 := ⟨_, Try.func39, by kernel_rfl, rfl⟩
theorem fn40 : Fn Try.prog 40 := ⟨_, Try.func40, by kernel_rfl, rfl⟩
theorem fn41 : Fn Try.prog 41 := ⟨_, Try.func41, by kernel_rfl, rfl⟩
theorem fn42 : Fn Try.prog 42 := ⟨_, Try.func42, by kernel_rfl, rfl⟩
theorem fn43 : Fn Try.prog 43 := ⟨_, Try.func43, by kernel_rfl, rfl⟩
theorem fn44 : Fn Try.prog 44 := ⟨_, Try.func44, by kernel_rfl, rfl⟩
theorem fn45 : Fn Try.prog 45 := ⟨_, Try.func45, by kernel_rfl, rfl⟩
theorem fn46 : Fn Try.prog 46 := ⟨_, Try.func46, by kernel_rfl, rfl⟩
theorem fn49 : Fn Try.prog 49 := ⟨_, Try.func49, by kernel_rfl, rfl⟩
theorem fn50 : Fn Try.prog 50 := ⟨_, Try.func50, by kernel_rfl, rfl⟩
theorem fn51 : Fn Try.prog 51 := ⟨_, Try.func51, by kernel_rfl, rfl⟩
theorem fn52 : Fn Try.prog 52 := ⟨_, Try.func52, by kernel_rfl, rfl⟩
theorem fn53 : Fn Try.prog 53 := ⟨_, Try.func53, by kernel_rfl, rfl⟩
theorem fn55 : Fn Try.prog 55 := ⟨_, Try.func55, by kernel_rfl, rfl⟩
theorem fn56 : Fn Try.prog 56 := ⟨_, Try.func56, by kernel_rfl, rfl⟩
theorem fn57 : Fn Try.prog 57 := ⟨_, Try.func57, by kernel_rfl, rfl⟩
theorem fn58 : Fn Try.prog 58 := ⟨_, Try.func58, by kernel_rfl, rfl⟩
theorem fn59 : Fn Try.prog 59 := ⟨_, Try.func59, by kernel_rfl, rfl⟩
theorem fn60 : Fn Try.prog 60 := ⟨_, Try.func60, by kernel_rfl, rfl⟩
theorem fn61 : Fn Try.prog 61 := ⟨_, Try.func61, by kernel_rfl, rfl⟩
theorem fn62 : Fn Try.prog 62 := ⟨_, Try.func62, by kernel_rfl, rfl⟩
theorem fn64 : Fn Try.prog 64 := ⟨_, Try.func64, by kernel_rfl, rfl⟩
theorem fn65 : Fn Try.prog 65 := ⟨_, Try.func65, by kernel_rfl, rfl⟩
theorem fn66 : Fn Try.prog 66 := ⟨_, Try.func66, by kernel_rfl, rfl⟩
theorem fn67 : Fn Try.prog 67 := ⟨_, Try.func67, by kernel_rfl, rfl⟩
theorem fn68 : Fn Try.prog 68 := ⟨_, Try.func68, by kernel_rfl, rfl⟩
theorem fn69 : Fn Try.prog 69 := ⟨_, Try.func69, by kernel_rfl, rfl⟩
theorem fn70 : Fn Try.prog 70 := ⟨_, Try.func70, by kernel_rfl, rfl⟩
theorem fn71 : Fn Try.prog 71 := ⟨_, Try.func71, by kernel_rfl, rfl⟩
theorem fn72 : Fn Try.prog 72 := ⟨_, Try.func72, by kernel_rfl, rfl⟩
theorem fn73 : Fn Try.prog 73 := ⟨_, Try.func73, by kernel_rfl, rfl⟩
theorem fn74 : Fn Try.prog 74 := ⟨_, Try.func74, by kernel_rfl, rfl⟩
theorem fn75 : Fn Try.prog 75 := ⟨_, Try.func75, by kernel_rfl, rfl⟩
theorem fn76 : Fn Try.prog 76 := ⟨_, Try.func76, by kernel_rfl, rfl⟩
theorem fn77 : Fn Try.prog 77 := ⟨_, Try.func77, by kernel_rfl, rfl⟩
theorem fn78 : Fn Try.prog 78 := ⟨_, Try.func78, by kernel_rfl, rfl⟩
theorem fn79 : Fn Try.prog 79 := ⟨_, Try.func79, by kernel_rfl, rfl⟩
theorem fn80 : Fn Try.prog 80 := ⟨_, Try.func80, by kernel_rfl, rfl⟩
theorem fn81 : Fn Try.prog 81 := ⟨_, Try.func81, by kernel_rfl, rfl⟩
theorem fn82 : Fn Try.prog 82 := ⟨_, Try.func82, by kernel_rfl, rfl⟩
theorem fn83 : Fn Try.prog 83 := ⟨_, Try.func83, by kernel_rfl, rfl⟩
theorem fn84 : Fn Try.prog 84 := ⟨_, Try.func84, by kernel_rfl, rfl⟩
theorem fn85 : Fn Try.prog 85 := ⟨_, Try.func85, by kernel_rfl, rfl⟩
theorem fn87 : Fn Try.prog 87 := ⟨_, Try.func87, by kernel_rfl, rfl⟩
theorem fn89 : Fn Try.prog 89 := ⟨_, Try.func89, by kernel_rfl, rfl⟩
theorem fn90 : Fn Try.prog 90 := ⟨_, Try.func90, by kernel_rfl, rfl⟩
theorem fn91 : Fn Try.prog 91 := ⟨_, Try.func91, by kernel_rfl, rfl⟩
theorem fn92 : Fn Try.prog 92 := ⟨_, Try.func92, by kernel_rfl, rfl⟩
theorem nm54 : (Try.f54.name == "runtime.NumGoroutine") = false := by kernel_rfl
theorem nm63 : (Try.f63.name == "runtime.NumGoroutine") = false := by kernel_rfl
theorem nm86 : (Try.f86.name == "runtime.NumGoroutine") = false := by kernel_rfl
theorem nm88 : (Try.f88.name == "runtime.NumGoroutine") = false := by kernel_rfl
theorem mixed : Try.prog.follows .mixedOrders = true := by kernel_rfl
end Go.Proofs.Ytcifdianinbkeaa.Lg
set_option linter.unusedVariables false
set_option linter.unusedSimpArgs false
namespace Go.Proofs.Ytcifdianinbkeaa.Lg
open Go Go.RowKit Go.ChangeShapes Go.WideShapes Go.Deep
theorem list_8 {l : List Value} (h : l.length = 8) : ∃ c0 c1 c2 c3 c4 c5 c6 c7, l = [c0, c1, c2, c3, c4, c5, c6, c7] := by
  match l, h with
  | [c0, c1, c2, c3, c4, c5, c6, c7], _ => exact ⟨c0, c1, c2, c3, c4, c5, c6, c7, rfl⟩
theorem cells24 : Try.prog.cellsOf 24 = 8 := by kernel_rfl
theorem cells3 : Try.prog.cellsOf 3 = 1 := by kernel_rfl
theorem cells22 : Try.prog.cellsOf 22 = 1 := by kernel_rfl
theorem dec24 {H : Type} {enc : TypeId × Value → H} {W : World} {base fuel : Nat} {spare : Nat → Bool} {held : Bool} {cs : List Value} {x : DataW H × List MemPlace} (h : DataW.trod enc Try.prog W base spare held fuel 24 cs = some x) :
    ∃ (x_0 : Int) (x_1 : Int) (x_2 : Int) (x_3 : Option Addr) (x_3n x_3c : Nat) (x_4 : Int) (x_5 : Int) (x_6 : Int) (x_7 : Int), cs = [.int .i64 x_0, .int .i64 x_1, .int .i64 x_2, .slice x_3 x_3n x_3c, .int .i64 x_4, .int .i64 x_5, .int .i64 x_6, .int .i64 x_7] ∧ (Lit.int .i64 x_0).wf = true ∧ (Lit.int .i64 x_1).wf = true ∧ (Lit.int .i64 x_2).wf = true ∧ (∃ d ps, DataW.Trod enc Try.prog W base spare held 22 (.slice x_3 x_3n x_3c) d ps ∧ Rows.uptoBulk d + 1 ≤ Rows.uptoBulk x.1 ∧ ∀ m ∈ d.weights Try.prog 22, m ∈ x.1.weights Try.prog 24) ∧ x_3n ≤ x_3c ∧ x_3c ≤ maxLen ∧ (Lit.int .i64 x_4).wf = true ∧ (Lit.int .i64 x_5).wf = true ∧ (Lit.int .i64 x_6).wf = true ∧ (Lit.int .i64 x_7).wf = true := by
  obtain ⟨n, xs, hx, hl, hf⟩ := trod_at Try.underlying24 h
  rw [cells24] at hl
  obtain ⟨y0, hy0, ht0⟩ := hf 0 _ rfl
  obtain ⟨y1, hy1, ht1⟩ := hf 1 _ rfl
  obtain ⟨y2, hy2, ht2⟩ := hf 2 _ rfl
  obtain ⟨y3, hy3, ht3⟩ := hf 3 _ rfl
  obtain ⟨y4, hy4, ht4⟩ := hf 4 _ rfl
  obtain ⟨y5, hy5, ht5⟩ := hf 5 _ rfl
  obtain ⟨y6, hy6, ht6⟩ := hf 6 _ rfl
  obtain ⟨y7, hy7, ht7⟩ := hf 7 _ rfl
  obtain ⟨c0, c1, c2, c3, c4, c5, c6, c7, rfl⟩ := list_8 hl
  replace ht0 : DataW.trod enc Try.prog W base spare held n 3 ((List.drop 0 [c0, c1, c2, c3, c4, c5, c6, c7]).take (Try.prog.cellsOf 3)) = some y0 := ht0
  rw [cells3] at ht0
  replace ht0 : DataW.trod enc Try.prog W base spare held n 3 [c0] = some y0 := ht0
  have hb0 := bulk_part hx hy0
  have hw0 := light_part Try.underlying24 (show _ = some _ from rfl : (_ : Array Field)[0]? = _) hx hy0
  replace ht1 : DataW.trod enc Try.prog W base spare held n 3 ((List.drop 1 [c0, c1, c2, c3, c4, c5, c6, c7]).take (Try.prog.cellsOf 3)) = some y1 := ht1
  rw [cells3] at ht1
  replace ht1 : DataW.trod enc Try.prog W base spare held n 3 [c1] = some y1 := ht1
  have hb1 := bulk_part hx hy1
  have hw1 := light_part Try.underlying24 (show _ = some _ from rfl : (_ : Array Field)[1]? = _) hx hy1
  replace ht2 : DataW.trod enc Try.prog W base spare held n 3 ((List.drop 2 [c0, c1, c2, c3, c4, c5, c6, c7]).take (Try.prog.cellsOf 3)) = some y2 := ht2
  rw [cells3] at ht2
  replace ht2 : DataW.trod enc Try.prog W base spare held n 3 [c2] = some y2 := ht2
  have hb2 := bulk_part hx hy2
  have hw2 := light_part Try.underlying24 (show _ = some _ from rfl : (_ : Array Field)[2]? = _) hx hy2
  replace ht3 : DataW.trod enc Try.prog W base spare held n 22 ((List.drop 3 [c0, c1, c2, c3, c4, c5, c6, c7]).take (Try.prog.cellsOf 22)) = some y3 := ht3
  rw [cells22] at ht3
  replace ht3 : DataW.trod enc Try.prog W base spare held n 22 [c3] = some y3 := ht3
  have hb3 := bulk_part hx hy3
  have hw3 := light_part Try.underlying24 (show _ = some _ from rfl : (_ : Array Field)[3]? = _) hx hy3
  replace ht4 : DataW.trod enc Try.prog W base spare held n 3 ((List.drop 4 [c0, c1, c2, c3, c4, c5, c6, c7]).take (Try.prog.cellsOf 3)) = some y4 := ht4
  rw [cells3] at ht4
  replace ht4 : DataW.trod enc Try.prog W base spare held n 3 [c4] = some y4 := ht4
  have hb4 := bulk_part hx hy4
  have hw4 := light_part Try.underlying24 (show _ = some _ from rfl : (_ : Array Field)[4]? = _) hx hy4
  replace ht5 : DataW.trod enc Try.prog W base spare held n 3 ((List.drop 5 [c0, c1, c2, c3, c4, c5, c6, c7]).take (Try.prog.cellsOf 3)) = some y5 := ht5
  rw [cells3] at ht5
  replace ht5 : DataW.trod enc Try.prog W base spare held n 3 [c5] = some y5 := ht5
  have hb5 := bulk_part hx hy5
  have hw5 := light_part Try.underlying24 (show _ = some _ from rfl : (_ : Array Field)[5]? = _) hx hy5
  replace ht6 : DataW.trod enc Try.prog W base spare held n 3 ((List.drop 6 [c0, c1, c2, c3, c4, c5, c6, c7]).take (Try.prog.cellsOf 3)) = some y6 := ht6
  rw [cells3] at ht6
  replace ht6 : DataW.trod enc Try.prog W base spare held n 3 [c6] = some y6 := ht6
  have hb6 := bulk_part hx hy6
  have hw6 := light_part Try.underlying24 (show _ = some _ from rfl : (_ : Array Field)[6]? = _) hx hy6
  replace ht7 : DataW.trod enc Try.prog W base spare held n 3 ((List.drop 7 [c0, c1, c2, c3, c4, c5, c6, c7]).take (Try.prog.cellsOf 3)) = some y7 := ht7
  rw [cells3] at ht7
  replace ht7 : DataW.trod enc Try.prog W base spare held n 3 [c7] = some y7 := ht7
  have hb7 := bulk_part hx hy7
  have hw7 := light_part Try.underlying24 (show _ = some _ from rfl : (_ : Array Field)[7]? = _) hx hy7
  obtain ⟨x_0, e0, _, w0⟩ := DataW.trod_int Try.underlying3 ht0
  cases e0
  obtain ⟨x_1, e1, _, w1⟩ := DataW.trod_int Try.underlying3 ht1
  cases e1
  obtain ⟨x_2, e2, _, w2⟩ := DataW.trod_int Try.underlying3 ht2
  cases e2
  obtain ⟨x_3, x_3n, x_3c, e3, q3, l3, m3⟩ := trod_sliceF Try.underlying22 ht3
  cases e3
  obtain ⟨x_4, e4, _, w4⟩ := DataW.trod_int Try.underlying3 ht4
  cases e4
  obtain ⟨x_5, e5, _, w5⟩ := DataW.trod_int Try.underlying3 ht5
  cases e5
  obtain ⟨x_6, e6, _, w6⟩ := DataW.trod_int Try.underlying3 ht6
  cases e6
  obtain ⟨x_7, e7, _, w7⟩ := DataW.trod_int Try.underlying3 ht7
  cases e7
  exact ⟨x_0, x_1, x_2, x_3, x_3n, x_3c, x_4, x_5, x_6, x_7, rfl, w0, w1, w2, ⟨_, _, q3, hb3, hw3⟩, l3, m3, w4, w5, w6, w7⟩
-- 31: dec 31: pointer
theorem cells25 : Try.prog.cellsOf 25 = 1 := by kernel_rfl
theorem list_3 {l : List Value} (h : l.length = 3) : ∃ c0 c1 c2, l = [c0, c1, c2] := by
  match l, h with
  | [c0, c1, c2], _ => exact ⟨c0, c1, c2, rfl⟩
theorem cells60 : Try.prog.cellsOf 60 = 3 := by kernel_rfl
theorem dec60 {H : Type} {enc : TypeId × Value → H} {W : World} {base fuel : Nat} {spare : Nat → Bool} {held : Bool} {cs : List Value} {x : DataW H × List MemPlace} (h : DataW.trod enc Try.prog W base spare held fuel 60 cs = some x) :
    ∃ (x_0 : Int) (x_1 : Int) (x_2 : Option Addr) (x_2n x_2c : Nat), cs = [.int .i64 x_0, .int .i64 x_1, .slice x_2 x_2n x_2c] ∧ (Lit.int .i64 x_0).wf = true ∧ (Lit.int .i64 x_1).wf = true ∧ (∃ d ps, DataW.Trod enc Try.prog W base spare held 25 (.slice x_2 x_2n x_2c) d ps ∧ Rows.uptoBulk d + 1 ≤ Rows.uptoBulk x.1 ∧ ∀ m ∈ d.weights Try.prog 25, m ∈ x.1.weights Try.prog 60) ∧ x_2n ≤ x_2c ∧ x_2c ≤ maxLen := by
  obtain ⟨n, xs, hx, hl, hf⟩ := trod_at Try.underlying60 h
  rw [cells60] at hl
  obtain ⟨y0, hy0, ht0⟩ := hf 0 _ rfl
  obtain ⟨y1, hy1, ht1⟩ := hf 1 _ rfl
  obtain ⟨y2, hy2, ht2⟩ := hf 2 _ rfl
  obtain ⟨c0, c1, c2, rfl⟩ := list_3 hl
  replace ht0 : DataW.trod enc Try.prog W base spare held n 3 ((List.drop 0 [c0, c1, c2]).take (Try.prog.cellsOf 3)) = some y0 := ht0
  rw [cells3] at ht0
  replace ht0 : DataW.trod enc Try.prog W base spare held n 3 [c0] = some y0 := ht0
  have hb0 := bulk_part hx hy0
  have hw0 := light_part Try.underlying60 (show _ = some _ from rfl : (_ : Array Field)[0]? = _) hx hy0
  replace ht1 : DataW.trod enc Try.prog W base spare held n 3 ((List.drop 1 [c0, c1, c2]).take (Try.prog.cellsOf 3)) = some y1 := ht1
  rw [cells3] at ht1
  replace ht1 : DataW.trod enc Try.prog W base spare held n 3 [c1] = some y1 := ht1
  have hb1 := bulk_part hx hy1
  have hw1 := light_part Try.underlying60 (show _ = some _ from rfl : (_ : Array Field)[1]? = _) hx hy1
  replace ht2 : DataW.trod enc Try.prog W base spare held n 25 ((List.drop 2 [c0, c1, c2]).take (Try.prog.cellsOf 25)) = some y2 := ht2
  rw [cells25] at ht2
  replace ht2 : DataW.trod enc Try.prog W base spare held n 25 [c2] = some y2 := ht2
  have hb2 := bulk_part hx hy2
  have hw2 := light_part Try.underlying60 (show _ = some _ from rfl : (_ : Array Field)[2]? = _) hx hy2
  obtain ⟨x_0, e0, _, w0⟩ := DataW.trod_int Try.underlying3 ht0
  cases e0
  obtain ⟨x_1, e1, _, w1⟩ := DataW.trod_int Try.underlying3 ht1
  cases e1
  obtain ⟨x_2, x_2n, x_2c, e2, q2, l2, m2⟩ := trod_sliceF Try.underlying25 ht2
  cases e2
  exact ⟨x_0, x_1, x_2, x_2n, x_2c, rfl, w0, w1, ⟨_, _, q2, hb2, hw2⟩, l2, m2⟩
-- 79: dec 79: pointer
theorem cells94 : Try.prog.cellsOf 94 = 3 := by kernel_rfl
theorem cells2 : Try.prog.cellsOf 2 = 1 := by kernel_rfl
theorem cells92 : Try.prog.cellsOf 92 = 1 := by kernel_rfl
theorem dec94 {H : Type} {enc : TypeId × Value → H} {W : World} {base fuel : Nat} {spare : Nat → Bool} {held : Bool} {cs : List Value} {x : DataW H × List MemPlace} (h : DataW.trod enc Try.prog W base spare held fuel 94 cs = some x) :
    ∃ (x_0 : Int) (x_1 : Int) (x_2 : Nat), cs = [.int .i64 x_0, .int .i64 x_1, .float .f64 x_2] ∧ (Lit.int .i64 x_0).wf = true ∧ (Lit.int .i64 x_1).wf = true := by
  obtain ⟨n, xs, hx, hl, hf⟩ := trod_at Try.underlying94 h
  rw [cells94] at hl
  obtain ⟨y0, hy0, ht0⟩ := hf 0 _ rfl
  obtain ⟨y1, hy1, ht1⟩ := hf 1 _ rfl
  obtain ⟨y2, hy2, ht2⟩ := hf 2 _ rfl
  obtain ⟨c0, c1, c2, rfl⟩ := list_3 hl
  replace ht0 : DataW.trod enc Try.prog W base spare held n 3 ((List.drop 0 [c0, c1, c2]).take (Try.prog.cellsOf 3)) = some y0 := ht0
  rw [cells3] at ht0
  replace ht0 : DataW.trod enc Try.prog W base spare held n 3 [c0] = some y0 := ht0
  have hb0 := bulk_part hx hy0
  have hw0 := light_part Try.underlying94 (show _ = some _ from rfl : (_ : Array Field)[0]? = _) hx hy0
  replace ht1 : DataW.trod enc Try.prog W base spare held n 2 ((List.drop 1 [c0, c1, c2]).take (Try.prog.cellsOf 2)) = some y1 := ht1
  rw [cells2] at ht1
  replace ht1 : DataW.trod enc Try.prog W base spare held n 2 [c1] = some y1 := ht1
  have hb1 := bulk_part hx hy1
  have hw1 := light_part Try.underlying94 (show _ = some _ from rfl : (_ : Array Field)[1]? = _) hx hy1
  replace ht2 : DataW.trod enc Try.prog W base spare held n 92 ((List.drop 2 [c0, c1, c2]).take (Try.prog.cellsOf 92)) = some y2 := ht2
  rw [cells92] at ht2
  replace ht2 : DataW.trod enc Try.prog W base spare held n 92 [c2] = some y2 := ht2
  have hb2 := bulk_part hx hy2
  have hw2 := light_part Try.underlying94 (show _ = some _ from rfl : (_ : Array Field)[2]? = _) hx hy2
  obtain ⟨x_0, e0, _, w0⟩ := DataW.trod_int Try.underlying3 ht0
  cases e0
  obtain ⟨x_1, e1, _, w1⟩ := DataW.trod_int Try.underlying2 ht1
  cases e1
  obtain ⟨x_2, e2⟩ := trod_float Try.underlying92 ht2
  cases e2
  exact ⟨x_0, x_1, x_2, rfl, w0, w1⟩
-- 108: dec 108: pointer
end Go.Proofs.Ytcifdianinbkeaa.Lg
set_option linter.unusedVariables false
namespace Go.Proofs.Ytcifdianinbkeaa.Lg
open Go Go.RowKit
theorem bld41_0_1_3_4_6 (x0 : Int) (x1 : Int) (x3 : Int) (x4 : Int) (x6 : Option Addr) (x6n x6c : Nat) : Try.prog.built 41 [(0, (.int .i64 x0)), (1, (.int .i64 x1)), (3, (.int .i64 x3)), (4, (.int .i64 x4)), (6, (.slice x6 x6n x6c))] = some #[.int .i64 x0, .int .i64 x1, .int .i64 0, .int .i64 x3, .int .i64 x4, .int .i64 0, .slice x6 x6n x6c, .slice none 0 0, .slice none 0 0] := by kernel_rfl
theorem bld41_0_2_3_4_6 (x0 : Int) (x2 : Int) (x3 : Int) (x4 : Int) (x6 : Option Addr) (x6n x6c : Nat) : Try.prog.built 41 [(0, (.int .i64 x0)), (2, (.int .i64 x2)), (3, (.int .i64 x3)), (4, (.int .i64 x4)), (6, (.slice x6 x6n x6c))] = some #[.int .i64 x0, .int .i64 0, .int .i64 x2, .int .i64 x3, .int .i64 x4, .int .i64 0, .slice x6 x6n x6c, .slice none 0 0, .slice none 0 0] := by kernel_rfl
theorem bld31_0_1_2 (x0_0 : Int) (x0_1 : Int) (x0_2 : Int) (x0_3 : Option Addr) (x0_3n x0_3c : Nat) (x0_4 : Int) (x0_5 : Int) (x0_6 : Int) (x0_7 : Int) (x1 : Option Addr) (x2 : Option Addr) : Try.prog.built 31 [(0, (.agg #[.int .i64 x0_0, .int .i64 x0_1, .int .i64 x0_2, .slice x0_3 x0_3n x0_3c, .int .i64 x0_4, .int .i64 x0_5, .int .i64 x0_6, .int .i64 x0_7])), (1, (.pointer x1)), (2, (.pointer x2))] = some #[.int .i64 x0_0, .int .i64 x0_1, .int .i64 x0_2, .slice x0_3 x0_3n x0_3c, .int .i64 x0_4, .int .i64 x0_5, .int .i64 x0_6, .int .i64 x0_7, .pointer x1, .pointer x2, .slice none 0 0] := by kernel_rfl
theorem bld43_0_1_2_3_5 (x0 : Int) (x1 : Int) (x2 : Int) (x3 : Int) (x5 : Option Addr) (x5n x5c : Nat) : Try.prog.built 43 [(0, (.int .i64 x0)), (1, (.int .i64 x1)), (2, (.int .i64 x2)), (3, (.int .i64 x3)), (5, (.slice x5 x5n x5c))] = some #[.int .i64 x0, .int .i64 x1, .int .i64 x2, .int .i64 x3, .int .i64 0, .slice x5 x5n x5c, .slice none 0 0] := by kernel_rfl
theorem bld79_0_1_2 (x0_0 : Int) (x0_1 : Int) (x0_2 : Int) (x0_3 : Option Addr) (x0_3n x0_3c : Nat) (x0_4 : Int) (x0_5 : Int) (x0_6 : Int) (x0_7 : Int) (x1 : Option Addr) (x2 : Option Addr) : Try.prog.built 79 [(0, (.agg #[.int .i64 x0_0, .int .i64 x0_1, .int .i64 x0_2, .slice x0_3 x0_3n x0_3c, .int .i64 x0_4, .int .i64 x0_5, .int .i64 x0_6, .int .i64 x0_7])), (1, (.pointer x1)), (2, (.pointer x2))] = some #[.int .i64 x0_0, .int .i64 x0_1, .int .i64 x0_2, .slice x0_3 x0_3n x0_3c, .int .i64 x0_4, .int .i64 x0_5, .int .i64 x0_6, .int .i64 x0_7, .pointer x1, .pointer x2, .slice none 0 0, .bool false] := by kernel_rfl
theorem bld24_0_1_2_4_5_6_7 (x0 : Int) (x1 : Int) (x2 : Int) (x4 : Int) (x5 : Int) (x6 : Int) (x7 : Int) : Try.prog.built 24 [(0, (.int .i64 x0)), (1, (.int .i64 x1)), (2, (.int .i64 x2)), (4, (.int .i64 x4)), (5, (.int .i64 x5)), (6, (.int .i64 x6)), (7, (.int .i64 x7))] = some #[.int .i64 x0, .int .i64 x1, .int .i64 x2, .slice none 0 0, .int .i64 x4, .int .i64 x5, .int .i64 x6, .int .i64 x7] := by kernel_rfl
theorem bld98_0_1_2 (x0 : Int) (x1 : Int) (x2 : Int) : Try.prog.built 98 [(0, (.int .i64 x0)), (1, (.int .i64 x1)), (2, (.int .i64 x2))] = some #[.int .i64 x0, .int .i64 x1, .int .i64 x2] := by kernel_rfl
theorem bld108_0_1_2_3 (x0 : Option Addr) (x1 : Int) (x2_0_0_0 : Int) (x2_0_0_1 : Option Addr) (x2_0_0_1n x2_0_0_1c : Nat) (x2_0_0_2 : Option Addr) (x2_0_0_2n x2_0_0_2c : Nat) (x2_0_1 : Int) (x2_1 : Int) (x3 : Int) : Try.prog.built 108 [(0, (.pointer x0)), (1, (.int .i64 x1)), (2, (.agg #[.int .i64 x2_0_0_0, .slice x2_0_0_1 x2_0_0_1n x2_0_0_1c, .slice x2_0_0_2 x2_0_0_2n x2_0_0_2c, .int .i64 x2_0_1, .int .i64 x2_1])), (3, (.int .i64 x3))] = some #[.pointer x0, .int .i64 x1, .int .i64 x2_0_0_0, .slice x2_0_0_1 x2_0_0_1n x2_0_0_1c, .slice x2_0_0_2 x2_0_0_2n x2_0_0_2c, .int .i64 x2_0_1, .int .i64 x2_1, .int .i64 x3, .bool false] := by kernel_rfl
theorem bld122_0 (x0 : Option Addr) (x0n x0c : Nat) : Try.prog.built 122 [(0, (.slice x0 x0n x0c))] = some #[.slice x0 x0n x0c, .bool false, .bool false, .int .i64 0, .int .i64 0, .int .i64 0] := by kernel_rfl
theorem bld51_1_2 (x1 : Option Addr) (x1n x1c : Nat) (x2 : Option Addr) (x2n x2c : Nat) : Try.prog.built 51 [(1, (.slice x1 x1n x1c)), (2, (.slice x2 x2n x2c))] = some #[.int .i64 0, .slice x1 x1n x1c, .slice x2 x2n x2c] := by kernel_rfl
theorem bld53_0 (x0_0 : Int) (x0_1 : Option Addr) (x0_1n x0_1c : Nat) (x0_2 : Option Addr) (x0_2n x0_2c : Nat) : Try.prog.built 53 [(0, (.agg #[.int .i64 x0_0, .slice x0_1 x0_1n x0_1c, .slice x0_2 x0_2n x0_2c]))] = some #[.int .i64 x0_0, .slice x0_1 x0_1n x0_1c, .slice x0_2 x0_2n x0_2c, .int .i64 0] := by kernel_rfl
theorem bld106_0_1 (x0_0_0 : Int) (x0_0_1 : Option Addr) (x0_0_1n x0_0_1c : Nat) (x0_0_2 : Option Addr) (x0_0_2n x0_0_2c : Nat) (x0_1 : Int) (x1 : Int) : Try.prog.built 106 [(0, (.agg #[.int .i64 x0_0_0, .slice x0_0_1 x0_0_1n x0_0_1c, .slice x0_0_2 x0_0_2n x0_0_2c, .int .i64 x0_1])), (1, (.int .i64 x1))] = some #[.int .i64 x0_0_0, .slice x0_0_1 x0_0_1n x0_0_1c, .slice x0_0_2 x0_0_2n x0_0_2c, .int .i64 x0_1, .int .i64 x1] := by kernel_rfl
theorem bld108_0_1_2 (x0 : Option Addr) (x1 : Int) (x2_0_0_0 : Int) (x2_0_0_1 : Option Addr) (x2_0_0_1n x2_0_0_1c : Nat) (x2_0_0_2 : Option Addr) (x2_0_0_2n x2_0_0_2c : Nat) (x2_0_1 : Int) (x2_1 : Int) : Try.prog.built 108 [(0, (.pointer x0)), (1, (.int .i64 x1)), (2, (.agg #[.int .i64 x2_0_0_0, .slice x2_0_0_1 x2_0_0_1n x2_0_0_1c, .slice x2_0_0_2 x2_0_0_2n x2_0_0_2c, .int .i64 x2_0_1, .int .i64 x2_1]))] = some #[.pointer x0, .int .i64 x1, .int .i64 x2_0_0_0, .slice x2_0_0_1 x2_0_0_1n x2_0_0_1c, .slice x2_0_0_2 x2_0_0_2n x2_0_0_2c, .int .i64 x2_0_1, .int .i64 x2_1, .int .i64 0, .bool false] := by kernel_rfl
theorem bld51  : Try.prog.built 51 [] = some #[.int .i64 0, .slice none 0 0, .slice none 0 0] := by kernel_rfl
theorem bld51_0_1_2 (x0 : Int) (x1 : Option Addr) (x1n x1c : Nat) (x2 : Option Addr) (x2n x2c : Nat) : Try.prog.built 51 [(0, (.int .i64 x0)), (1, (.slice x1 x1n x1c)), (2, (.slice x2 x2n x2c))] = some #[.int .i64 x0, .slice x1 x1n x1c, .slice x2 x2n x2c] := by kernel_rfl
theorem bld106  : Try.prog.built 106 [] = some #[.int .i64 0, .slice none 0 0, .slice none 0 0, .int .i64 0, .int .i64 0] := by kernel_rfl
end Go.Proofs.Ytcifdianinbkeaa.Lg
set_option linter.unusedVariables false
set_option linter.unusedSimpArgs false
namespace Go.Proofs.Ytcifdianinbkeaa.Lg
open Go Go.RowKit
structure DSt where
  bl : List (List Int)
  down : Bool
  armed : Bool
  left : Int
  reads : Int
  writes : Int
def dcells (s : DSt) (A : Option Addr) (c : Nat) : List Value := [.slice A s.bl.length c, .bool s.down, .bool s.armed, .int .i64 s.left, .int .i64 s.reads, .int .i64 s.writes]
/-- A disk at block b. -/
def DiskA (TD TS TB : TypeId) (b : Nat) (s : DSt) : Assn := Thing (fun q : List Value × Option Addr × Nat => q.1.length = s.bl.length)
  (fun q => Blk b (dcells s q.2.1 q.2.2) TD :: Own TS 1 (.slice q.2.1 s.bl.length q.2.2) s.bl.length (El.val.flat q.1) :: rowsA TB (El.int .u8) q.1 s.bl)
section
variable {B w : World} {TD TS TB b : Nat} {s : DSt} {L : List Assn}
theorem Sat.dopen (hs : Sat B w (DiskA TD TS TB b s :: L)) : ∃ (vs : List Value) (A : Option Addr) (c : Nat), vs.length = s.bl.length ∧
    Sat B w (Blk b (dcells s A c) TD :: Own TS 1 (.slice A s.bl.length c) s.bl.length (El.val.flat vs) :: (L ++ rowsA TB (El.int .u8) vs s.bl)) := by
  obtain ⟨⟨vs, A, c⟩, h1, h2⟩ := Sat.openObj hs
  exact ⟨vs, A, c, h1, h2.perm perm_rows⟩
theorem Sat.dshut {vs : List Value} {A : Option Addr} {c : Nat} (hv : vs.length = s.bl.length)
    (hs : Sat B w (Blk b (dcells s A c) TD :: Own TS 1 (.slice A s.bl.length c) s.bl.length (El.val.flat vs) :: (L ++ rowsA TB (El.int .u8) vs s.bl))) : Sat B w (DiskA TD TS TB b s :: L) :=
  Sat.shutObj (vs, A, c) hv (hs.perm perm_rows.symm)
end
def dcheck (s : DSt) (i : Int) : Int := if s.down then 80 else if i < 0 ∨ (s.bl.length : Int) ≤ i then 81 else 0
def dset (s : DSt) (down : Bool) (n : Int) : DSt := { s with down := down, armed := decide (0 ≤ n), left := n }
def dcut (s : DSt) (n : Int) : DSt := dset s s.down n
def doff (s : DSt) : DSt := dset s true (-1)
def don (s : DSt) : DSt := dset s false (-1)
def dread (s : DSt) (i : Int) : List Int × Int × DSt := if dcheck s i = 0 then (s.bl.getD i.toNat [], 0, { s with reads := IntKind.i64.wrap (s.reads + 1) }) else ([], dcheck s i, s)
def dwrite (s : DSt) (i : Int) (b : List Int) : Int × DSt :=
  if dcheck s i ≠ 0 then (dcheck s i, s) else if 1024 < b.length then (6, s) else if s.armed = true ∧ s.left = 0 then (80, doff s)
  else (0, { s with left := IntKind.i64.wrap (s.left - 1), bl := s.bl.set i.toNat b, writes := IntKind.i64.wrap (s.writes + 1) })
def dnew (n : Nat) : DSt := ⟨List.replicate n [], false, false, 0, 0, 0⟩
end Go.Proofs.Ytcifdianinbkeaa.Lg
set_option linter.unusedVariables false
set_option linter.unusedSimpArgs false
namespace Go.Proofs.Ytcifdianinbkeaa.Lg
open Go Go.RowKit
structure RSt where
  bl : List (List Int)
  down : Bool
  left : Int
  reads : Int
  writes : Int
section
variable {B w : World} {TD TS TB b : Nat} {s : RSt} {L : List Assn}
end
def rcheck (s : RSt) (i : Int) : Int := if s.down then 80 else if i < 0 ∨ (s.bl.length : Int) ≤ i then 81 else 0
def roff (s : RSt) : RSt := { s with down := true, left := -1 }
def ron (s : RSt) : RSt := { s with down := false, left := -1 }
def rcut (s : RSt) (n : Int) : RSt := { s with left := if n < 0 then -1 else n }
def rread (s : RSt) (i : Int) : List Int × Int × RSt := if rcheck s i = 0 then (s.bl.getD i.toNat [], 0, { s with reads := IntKind.i64.wrap (s.reads + 1) }) else ([], rcheck s i, s)
/-- The disk and the reference's tell the same. -/
def Alike (d : DSt) (r : RSt) : Prop := d.bl = r.bl ∧ d.down = r.down ∧ d.reads = r.reads ∧ d.writes = r.writes ∧ -1 ≤ r.left ∧ d.armed = decide (0 ≤ r.left) ∧ (0 ≤ r.left → d.left = r.left)
theorem alike_check {d : DSt} {r : RSt} (h : Alike d r) (i : Int) : dcheck d i = rcheck r i := by
  obtain ⟨h1, h2, _⟩ := h
  unfold dcheck rcheck
  rw [h1, h2]
end Go.Proofs.Ytcifdianinbkeaa.Lg
