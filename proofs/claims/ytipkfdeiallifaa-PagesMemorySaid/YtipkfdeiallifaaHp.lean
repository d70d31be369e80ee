/-
  What a call owns, as a list of assertions on parts of memory that do not meet: 'Sat B w L': all that was there in B is in w as it was, and from B's end on memory holds the parts of L, apart from each other.
-/
import Derived.Test.YtipkfdeiallifaaLg
set_option linter.unusedVariables false
set_option linter.unusedSimpArgs false
namespace Go.Proofs.Ytipkfdeiallifaa.Lg
open Go Go.RowKit

abbrev Heap := Nat → Option Obj
abbrev Assn := Heap → Prop
def Stars : List Assn → Heap → Prop
  | [], h => ∀ b, h b = none
  | A :: L, h => ∃ h1 h2, A h1 ∧ Stars L h2 ∧ (∀ b, h1 b = none ∨ h2 b = none) ∧ ∀ b, h b = (h1 b).or (h2 b)

structure Sat (B w : World) (L : List Assn) : Prop where
  below : Below B.heap.size B w
  own : ∃ h : Heap, Stars L h ∧ ∀ b o, h b = some o → B.heap.size ≤ b ∧ w.heap[b]? = some o

def Is (b : Nat) (o : Obj) : Assn := fun h => ∀ b', h b' = if b' = b then some o else none
def Blk (b : Nat) (cs : List Value) (T : TypeId) : Assn := Is b (.cells cs.toArray T (0, 0))

theorem stars_nil : Stars [] (fun _ => none) := fun _ => rfl
theorem Sat.forget {B w : World} {L : List Assn} (hs : Sat B w L) : Sat B w [] := ⟨hs.below, _, stars_nil, fun b o h => by cases h⟩
theorem Sat.start (w : World) : Sat w w [] := ⟨Below.refl _ _, fun _ => none, fun _ => rfl, fun b o h => by cases h⟩

theorem o_swap1 {x1 x2 x3 x4 : Option Obj} (hd : x1 = none ∨ x2 = none) (he : x2 = x3.or x4) (hd2 : x3 = none ∨ x4 = none) : x3 = none ∨ x1.or x4 = none := by
  subst he; cases x1 <;> cases x3 <;> cases x4 <;> simp_all
theorem o_swap2 {x1 x2 x3 x4 : Option Obj} (hd : x1 = none ∨ x2 = none) (he : x2 = x3.or x4) (hd2 : x3 = none ∨ x4 = none) : x1 = none ∨ x4 = none := by
  subst he; cases x1 <;> cases x3 <;> cases x4 <;> simp_all
theorem o_swap3 {x x1 x2 x3 x4 : Option Obj} (hx : x = x1.or x2) (hd : x1 = none ∨ x2 = none) (he : x2 = x3.or x4) (hd2 : x3 = none ∨ x4 = none) : x = x3.or (x1.or x4) := by
  subst he; subst hx; cases x1 <;> cases x3 <;> cases x4 <;> simp_all
theorem o_join1 {x1 x2 x3 x4 : Option Obj} (hd : x1 = none ∨ x2 = none) (he : x2 = x3.or x4) (hd2 : x3 = none ∨ x4 = none) : x1 = none ∨ x3 = none := by
  subst he; cases x1 <;> cases x3 <;> cases x4 <;> simp_all
theorem o_join2 {x1 x2 x3 x4 : Option Obj} (hd : x1 = none ∨ x2 = none) (he : x2 = x3.or x4) (hd2 : x3 = none ∨ x4 = none) : x1.or x3 = none ∨ x4 = none := by
  subst he; cases x1 <;> cases x3 <;> cases x4 <;> simp_all
theorem o_join3 {x x1 x2 x3 x4 : Option Obj} (hx : x = x1.or x2) (he : x2 = x3.or x4) : x = (x1.or x3).or x4 := by
  subst he; subst hx; cases x1 <;> cases x3 <;> cases x4 <;> rfl
theorem o_split1 {x0 x1 x3 x4 : Option Obj} (hd : x0 = none ∨ x4 = none) (he : x0 = x1.or x3) : x3 = none ∨ x4 = none := by
  subst he; cases x1 <;> cases x3 <;> cases x4 <;> simp_all
theorem o_split2 {x0 x1 x3 x4 : Option Obj} (hd1 : x1 = none ∨ x3 = none) (hd : x0 = none ∨ x4 = none) (he : x0 = x1.or x3) : x1 = none ∨ x3.or x4 = none := by
  subst he; cases x1 <;> cases x3 <;> cases x4 <;> simp_all
theorem o_split3 {x x0 x1 x3 x4 : Option Obj} (hx : x = x0.or x4) (he : x0 = x1.or x3) : x = x1.or (x3.or x4) := by
  subst he; subst hx; cases x1 <;> cases x3 <;> cases x4 <;> rfl
theorem o_app1 {x' x1 x2 y : Option Obj} (he : x' = x1.or x2) (hdis : x' = none ∨ y = none) : x2 = none ∨ y = none := by
  subst he; cases x1 <;> cases x2 <;> cases y <;> simp_all
theorem o_app2 {x' x1 x2 y : Option Obj} (he : x' = x1.or x2) (hd : x1 = none ∨ x2 = none) (hdis : x' = none ∨ y = none) : x1 = none ∨ x2.or y = none := by
  subst he; cases x1 <;> cases x2 <;> cases y <;> simp_all
theorem o_app3 {x' x1 x2 y : Option Obj} (he : x' = x1.or x2) : x'.or y = x1.or (x2.or y) := by
  subst he; cases x1 <;> cases x2 <;> cases y <;> rfl

theorem Stars.swap {A C : Assn} {L : List Assn} {h : Heap} (hs : Stars (A :: C :: L) h) : Stars (C :: A :: L) h := by
  obtain ⟨h1, h2, hA, ⟨h3, h4, hC, hL, hd2, he2⟩, hd, he⟩ := hs
  exact ⟨h3, fun b => (h1 b).or (h4 b), hC, ⟨h1, h4, hA, hL, fun b => o_swap2 (hd b) (he2 b) (hd2 b), fun _ => rfl⟩, fun b => o_swap1 (hd b) (he2 b) (hd2 b), fun b => o_swap3 (he b) (hd b) (he2 b) (hd2 b)⟩

theorem Stars.front : ∀ {L : List Assn} {h : Heap} (i : Nat) {A : Assn}, Stars L h → L[i]? = some A → Stars (A :: L.eraseIdx i) h
  | [], h, i, A, hs, hi => by simp at hi
  | C :: L, h, 0, A, hs, hi => by
    simp at hi; subst hi; exact hs
  | C :: L, h, i + 1, A, hs, hi => by
    obtain ⟨h1, h2, hC, hL, hd, he⟩ := hs
    have := Stars.front (L := L) i hL (by simpa using hi)
    exact Stars.swap (A := C) ⟨h1, h2, hC, this, hd, he⟩

theorem Sat.front {B w : World} {L : List Assn} (hs : Sat B w L) (i : Nat) {A : Assn} (hi : L[i]? = some A) : Sat B w (A :: L.eraseIdx i) := by
  obtain ⟨hb, h, hL, hw⟩ := hs
  exact ⟨hb, h, hL.front i hi, hw⟩

theorem Stars.perm {L M : List Assn} (hp : L.Perm M) : ∀ {h : Heap}, Stars L h → Stars M h := by
  induction hp with
  | nil => exact fun h => h
  | cons A _ ih =>
    rintro h ⟨h1, h2, hA, hL, hd, he⟩
    exact ⟨h1, h2, hA, ih hL, hd, he⟩
  | swap A C L => exact fun h => Stars.swap h
  | trans _ _ ih1 ih2 => exact fun h => ih2 (ih1 h)
theorem Sat.perm {B w : World} {L M : List Assn} (hs : Sat B w L) (hp : L.Perm M) : Sat B w M := by
  obtain ⟨hb, h, hL, hw⟩ := hs
  exact ⟨hb, h, Stars.perm hp hL, hw⟩

theorem Sat.tail {B w : World} {A : Assn} {L : List Assn} (hs : Sat B w (A :: L)) : Sat B w L := by
  obtain ⟨hb, h, ⟨h1, h2, hA, hL, hd, he⟩, hw⟩ := hs
  refine ⟨hb, h2, hL, fun b o hbo => hw b o ?_⟩
  rw [he b]
  rcases hd b with h' | h'
  · rw [h', hbo]; rfl
  · rw [h'] at hbo; cases hbo

theorem Sat.erase {B w : World} {L : List Assn} (hs : Sat B w L) (i : Nat) : Sat B w (L.eraseIdx i) := by
  cases h : L[i]? with
  | none =>
    have : L.length ≤ i := by simpa using h
    rw [List.eraseIdx_of_length_le this]; exact hs
  | some A => exact (hs.front i h).tail

/-- The first part: what it is, and that the world bears it. -/
theorem Sat.head {B w : World} {A : Assn} {L : List Assn} (hs : Sat B w (A :: L)) : ∃ h1, A h1 ∧ ∀ b o, h1 b = some o → B.heap.size ≤ b ∧ w.heap[b]? = some o := by
  obtain ⟨hb, h, ⟨h1, h2, hA, hL, hd, he⟩, hw⟩ := hs
  refine ⟨h1, hA, fun b o hbo => hw b o ?_⟩
  rw [he b, hbo]; rfl

theorem Sat.imp {B w : World} {A A' : Assn} {L : List Assn} (hs : Sat B w (A :: L)) (h : ∀ h1, A h1 → A' h1) : Sat B w (A' :: L) := by
  obtain ⟨hb, h0, ⟨h1, h2, hA, hL, hd, he⟩, hw⟩ := hs
  exact ⟨hb, h0, ⟨h1, h2, h _ hA, hL, hd, he⟩, hw⟩

theorem Sat.ex {B w : World} {σ : Type} {A : σ → Assn} {L : List Assn} (hs : Sat B w ((fun h => ∃ s, A s h) :: L)) : ∃ s, Sat B w (A s :: L) := by
  obtain ⟨hb, h0, ⟨h1, h2, ⟨s, hA⟩, hL, hd, he⟩, hw⟩ := hs
  exact ⟨s, hb, h0, ⟨h1, h2, hA, hL, hd, he⟩, hw⟩
theorem Sat.pure {B w : World} {p : Prop} {A : Assn} {L : List Assn} (hs : Sat B w ((fun h => p ∧ A h) :: L)) : p ∧ Sat B w (A :: L) := by
  obtain ⟨hb, h0, ⟨h1, h2, ⟨hp, hA⟩, hL, hd, he⟩, hw⟩ := hs
  exact ⟨hp, hb, h0, ⟨h1, h2, hA, hL, hd, he⟩, hw⟩
/-- Two parts as one. -/
def And2 (A C : Assn) : Assn := fun h => Stars [A, C] h
theorem Stars.join {A C : Assn} {L : List Assn} {h : Heap} (hs : Stars (A :: C :: L) h) : Stars (And2 A C :: L) h := by
  obtain ⟨h1, h2, hA, ⟨h3, h4, hC, hL, hd2, he2⟩, hd, he⟩ := hs
  exact ⟨fun b => (h1 b).or (h3 b), h4, ⟨h1, h3, hA, ⟨h3, fun _ => none, hC, fun _ => rfl, fun b => .inr rfl, fun b => by simp⟩, fun b => o_join1 (hd b) (he2 b) (hd2 b), fun b => rfl⟩, hL, fun b => o_join2 (hd b) (he2 b) (hd2 b), fun b => o_join3 (he b) (he2 b)⟩
theorem Stars.split {A C : Assn} {L : List Assn} {h : Heap} (hs : Stars (And2 A C :: L) h) : Stars (A :: C :: L) h := by
  obtain ⟨h0, h4, ⟨h1, h2, hA, ⟨h3, h5, hC, h5n, hd3, he3⟩, hd1, he1⟩, hL, hd, he⟩ := hs
  have e2 : ∀ b, h2 b = h3 b := fun b => by
    have : h5 b = none := h5n b
    rw [he3 b, this]; simp
  have he1' : ∀ b, h0 b = (h1 b).or (h3 b) := fun b => by rw [he1 b, e2 b]
  have hd1' : ∀ b, h1 b = none ∨ h3 b = none := fun b => by have := hd1 b; rw [e2 b] at this; exact this
  exact ⟨h1, fun b => (h3 b).or (h4 b), hA, ⟨h3, h4, hC, hL, fun b => o_split1 (hd b) (he1' b), fun b => rfl⟩, fun b => o_split2 (hd1' b) (hd b) (he1' b), fun b => o_split3 (he b) (he1' b)⟩
theorem Sat.join {B w : World} {A C : Assn} {L : List Assn} (hs : Sat B w (A :: C :: L)) : Sat B w (And2 A C :: L) := by
  obtain ⟨hb, h, hL, hw⟩ := hs
  exact ⟨hb, h, hL.join, hw⟩
theorem Sat.split {B w : World} {A C : Assn} {L : List Assn} (hs : Sat B w (And2 A C :: L)) : Sat B w (A :: C :: L) := by
  obtain ⟨hb, h, hL, hw⟩ := hs
  exact ⟨hb, h, hL.split, hw⟩

/-- What happens to the first part alone. -/
theorem Sat.step {B w w' : World} {A A' : Assn} {L : List Assn} (hs : Sat B w (A :: L)) (hos : w'.os = w.os) (htape : w'.tape = w.tape) (hout : w'.output = w.output) (hsz : w.heap.size ≤ w'.heap.size)
    (h : ∀ h1, A h1 → (∀ b o, h1 b = some o → B.heap.size ≤ b ∧ w.heap[b]? = some o) → ∃ h1', A' h1' ∧
      (∀ b o, h1' b = some o → (h1 b ≠ none ∨ w.heap.size ≤ b) ∧ w'.heap[b]? = some o) ∧ (∀ b, b < w.heap.size → h1 b = none → w'.heap[b]? = w.heap[b]?)) : Sat B w' (A' :: L) := by
  obtain ⟨hb, h0, ⟨h1, h2, hA, hL, hd, he⟩, hw⟩ := hs
  have hw1 : ∀ b o, h1 b = some o → B.heap.size ≤ b ∧ w.heap[b]? = some o := fun b o hbo => hw b o (by rw [he b, hbo]; rfl)
  have hw2 : ∀ b o, h2 b = some o → B.heap.size ≤ b ∧ w.heap[b]? = some o := fun b o hbo => hw b o (by
    rw [he b]
    rcases hd b with h' | h'
    · rw [h', hbo]; rfl
    · rw [h'] at hbo; cases hbo)
  obtain ⟨h1', hA', hn, hk⟩ := h h1 hA hw1
  have hlt : ∀ b o, h2 b = some o → b < w.heap.size := fun b o hbo => (Array.getElem?_eq_some_iff.1 (hw2 b o hbo).2).1
  have hdis : ∀ b, h1' b = none ∨ h2 b = none := by
    intro b
    cases h1b : h1' b with
    | none => exact .inl rfl
    | some o =>
      right
      cases h2b : h2 b with
      | none => rfl
      | some o2 =>
        rcases (hn b o h1b).1 with hne | hge
        · rcases hd b with h' | h'
          · exact absurd h' hne
          · rw [h'] at h2b; cases h2b
        · have := hlt b o2 h2b; omega
  refine ⟨hb.trans ⟨hos, htape, hout, hsz, fun b hlt' => ?_⟩, fun b => (h1' b).or (h2 b), ⟨h1', h2, hA', hL, hdis, fun _ => rfl⟩, ?_⟩
  · cases h1b : h1 b with
    | none => exact hk b (Nat.lt_of_lt_of_le hlt' hb.size) h1b
    | some o => have := (hw1 b o h1b).1; omega
  · intro b o hbo
    cases h1b : h1' b with
    | some o1 =>
      simp only [h1b, Option.some_or, Option.some.injEq] at hbo
      subst hbo
      have hh := hn b o1 h1b
      refine ⟨?_, hh.2⟩
      rcases hh.1 with hne | hge
      · cases h1b' : h1 b with
        | none => exact absurd h1b' hne
        | some o' => exact (hw1 b o' h1b').1
      · have := hb.size; omega
    | none =>
      simp only [h1b, Option.none_or] at hbo
      have h2' := hw2 b o hbo
      refine ⟨h2'.1, ?_⟩
      rcases hd b with h' | h'
      · rw [hk b (hlt b o hbo) h']; exact h2'.2
      · rw [h'] at hbo; cases hbo

/-- Nothing of what is owned is touched; the rest may grow. -/
theorem Sat.grow {B w w' : World} {L : List Assn} (hs : Sat B w L) (hb' : Below w.heap.size w w') : Sat B w' L := by
  obtain ⟨hb, h, hL, hw⟩ := hs
  refine ⟨hb.trans (hb'.mono hb.size), h, hL, fun b o hbo => ?_⟩
  obtain ⟨h1, h2⟩ := hw b o hbo
  exact ⟨h1, by rw [hb'.block b (Array.getElem?_eq_some_iff.1 h2).1]; exact h2⟩

/-- A callee's own, laid beside. -/
theorem Sat.trans {B w w' : World} {L M : List Assn} (hs : Sat B w L) (hs' : Sat w w' M) : Sat B w' (M ++ L) := by
  have hg := hs.grow hs'.below
  obtain ⟨hb, h, hL, hw⟩ := hs
  obtain ⟨hb', h', hM, hw'⟩ := hs'
  have app : ∀ (M : List Assn) (h' : Heap), Stars M h' → (∀ b, h' b = none ∨ h b = none) → Stars (M ++ L) (fun b => (h' b).or (h b)) := by
    intro M
    induction M with
    | nil =>
      intro h' hM _
      have : (fun b => (h' b).or (h b)) = h := by funext b; rw [hM b]; simp
      rw [this]; exact hL
    | cons A M ih =>
      rintro h' ⟨h1, h2, hA, hM, hd, he⟩ hdis
      exact ⟨h1, fun b => (h2 b).or (h b), hA, ih h2 hM (fun b => o_app1 (he b) (hdis b)), fun b => o_app2 (he b) (hd b) (hdis b), fun b => o_app3 (he b)⟩
  have hdis : ∀ b, h' b = none ∨ h b = none := fun b => by
    cases h1 : h' b with
    | none => exact .inl rfl
    | some o =>
      right
      cases h2 : h b with
      | none => rfl
      | some o2 =>
        have a1 := (hw' b o h1).1
        have a2 := (Array.getElem?_eq_some_iff.1 (hw b o2 h2).2).1
        omega
  refine ⟨hg.below, _, app M h' hM hdis, fun b o hbo => ?_⟩
  cases h1 : h' b with
  | some o1 =>
    simp only [h1, Option.some_or, Option.some.injEq] at hbo
    subst hbo
    have := hw' b o1 h1
    exact ⟨by have := hb.size; omega, this.2⟩
  | none =>
    simp only [h1, Option.none_or] at hbo
    have h2 := hw b o hbo
    exact ⟨h2.1, by rw [hb'.block b (Array.getElem?_eq_some_iff.1 h2.2).1]; exact h2.2⟩

theorem Sat.alloc {B w : World} {L : List Assn} (hs : Sat B w L) (o : Obj) : Sat B (w.alloc o) (Is w.heap.size o :: L) := by
  have h1 : Sat w (w.alloc o) [Is w.heap.size o] := by
    refine ⟨(Below.refl _ _).alloc (Nat.le_refl _) o, fun b => if b = w.heap.size then some o else none, ⟨_, fun _ => none, fun b => rfl, fun _ => rfl, fun b => .inr rfl, fun b => by simp⟩, fun b o' hb => ?_⟩
    by_cases h : b = w.heap.size
    · subst h
      simp at hb
      subst hb
      exact ⟨Nat.le_refl _, by show (w.heap.push o)[w.heap.size]? = some o; simp⟩
    · simp [h] at hb
  exact hs.trans h1

theorem Sat.is_get {B w : World} {b : Nat} {o : Obj} {L : List Assn} (hs : Sat B w (Is b o :: L)) : B.heap.size ≤ b ∧ w.heap[b]? = some o := by
  obtain ⟨h1, hA, hw⟩ := hs.head
  exact hw b o (by rw [hA b]; simp)
theorem Sat.is_at {B w : World} {b : Nat} {o : Obj} {L : List Assn} (hs : Sat B w L) (i : Nat) (hi : L[i]? = some (Is b o)) : B.heap.size ≤ b ∧ w.heap[b]? = some o := (hs.front i hi).is_get

theorem Sat.is_set {B w : World} {b : Nat} {o o' : Obj} {L : List Assn} (hs : Sat B w (Is b o :: L)) {w' : World} (hw' : w' = { w with heap := w.heap.setIfInBounds b o' }) : Sat B w' (Is b o' :: L) := by
  subst hw'
  refine hs.step rfl rfl rfl (by simp) ?_
  intro h1 hA hw
  refine ⟨fun b' => if b' = b then some o' else none, fun _ => rfl, ⟨fun b1 o1 hb1 => ?_, fun b1 hlt hn => ?_⟩⟩
  · by_cases hbb : b1 = b
    · subst hbb
      simp at hb1
      subst hb1
      refine ⟨.inl (by rw [hA b1]; simp), ?_⟩
      have hl := (Array.getElem?_eq_some_iff.1 (hw b1 o (by rw [hA b1]; simp)).2).1
      simp [Array.getElem?_setIfInBounds, hl]
    · simp [hbb] at hb1
  · have : b1 ≠ b := fun e => by subst e; rw [hA b1] at hn; simp at hn
    simp [Array.getElem?_setIfInBounds, Ne.symm this]

/-! ### Rows of cells: read -/
/-- A slice's address and length, and the cells that it shows. -/
structure Rd (w : World) (A : Option Addr) (n c size : Nat) (xs : List Value) : Prop where
  len : xs.length = n * size
  cap : n ≤ c
  cells : 0 < n → ∃ b off, A = some ⟨b, off, none⟩ ∧ b < w.heap.size ∧ ∀ j u, xs[j]? = some u → w.cell? ⟨b, off + j, none⟩ = some u
  nil : A = none → c = 0

theorem Rd.none (w : World) (size : Nat) : Rd w none 0 0 size [] := ⟨by simp, by omega, fun h => by omega, fun _ => rfl⟩
theorem Rd.grow {w w' : World} {A : Option Addr} {n c size : Nat} {xs : List Value} (h : Rd w A n c size xs) (hb : Below w.heap.size w w') : Rd w' A n c size xs :=
  ⟨h.len, h.cap, fun hn => by
    obtain ⟨b, off, e, hlt, hc⟩ := h.cells hn
    exact ⟨b, off, e, Nat.lt_of_lt_of_le hlt hb.size, fun j u hj => (hb.cell (p := ⟨b, off + j, Option.none⟩) hlt).trans (hc j u hj)⟩, h.nil⟩
theorem Rd.inB {B w : World} {A : Option Addr} {n c size : Nat} {xs : List Value} {L : List Assn} (h : Rd B A n c size xs) (hs : Sat B w L) : Rd w A n c size xs := h.grow hs.below
/-- The world's heap alone matters. -/
theorem cell?_heap {w w' : World} (h : w'.heap = w.heap) (a : Addr) : w'.cell? a = w.cell? a := by simp [World.cell?, h]
theorem Rd.heap {w w' : World} {A : Option Addr} {n c size : Nat} {xs : List Value} (h : Rd w A n c size xs) (e : w'.heap = w.heap) : Rd w' A n c size xs :=
  ⟨h.len, h.cap, fun hn => by
    obtain ⟨b, off, e1, hlt, hc⟩ := h.cells hn
    exact ⟨b, off, e1, by rw [e]; exact hlt, fun j u hj => (cell?_heap e _).trans (hc j u hj)⟩, h.nil⟩
theorem Rd.take {w : World} {A : Option Addr} {n c size : Nat} {xs : List Value} (h : Rd w A n c size xs) (i : Nat) (hi : i ≤ n) : Rd w A i c size (xs.take (i * size)) :=
  ⟨by rw [List.length_take, h.len]; have := Nat.mul_le_mul_right size hi; omega, Nat.le_trans hi h.cap, fun hp => by
    obtain ⟨b, off, e, hlt, hc⟩ := h.cells (by omega)
    exact ⟨b, off, e, hlt, fun j u hj => hc j u (by rw [List.getElem?_take] at hj; split at hj <;> simp_all)⟩, h.nil⟩
theorem Rd.drop {w : World} {A : Option Addr} {n c size : Nat} {xs : List Value} (h : Rd w A n c size xs) (i : Nat) (hi : i ≤ n) :
    Rd w (if c = i then A else A.map (·.add (i * size))) (n - i) (c - i) size (xs.drop (i * size)) := by
  refine ⟨by rw [List.length_drop, h.len, Nat.sub_mul], by have := h.cap; omega, fun hp => ?_, fun hnone => ?_⟩
  · obtain ⟨b, off, rfl, hlt, hc⟩ := h.cells (by omega)
    have := h.cap
    rw [if_neg (by omega)]
    refine ⟨b, off + i * size, ?_, hlt, fun j u hj => ?_⟩
    · simp only [Option.map_some, Addr.add]
      split
      · rename_i h0; rw [h0]; simp
      · rfl
    · rw [List.getElem?_drop] at hj
      rw [Nat.add_assoc]
      exact hc _ u hj
  · split at hnone
    · omega
    · cases A with
      | none => have := h.nil rfl; omega
      | some a => simp at hnone

/-- A block that lies there whole. -/
theorem rd_block {w : World} {b : Nat} {cs : List Value} {T : TypeId} {fr : Nat × Nat} (h : w.heap[b]? = some (.cells cs.toArray T fr)) (size n : Nat) (hn : cs.length = n * size) : Rd w (some ⟨b, 0, none⟩) n n size cs :=
  ⟨hn, Nat.le_refl _, fun _ => ⟨b, 0, rfl, (Array.getElem?_eq_some_iff.1 h).1, fun j u hj => by simp [World.cell?, h, hj]⟩, fun h => by cases h⟩

/-! ### Rows of cells: owned -/
def Own (T : TypeId) (size : Nat) (v : Value) (n : Nat) (xs : List Value) : Assn := fun h =>
  xs.length = n * size ∧ ((v = .slice none 0 0 ∧ n = 0 ∧ ∀ b, h b = none) ∨
    ∃ g cap cur, v = .slice (some ⟨g, 0, none⟩) n cap ∧ n ≤ cap ∧ cap ≤ maxLen ∧ cur.size = cap * size ∧ cur.toList.take (n * size) = xs ∧ Is g (.cells cur T (0, 0)) h)

theorem Sat.owns {B w : World} {T : TypeId} {size : Nat} {v : Value} {n : Nat} {xs : List Value} {L : List Assn} (hs : Sat B w (Own T size v n xs :: L)) : w.ownsRow B.heap.size T size v n xs := by
  obtain ⟨h1, ⟨hl, hA⟩, hw⟩ := hs.head
  refine ⟨hl, ?_⟩
  rcases hA with ⟨rfl, rfl, _⟩ | ⟨g, cap, cur, rfl, h2, h3, h4, h5, hi⟩
  · exact .inl ⟨rfl, rfl⟩
  · have := hw g _ (by rw [hi g]; simp; rfl)
    exact .inr ⟨g, cap, cur, rfl, this.1, this.2, h2, h3, h4, h5⟩

theorem Sat.own_form {B w : World} {T : TypeId} {size : Nat} {v : Value} {n : Nat} {xs : List Value} {L : List Assn} (hs : Sat B w (Own T size v n xs :: L)) : ∃ A c, v = .slice A n c ∧ n ≤ c ∧ c ≤ maxLen ∧ (A = none → c = 0) := by
  obtain ⟨h1, ⟨hl, hA⟩, hw⟩ := hs.head
  rcases hA with ⟨rfl, rfl, _⟩ | ⟨g, cap, cur, rfl, h2, h3, _⟩
  · exact ⟨none, 0, rfl, by omega, by simp [maxLen], fun _ => rfl⟩
  · exact ⟨_, cap, rfl, h2, h3, fun h => by cases h⟩

theorem Sat.rd {B w : World} {T : TypeId} {size : Nat} {A : Option Addr} {n c : Nat} {xs : List Value} {L : List Assn} (hs : Sat B w (Own T size (.slice A n c) n xs :: L)) : Rd w A n c size xs := by
  obtain ⟨h1, ⟨hl, hA⟩, hw⟩ := hs.head
  rcases hA with ⟨h, rfl, _⟩ | ⟨g, cap, cur, h, h2, h3, h4, h5, hi⟩
  · cases h
    have : xs = [] := by simpa using hl
    subst this
    exact Rd.none w size
  · cases h
    have := hw g _ (by rw [hi g]; simp; rfl)
    refine ⟨hl, h2, fun _ => ⟨g, 0, rfl, (Array.getElem?_eq_some_iff.1 this.2).1, fun j u hj => ?_⟩, fun h => by cases h⟩
    rw [← h5, List.getElem?_take] at hj
    split at hj
    · simp [World.cell?, this.2]; simpa using hj
    · cases hj
theorem Sat.rd_at {B w : World} {T : TypeId} {size : Nat} {A : Option Addr} {n c : Nat} {xs : List Value} {L : List Assn} (hs : Sat B w L) (i : Nat) (hi : L[i]? = some (Own T size (.slice A n c) n xs)) : Rd w A n c size xs := (hs.front i hi).rd

/-- Behind a law that ends in 'ownsRow' and 'grownBy' (append). -/
theorem Sat.regrown {B w w' : World} {T : TypeId} {size : Nat} {v v' : Value} {n n' : Nat} {xs xs' : List Value} {L : List Assn} (hs : Sat B w (Own T size v n xs :: L))
    (hown : w'.ownsRow B.heap.size T size v' n' xs') (hg : w.grownBy w' v.ownBlock) (hat : v'.ownBlock = v.ownBlock ∨ v'.ownBlock = some w.heap.size) : Sat B w' (Own T size v' n' xs' :: L) := by
  refine hs.step hg.os hg.tape hg.output hg.size ?_
  rintro h1 ⟨hl, hA⟩ hw
  have hkeep : ∀ b, b < w.heap.size → h1 b = none → w'.heap[b]? = w.heap[b]? := by
    intro b hlt hn
    refine hg.block b hlt fun e => ?_
    rcases hA with ⟨rfl, _⟩ | ⟨g, cap, cur, rfl, h2, h3, h4, h5, hi⟩
    · cases e
    · simp [Value.ownBlock] at e
      subst e
      rw [hi b] at hn
      simp at hn
  obtain ⟨hl', hA'⟩ := hown
  rcases hA' with ⟨rfl, rfl⟩ | ⟨g', cap', cur', rfl, hB, hh, h2', h3', h4', h5'⟩
  · exact ⟨fun _ => none, ⟨hl', .inl ⟨rfl, rfl, fun _ => rfl⟩⟩, ⟨fun b o h => (by cases h), hkeep⟩⟩
  · refine ⟨fun b => if b = g' then some (.cells cur' T (0, 0)) else none, ⟨hl', .inr ⟨g', cap', cur', rfl, h2', h3', h4', h5', fun _ => rfl⟩⟩, ⟨fun b o hbo => ?_, hkeep⟩⟩
    by_cases hb : b = g'
    · subst hb
      simp at hbo
      subst hbo
      refine ⟨?_, hh⟩
      rcases hat with hat | hat
      · left
        rcases hA with ⟨rfl, _⟩ | ⟨g, cap, cur, rfl, h2, h3, h4, h5, hi⟩
        · simp [Value.ownBlock] at hat
        · simp [Value.ownBlock] at hat
          subst hat
          rw [hi b]; simp
      · simp [Value.ownBlock] at hat
        right; omega
    · simp [hb] at hbo

/-- Nothing is owned of a nil slice. -/
theorem Sat.own_nil {B w : World} {L : List Assn} (hs : Sat B w L) (T : TypeId) (size : Nat) : Sat B w (Own T size (.slice none 0 0) 0 [] :: L) := by
  obtain ⟨hb, h, hL, hw⟩ := hs
  exact ⟨hb, h, ⟨fun _ => none, h, ⟨by simp, .inl ⟨rfl, rfl, fun _ => rfl⟩⟩, hL, fun b => .inl rfl, fun b => by simp⟩, hw⟩
/-- A block made whole is a row of one's own. -/
theorem Sat.own_block {B w : World} {L : List Assn} {b : Nat} {cs : List Value} {T : TypeId} (hs : Sat B w (Blk b cs T :: L)) (size n : Nat) (hl : cs.length = n * size) (hn : n ≤ maxLen) : Sat B w (Own T size (.slice (some ⟨b, 0, none⟩) n n) n cs :: L) :=
  hs.imp fun h1 hA => ⟨hl, .inr ⟨b, n, cs.toArray, rfl, Nat.le_refl _, hn, by simpa using hl, by rw [← hl]; simp, hA⟩⟩

/-- The same heap (draws alone). -/
structure Quiet (w w' : World) : Prop where
  heap : w'.heap = w.heap
  os : w'.os = w.os
  tape : w'.tape = w.tape
  output : w'.output = w.output
theorem Quiet.refl (w : World) : Quiet w w := ⟨rfl, rfl, rfl, rfl⟩
theorem Quiet.trans {a b c : World} (h : Quiet a b) (k : Quiet b c) : Quiet a c := ⟨k.heap.trans h.heap, k.os.trans h.os, k.tape.trans h.tape, k.output.trans h.output⟩
theorem Quiet.below {w w' : World} (h : Quiet w w') : Below w.heap.size w w' := ⟨h.os, h.tape, h.output, by rw [h.heap]; exact Nat.le_refl _, fun k _ => by rw [h.heap]⟩
theorem Sat.quiet {B w w' : World} {L : List Assn} (hs : Sat B w L) (h : Quiet w w') : Sat B w' L := hs.grow h.below
end Go.Proofs.Ytipkfdeiallifaa.Lg
