/-
  A region whose order is open, and one of whose operations (j) writes: the fact H on memory must hold until j is done; what looks at memory through H is taken first if j cannot come before it (S: a list of operations, each of which waits for another of them, the first for what is taken). No program in sight.
-/
import Derived.Test.YtipkfdeiallifaaDr
set_option linter.unusedVariables false
set_option linter.unusedSimpArgs false
namespace Go.Proofs.Ytipkfdeiallifaa.Lg
open Go Go.RowKit

section
variable {P : Program} {ops : Array Oper} {Q : Exit → Act → World → Prop} {md : Region.Mode} {H H2 : World → Prop} {j : Nat}
def closedB (j : Nat) (listed : Array Bool) : Bool := listed.getD j false

def wpC (j : Nat) (H : World → Prop) (P : Program) (md : Region.Mode) (ops : Array Oper) (Q : Exit → Act → World → Prop) : Nat → Array Bool → Act → World → Prop
  | 0, listed, a, w => Region.ready md ops listed = [] ∧ Q .normal a w
  | fuel + 1, listed, a, w =>
    (Region.ready md ops listed = [] → Q .normal a w) ∧
    ∀ i ∈ Region.ready md ops listed, wpOp P ops Q i (fun a' w' => (closedB j (listed.setIfInBounds i true) = false → H w') ∧ wpC j H P md ops Q fuel (listed.setIfInBounds i true) a' w') a w

theorem wpC_sound : ∀ (fuel : Nat) (listed : Array Bool) (a : Act) (w : World), wpC j H P md ops Q fuel listed a w → wpAny P md ops Q fuel listed a w := by
  intro fuel
  induction fuel with
  | zero => intro listed a w h; exact h
  | succ fuel ih =>
    intro listed a w h
    exact ⟨h.1, fun i hi => wpOp_mono (fun a' w' hh => ih _ a' w' hh.2) (h.2 i hi)⟩

theorem getD_set_self {L : Array Bool} {i : Nat} : closedB i (L.setIfInBounds i true) = true ∨ L.size ≤ i := by
  rcases Nat.lt_or_ge i L.size with h | h
  · left; simp [closedB, h]
  · exact .inr h
theorem closedB_set_ne {L : Array Bool} {i k : Nat} (h : i ≠ k) : closedB k (L.setIfInBounds i true) = closedB k L := by
  have := getD_set_ne (listed := L) false h
  exact this
theorem closedB_set {L : Array Bool} {i k : Nat} (h : closedB k L = true) : closedB k (L.setIfInBounds i true) = true := by
  by_cases e : i = k
  · subst e
    rcases getD_set_self (L := L) (i := i) with h1 | h1
    · exact h1
    · simp [closedB, Array.getD, Nat.not_lt.2 h1] at h
  · rw [closedB_set_ne e]; exact h

/-- Each of S waits for another of S, or is i. -/
def Waits (md : Region.Mode) (ops : Array Oper) (i : Nat) (S : List Nat) : Prop := ∀ s ∈ S, s = i ∨ ∃ o e, ops[s]? = some o ∧ e ∈ o.after ∧ Region.binds md e = true ∧ e.on ∈ S
def waitsB (md : Region.Mode) (ops : Array Oper) (listed : Array Bool) (i j : Nat) (S : List Nat) : Bool :=
  S.all (fun s => (Nat.beq s i || (match ops[s]? with | some o => o.after.any (fun e => Region.binds md e && S.contains e.on) | none => false)) && !(listed.getD s true)) && S.contains j && !(Nat.beq i j)
theorem waitsB_spec {listed : Array Bool} {i j : Nat} {S : List Nat} (h : waitsB md ops listed i j S = true) : Waits md ops i S ∧ (∀ s ∈ S, listed.getD s true = false) ∧ j ∈ S ∧ i ≠ j := by
  unfold waitsB at h
  simp only [Bool.and_eq_true, List.all_eq_true] at h
  obtain ⟨⟨h1, h2⟩, h3⟩ := h
  refine ⟨fun s hs => ?_, fun s hs => by simpa using (h1 s hs).2, by simpa using h2, fun e => by subst e; simp at h3⟩
  have := (h1 s hs).1
  simp only [Bool.or_eq_true] at this
  rcases this with h | h
  · exact .inl (Nat.eq_of_beq_eq_true h)
  · right
    cases ho : ops[s]? with
    | none => simp [ho] at h
    | some o =>
      simp only [ho] at h
      obtain ⟨e, he, hb⟩ := Array.any_eq_true'.1 h
      simp only [Bool.and_eq_true] at hb
      exact ⟨o, e, rfl, he, hb.1, by simpa using hb.2⟩

theorem wpC_first {i : Nat} {oi : Oper} {v : Value} {S : List Nat} (hij : i ≠ j) (hi : ops[i]? = some oi) (hsel : ∀ (j : Nat) (o : Oper) cs b, ops[j]? = some o → o.op ≠ .select cs b)
    (hQ : ∀ c a w, Q (.panic c) (a.put oi.dst v) w → Q (.panic c) a w) (hS : Waits md ops i S)
    (hyld : ∀ listed : Array Bool, (∀ s ∈ S, listed.getD s true = false) → ∀ x, (closedB j listed = false → H x) → H2 x) :
    ∀ (fuel : Nat) (listed : Array Bool) (a : Act) (w : World), (closedB j listed = false → H w) → (∀ s ∈ S, listed.getD s true = false) →
      (∀ j oj, ops[j]? = some oj → j ≠ i → listed.getD j true = false → (∀ e ∈ oj.after, Region.binds md e = true → e.on ≠ i) → oi.apart ops oj = true) →
      i ∈ Region.ready md ops listed → YieldsH H2 P ops oi v a →
      wpC j H P md ops Q fuel (listed.setIfInBounds i true) (a.put oi.dst v) w → wpC j H P md ops Q (fuel + 1) listed a w := by
  intro fuel
  induction fuel with
  | zero =>
    intro listed a w hH hun _ hr hy Hh
    refine ⟨fun h => (by rw [h] at hr; cases hr), fun j' hj => ?_⟩
    by_cases hji : j' = i
    · subst hji; exact hy.wpOp hi (hyld listed hun w hH) ⟨fun hc => hH (by rwa [closedB_set_ne hij] at hc), Hh⟩
    · have := ready_mono hj hji
      rw [Hh.1] at this
      cases this
  | succ fuel ih =>
    intro listed a w hH hun hfree hr hy Hh
    refine ⟨fun h => (by rw [h] at hr; cases hr), fun j' hj => ?_⟩
    by_cases hji : j' = i
    · subst hji; exact hy.wpOp hi (hyld listed hun w hH) ⟨fun hc => hH (by rwa [closedB_set_ne hij] at hc), Hh⟩
    · have h1 := Hh.2 j' (ready_mono hj hji)
      obtain ⟨hjun, oj, hoj, hall⟩ := mem_ready.1 hj
      have hnot : ∀ e ∈ oj.after, Region.binds md e = true → e.on ≠ i := fun e he hb heq => by
        have h1 := hall e he hb
        have h0 := (mem_ready.1 hr).1
        rw [heq] at h1
        rcases Nat.lt_or_ge i listed.size with h' | h'
        · simp [h'] at h0 h1; rw [h0] at h1; cases h1
        · simp [Array.getElem?_eq_none h'] at h1
      have hjS : j' ∉ S := fun hjS => by
        rcases hS j' hjS with e | ⟨o, e, ho, he, hb, hon⟩
        · exact hji e
        · rw [hoj] at ho
          cases ho
          have h1 := hall e he hb
          have h0 := hun _ hon
          rcases Nat.lt_or_ge e.on listed.size with h' | h'
          · simp [h'] at h0 h1; rw [h0] at h1; cases h1
          · simp [Array.getElem?_eq_none h'] at h1
      have h2 := wpOp_putH hoj (hfree j' oj hoj hji hjun hnot) (fun cs b => hsel i oi cs b hi) (fun cs b => hsel j' oj cs b hoj) hQ hy h1
      have hun' : ∀ s ∈ S, (listed.setIfInBounds j' true).getD s true = false := fun s hs => by
        have hne : j' ≠ s := fun e => hjS (e ▸ hs)
        rw [getD_set_ne true hne]; exact hun s hs
      have hfree' : ∀ k ok, ops[k]? = some ok → k ≠ i → (listed.setIfInBounds j' true).getD k true = false →
          (∀ e ∈ ok.after, Region.binds md e = true → e.on ≠ i) → oi.apart ops ok = true := fun k ok hk hki hun hno => by
        refine hfree k ok hk hki ?_ hno
        by_cases hjk : j' = k
        · subst hjk; exact hjun
        · rw [getD_set_ne true hjk] at hun; exact hun
      refine wpOp_mono (fun a' w' h3 => ?_) h2
      have hH' : closedB j (listed.setIfInBounds j' true) = false → H w' := fun hc => h3.2.1 (by rw [Array.setIfInBounds_comm _ _ (Ne.symm hji), closedB_set_ne hij]; exact hc)
      refine ⟨hH', ih (listed.setIfInBounds j' true) a' w' hH' hun' hfree' (ready_mono hr (Ne.symm hji)) h3.1 ?_⟩
      rw [Array.setIfInBounds_comm _ _ hji]
      exact h3.2.2
end

section
variable {P : Program} {ops : Array Oper} {n : Nat} {D : List Deferred} {E : Env} {w : World} {Q : Exit → Act → World → Prop} {H : World → Prop} {fuel j : Nat} {listed : Array Bool} {ty : TypeId} {ps : String} {af : Array Edge} {op : Op} {d : Nat} {v : Value}
def AnC (j : Nat) (H : World → Prop) (P : Program) (ops : Array Oper) (n : Nat) (D : List Deferred) (E : Env) (w : World) (fuel : Nat) (listed : Array Bool) (Q : Exit → Act → World → Prop) : Prop := ∀ a, Good n D E a → wpC j H P .any ops Q fuel listed a w

theorem St_drawC (j : Nat) (H : World → Prop) {id : Nat} (hm : P.follows .mixedOrders = true) (h : ∀ w', Quiet w w' → AnC j H P ops n D E w' ops.size (Array.replicate ops.size false) Q) : St P n D E w (.region id ops true) Q := fun a ha =>
  wp_region_any hm (wpC_sound _ _ _ _ (h { w with drawn := w.drawn + 1 } ⟨rfl, rfl, rfl, rfl⟩ a ha))
/-- What looks at memory, and comes before j. -/
theorem AnC_take (i : Nat) (S : List Nat) (hi : ops[i]? = some ⟨some d, op, ty, ps, af, none⟩) (hs : Region.noSelect ops = true) (hf : Region.free .any ops listed i = true) (hrd : (Region.ready .any ops listed).contains i = true) (hS : waitsB .any ops listed i j S = true)
    (hQ : ∀ c a w, Q (.panic c) (a.put (some d) v) w → Q (.panic c) a w) (hH : H w) (hr : ∀ x, H x → RunO P E op ty x v x) (hd : Nat.blt d n = true)
    (h : AnC j H P ops n D ((d, v) :: E) w fuel (listed.setIfInBounds i true) Q) : AnC j H P ops n D E w (fuel + 1) listed Q := fun a ha => by
  obtain ⟨h1, h2, h3, h4⟩ := waitsB_spec hS
  have hcl : ∀ L : Array Bool, (∀ s ∈ S, L.getD s true = false) → closedB j L = false := fun L hL => by
    have := hL j h3
    unfold closedB
    rcases Nat.lt_or_ge j L.size with h' | h'
    · simp [h'] at this ⊢; exact this
    · simp [Nat.not_lt.2 h']
  exact wpC_first (S := S) (H2 := H) h4 hi (Region.noSelect_spec hs) hQ h1 (fun L hL x hx => hx (hcl L hL)) fuel listed a w (fun _ => hH) h2 (Region.free_spec hi hf) (by simpa using hrd) (.inl ⟨by simp [Region.wanted], fun x hx => hr x hx n D a _ _ _ _ ha⟩) (h _ (ha.put hd v))
/-- What looks at no memory. -/
theorem AnC_takeP (i : Nat) (hij : Nat.beq i j = false) (hi : ops[i]? = some ⟨some d, op, ty, ps, af, none⟩) (hs : Region.noSelect ops = true) (hf : Region.free .any ops listed i = true) (hrd : (Region.ready .any ops listed).contains i = true)
    (hQ : ∀ c a w, Q (.panic c) (a.put (some d) v) w → Q (.panic c) a w) (hH : closedB j listed = false → H w) (hr : ∀ x, RunO P E op ty x v x) (hd : Nat.blt d n = true)
    (h : AnC j H P ops n D ((d, v) :: E) w fuel (listed.setIfInBounds i true) Q) : AnC j H P ops n D E w (fuel + 1) listed Q := fun a ha =>
  wpC_first (S := []) (H2 := fun _ => True) (fun e => by subst e; simp at hij) hi (Region.noSelect_spec hs) hQ (fun s hs => by cases hs) (fun _ _ _ _ => trivial) fuel listed a w hH (fun s hs => by cases hs) (Region.free_spec hi hf) (by simpa using hrd)
    (.inl ⟨by simp [Region.wanted], fun x _ => hr x n D a _ _ _ _ ha⟩) (h _ (ha.put hd v))
theorem AnC_only (i : Nat) {o : Oper} (hrd : Region.ready .any ops listed = [i]) (hi : ops[i]? = some o)
    (h : Ls P ops n D E w [o] (Exit.then (fun a' w' => (closedB j (listed.setIfInBounds i true) = false → H w') ∧ wpC j H P .any ops Q fuel (listed.setIfInBounds i true) a' w') Q)) : AnC j H P ops n D E w (fuel + 1) listed Q := fun a ha => by
  refine ⟨fun h0 => (by rw [hrd] at h0; cases h0), fun j' hj => ?_⟩
  rw [hrd] at hj
  simp at hj
  subst hj
  have h1 := h a ha
  unfold wpOp
  simp only [hi]
  unfold wpList at h1
  split
  · rename_i hw
    rw [if_pos hw] at h1
    rcases h1 with h1 | ⟨h1, a1, w1, h2⟩
    · exact .inl (upon_then h1)
    · exact .inr ⟨h1, a1, w1, h2⟩
  · rename_i hw
    rw [if_neg hw] at h1
    exact h1
theorem Jm_AnC {L' : Array Bool} (hH : closedB j L' = false → H w) (h : AnC j H P ops n D E w fuel L' Q) : Jm n D E w .normal (Exit.then (fun a' w' => (closedB j L' = false → H w') ∧ wpC j H P .any ops Q fuel L' a' w') Q) := fun a ha => ⟨hH, h a ha⟩
theorem Jm_AnC_closed {L' : Array Bool} (hc : closedB j L' = true) (h : AnC j H P ops n D E w fuel L' Q) : Jm n D E w .normal (Exit.then (fun a' w' => (closedB j L' = false → H w') ∧ wpC j H P .any ops Q fuel L' a' w') Q) := fun a ha => ⟨fun hc' => absurd hc (by rw [hc']; simp), h a ha⟩
theorem AnC_done (hrd : Region.ready .any ops listed = []) (h : Jm n D E w .normal Q) : AnC j H P ops n D E w fuel listed Q := fun a ha => by
  cases fuel with
  | zero => exact ⟨hrd, h a ha⟩
  | succ fuel => exact ⟨fun _ => h a ha, by rw [hrd]; simp⟩
theorem wpC_mono {H' : World → Prop} (hh : ∀ x, H' x → H x) : ∀ (fuel : Nat) (listed : Array Bool) (a : Act) (w : World), wpC j H' P .any ops Q fuel listed a w → wpC j H P .any ops Q fuel listed a w := by
  intro fuel
  induction fuel with
  | zero => intro listed a w h; exact h
  | succ fuel ih => exact fun listed a w h => ⟨h.1, fun i hi => wpOp_mono (fun a' w' hk => ⟨fun hc => hh _ (hk.1 hc), ih _ a' w' hk.2⟩) (h.2 i hi)⟩
theorem AnC_grow {w0 : World} (hb : Below w0.heap.size w0 w) (h : AnC j (fun x => Below w.heap.size w x) P ops n D E w fuel listed Q) : AnC j (fun x => Below w0.heap.size w0 x) P ops n D E w fuel listed Q := fun a ha =>
  wpC_mono (fun x hx => hb.trans (hx.mono hb.size)) _ _ _ _ (h a ha)
theorem wpC_switch {j' : Nat} {H' : World → Prop} : ∀ (fuel : Nat) (listed : Array Bool) (a : Act) (w : World), closedB j listed = true → wpC j' H' P .any ops Q fuel listed a w → wpC j H P .any ops Q fuel listed a w := by
  intro fuel
  induction fuel with
  | zero => intro listed a w _ h; exact h
  | succ fuel ih => exact fun listed a w hc h => ⟨h.1, fun i hi => wpOp_mono (fun a' w' hk => ⟨fun hc' => absurd (closedB_set hc) (by rw [hc']; simp), ih _ a' w' (closedB_set hc) hk.2⟩) (h.2 i hi)⟩
/-- Once j is done, another takes its part. -/
theorem AnC_switch {H' : World → Prop} (j' : Nat) (hc : closedB j listed = true) (h : AnC j' H' P ops n D E w fuel listed Q) : AnC j H P ops n D E w fuel listed Q := fun a ha => wpC_switch _ _ _ _ hc (h a ha)
/-- The place of a slice's element, that is read before j. -/
theorem AnC_index (i : Nat) (S : List Nat) {α : Type} (K : El α) {l : List α} {A : Option Addr} {m c bytes e t : Nat} {zv : Value} {k : IntKind} {ix : Int} {x y : Operand} (hi : ops[i]? = some ⟨some d, .indexAddr t x y, ty, ps, af, none⟩) (hs : Region.noSelect ops = true) (hf : Region.free .any ops listed i = true) (hrd : (Region.ready .any ops listed).contains i = true) (hS : waitsB .any ops listed i j S = true)
    (hQ : ∀ v c a w, Q (.panic c) (a.put (some d) v) w → Q (.panic c) a w) (hH : H w) (hr : ∀ x, H x → Rd x A m c K.size (K.flat l)) (ht : P.underlying t = some (.slice e)) (hif : Inf P e zv K.size bytes)
    (hx : ev E x = some (.slice A m c)) (hy : ev E y = some (.int k ix)) (h0 : 0 ≤ ix) (h1 : ix < m) {xv : α} (hxv : l.getD ix.toNat K.dflt = xv) (hd : Nat.blt d n = true)
    (h : ∀ b off, (∀ x, H x → ∀ j u, (K.enc xv)[j]? = some u → x.cell? ⟨b, off + j, none⟩ = some u) → AnC j H P ops n D ((d, .pointer (some ⟨b, off, none⟩)) :: E) w fuel (listed.setIfInBounds i true) Q) : AnC j H P ops n D E w (fuel + 1) listed Q := by
  obtain ⟨b, off, rfl, _, hc⟩ := (hr w hH).cells (by omega)
  subst hxv
  refine AnC_take i S hi hs hf hrd hS (hQ _) hH (fun x hx' => run_index ht hif hx hy rfl h0 h1) hd (h b (off + ix.toNat * K.size) fun x hx' j u hj => ?_)
  obtain ⟨b', off', e1, _, hc'⟩ := (hr x hx').cells (by omega)
  cases e1
  have hl := (hr x hx').len
  rw [K.flat_length] at hl
  have hj' : j < K.size := by rw [← K.len (l.getD ix.toNat K.dflt)]; exact (List.getElem?_eq_some_iff.1 hj).1
  have hlm : l.length = m := by
    have : 0 < K.size := by omega
    exact Nat.eq_of_mul_eq_mul_right this hl
  have hil : ix.toNat < l.length := by omega
  rw [Nat.add_assoc]
  refine hc' _ u (El.flat_get K l ix.toNat hil j u ?_)
  rw [List.getD_eq_getElem?_getD, List.getElem?_eq_getElem hil] at hj
  exact hj
end
end Go.Proofs.Ytipkfdeiallifaa.Lg
