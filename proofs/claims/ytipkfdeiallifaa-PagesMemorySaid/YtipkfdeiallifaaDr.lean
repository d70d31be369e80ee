/-
  A region whose order is open: while a fact H on memory holds at every turn, whatever only looks at memory through H may be taken first; what acts is met when nothing else is left to do. The proof goes as the kit's own for operations that look at no memory (Derived/Orders.lean); no program in sight.
-/
import Derived.Test.YtipkfdeiallifaaMo
import Derived.KernelRfl
set_option linter.unusedVariables false
set_option linter.unusedSimpArgs false
namespace Go.Proofs.Ytipkfdeiallifaa.Lg
open Go Go.RowKit

section
variable {P : Program} {ops : Array Oper} {Q : Exit → Act → World → Prop} {md : Region.Mode} {H : World → Prop}

def wpH (H : World → Prop) (P : Program) (md : Region.Mode) (ops : Array Oper) (Q : Exit → Act → World → Prop) : Nat → Array Bool → Act → World → Prop
  | 0, listed, a, w => Region.ready md ops listed = [] ∧ Q .normal a w
  | fuel + 1, listed, a, w =>
    (Region.ready md ops listed = [] → Q .normal a w) ∧
    ∀ i ∈ Region.ready md ops listed, wpOp P ops Q i (fun a' w' => H w' ∧ wpH H P md ops Q fuel (listed.setIfInBounds i true) a' w') a w

theorem wpH_sound : ∀ (fuel : Nat) (listed : Array Bool) (a : Act) (w : World), wpH H P md ops Q fuel listed a w → wpAny P md ops Q fuel listed a w := by
  intro fuel
  induction fuel with
  | zero => intro listed a w h; exact h
  | succ fuel ih =>
    intro listed a w h
    exact ⟨h.1, fun i hi => wpOp_mono (fun a' w' hh => ih _ a' w' hh.2) (h.2 i hi)⟩

/-- It yields v in every world that H lets. -/
def YieldsH (H : World → Prop) (P : Program) (ops : Array Oper) (o : Oper) (v : Value) (a : Act) : Prop :=
  (Region.wanted o (yielded ops a.tmps) = true ∧ ∀ w, H w → (execOp a.eval o).run P w = .ok (.value v) w) ∨
  (Region.wanted o (yielded ops a.tmps) = false ∧ v = undef)

theorem YieldsH.wpOp {i : Nat} {o : Oper} {v : Value} {a : Act} (hi : ops[i]? = some o) (hy : YieldsH H P ops o v a)
    {K : Act → World → Prop} {w : World} (hw : H w) (h : K (a.put o.dst v) w) : wpOp P ops Q i K a w := by
  unfold Go.wpOp
  simp only [hi]
  rcases hy with ⟨hw', hv⟩ | ⟨hw', rfl⟩
  · simp only [hw', if_true, Oper.wp, hv w hw, Oper.upon]; exact .inl h
  · simp only [hw', Bool.false_eq_true, if_false]; exact h

theorem YieldsH.of_same {o : Oper} {v : Value} {a a' : Act} (hy : YieldsH H P ops o v a) (he : execOp a'.eval o = execOp a.eval o)
    (hw : Region.wanted o (yielded ops a'.tmps) = Region.wanted o (yielded ops a.tmps)) : YieldsH H P ops o v a' := by
  unfold YieldsH at *
  rw [he, hw]
  exact hy

theorem wpOp_putH {j : Nat} {oi oj : Oper} {v : Value} (hj : ops[j]? = some oj) (hap : oi.apart ops oj = true)
    (hsi : ∀ cs b, oi.op ≠ .select cs b) (hsj : ∀ cs b, oj.op ≠ .select cs b)
    (hQ : ∀ c a w, Q (.panic c) (a.put oi.dst v) w → Q (.panic c) a w) {K : Act → World → Prop} {a : Act} {w : World}
    (hy : YieldsH H P ops oi v a) (h : wpOp P ops Q j K (a.put oi.dst v) w) :
    wpOp P ops Q j (fun a' w' => YieldsH H P ops oi v a' ∧ K (a'.put oi.dst v) w') a w := by
  obtain ⟨h1, h2, h3⟩ := Oper.apart_spec hap
  have keep : ∀ (a : Act), YieldsH H P ops oi v a → ∀ u, YieldsH H P ops oi v (a.put oj.dst u) := fun a hy u =>
    hy.of_same (execOp_put oi hsi a oj.dst u h3) (wanted_put oi a oj.dst u h3)
  have keepD : ∀ d, YieldsH H P ops oi v { a with defers := d :: a.defers } := fun d => hy.of_same rfl rfl
  unfold wpOp at *
  simp only [hj] at *
  rw [wanted_put oj a oi.dst v h1] at h
  split
  · rename_i hw
    simp only [hw, if_true] at h
    rcases h with h | ⟨hasks, hlets⟩
    case inr => exact .inr ⟨by unfold Oper.asks at *; rw [execOp_put oj hsj a oi.dst v h1] at hasks; exact hasks, hlets⟩
    refine .inl ?_
    unfold Oper.wp at *
    rw [execOp_put oj hsj a oi.dst v h1] at h
    generalize (execOp a.eval oj).run P w = r at *
    cases r with
    | ok n w' =>
      cases n <;> simp only [Oper.upon] at h ⊢
      case value u => exact ⟨keep a hy u, by rw [← Act.put_comm a v u h2]; exact h⟩
      case skip => exact ⟨keep a hy _, by rw [← Act.put_comm a v undef h2]; exact h⟩
      case defer d =>
        refine ⟨keep _ (keepD d) _, ?_⟩
        rw [← Act.put_comm _ v undef h2, ← Act.put_defers]
        exact h
      case enter f args =>
        refine Calls.mono h fun e w'' he => ?_
        cases e with
        | returned u => exact ⟨keep a hy u, by rw [← Act.put_comm a v u h2]; exact he⟩
        | panicked c => exact hQ _ _ _ he
        | outgrown => exact he
      case row row args => exact Rows.mono h fun u w'' he => ⟨keep a hy u, by rw [← Act.put_comm a v u h2]; exact he⟩
    | halt x w' =>
      cases x <;> simp only [Oper.upon] at h ⊢
      case panic u => exact hQ _ _ _ h
  · rename_i hw
    simp only [hw] at h
    exact ⟨keep a hy _, by rw [← Act.put_comm a v undef h2]; exact h⟩

theorem wpH_first {i : Nat} {oi : Oper} {v : Value} (hi : ops[i]? = some oi) (hsel : ∀ (j : Nat) (o : Oper) cs b, ops[j]? = some o → o.op ≠ .select cs b)
    (hQ : ∀ c a w, Q (.panic c) (a.put oi.dst v) w → Q (.panic c) a w) :
    ∀ (fuel : Nat) (listed : Array Bool) (a : Act) (w : World), H w →
      (∀ j oj, ops[j]? = some oj → j ≠ i → listed.getD j true = false → (∀ e ∈ oj.after, Region.binds md e = true → e.on ≠ i) → oi.apart ops oj = true) →
      i ∈ Region.ready md ops listed → YieldsH H P ops oi v a →
      wpH H P md ops Q fuel (listed.setIfInBounds i true) (a.put oi.dst v) w → wpH H P md ops Q (fuel + 1) listed a w := by
  intro fuel
  induction fuel with
  | zero =>
    intro listed a w hH _ hr hy Hh
    refine ⟨fun h => (by rw [h] at hr; cases hr), fun j hj => ?_⟩
    by_cases hji : j = i
    · subst hji; exact hy.wpOp hi hH ⟨hH, Hh⟩
    · have := ready_mono hj hji
      rw [Hh.1] at this
      cases this
  | succ fuel ih =>
    intro listed a w hH hfree hr hy Hh
    refine ⟨fun h => (by rw [h] at hr; cases hr), fun j hj => ?_⟩
    by_cases hji : j = i
    · subst hji; exact hy.wpOp hi hH ⟨hH, Hh⟩
    · have h1 := Hh.2 j (ready_mono hj hji)
      obtain ⟨hjun, oj, hoj, hall⟩ := mem_ready.1 hj
      have hnot : ∀ e ∈ oj.after, Region.binds md e = true → e.on ≠ i := fun e he hb heq => by
        have h1 := hall e he hb
        have h0 := (mem_ready.1 hr).1
        rw [heq] at h1
        rcases Nat.lt_or_ge i listed.size with h' | h'
        · simp [h'] at h0 h1; rw [h0] at h1; cases h1
        · simp [Array.getElem?_eq_none h'] at h1
      have h2 := wpOp_putH hoj (hfree j oj hoj hji hjun hnot) (fun cs b => hsel i oi cs b hi) (fun cs b => hsel j oj cs b hoj) hQ hy h1
      have hfree' : ∀ k ok, ops[k]? = some ok → k ≠ i → (listed.setIfInBounds j true).getD k true = false →
          (∀ e ∈ ok.after, Region.binds md e = true → e.on ≠ i) → oi.apart ops ok = true := fun k ok hk hki hun hno => by
        refine hfree k ok hk hki ?_ hno
        by_cases hjk : j = k
        · subst hjk; exact hjun
        · rw [getD_set_ne true hjk] at hun; exact hun
      refine wpOp_mono (fun a' w' h3 => ⟨h3.2.1, ih (listed.setIfInBounds j true) a' w' h3.2.1 hfree' (ready_mono hr (Ne.symm hji)) h3.1 ?_⟩) h2
      rw [Array.setIfInBounds_comm _ _ hji]
      exact h3.2.2

theorem upon_then {o : Oper} {a : Act} {K K' : Act → World → Prop} {r : Result Next} (h : o.upon P a K (Exit.then K' Q) r) : o.upon P a K Q r := by
  cases r with
  | ok n w' =>
    cases n <;> simp only [Oper.upon] at h ⊢ <;> first
      | exact h
      | exact Calls.mono h (fun e w'' he => by cases e <;> exact he)
  | halt x w' => cases x <;> simp only [Oper.upon] at h ⊢ <;> exact h
end

section
variable {P : Program} {ops : Array Oper} {n : Nat} {D : List Deferred} {E : Env} {w : World} {Q : Exit → Act → World → Prop} {H : World → Prop} {fuel : Nat} {listed : Array Bool} {ty : TypeId} {ps : String} {af : Array Edge} {op : Op} {d : Nat} {v : Value}
def An (H : World → Prop) (P : Program) (ops : Array Oper) (n : Nat) (D : List Deferred) (E : Env) (w : World) (fuel : Nat) (listed : Array Bool) (Q : Exit → Act → World → Prop) : Prop := ∀ a, Good n D E a → wpH H P .any ops Q fuel listed a w

theorem St_draw (H : World → Prop) {id : Nat} (hm : P.follows .mixedOrders = true) (h : ∀ w', Quiet w w' → An H P ops n D E w' ops.size (Array.replicate ops.size false) Q) : St P n D E w (.region id ops true) Q := fun a ha =>
  wp_region_any hm (wpH_sound _ _ _ _ (h { w with drawn := w.drawn + 1 } ⟨rfl, rfl, rfl, rfl⟩ a ha))

theorem An_take (i : Nat) (hi : ops[i]? = some ⟨some d, op, ty, ps, af, none⟩) (hs : Region.noSelect ops = true) (hf : Region.free .any ops listed i = true) (hrd : (Region.ready .any ops listed).contains i = true)
    (hQ : ∀ c a w, Q (.panic c) (a.put (some d) v) w → Q (.panic c) a w) (hH : H w) (hr : ∀ x, H x → RunO P E op ty x v x) (hd : Nat.blt d n = true)
    (h : An H P ops n D ((d, v) :: E) w fuel (listed.setIfInBounds i true) Q) : An H P ops n D E w (fuel + 1) listed Q := fun a ha =>
  wpH_first hi (Region.noSelect_spec hs) hQ fuel listed a w hH (Region.free_spec hi hf) (by simpa using hrd) (.inl ⟨by simp [Region.wanted], fun x hx => hr x hx n D a _ _ _ _ ha⟩) (h _ (ha.put hd v))
theorem An_take_on (i : Nat) {j : Nat} {want : Bool} {t : Tmp} (hi : ops[i]? = some ⟨some d, op, ty, ps, af, some (j, want)⟩) (hs : Region.noSelect ops = true) (hf : Region.free .any ops listed i = true) (hrd : (Region.ready .any ops listed).contains i = true)
    (hj : (ops[j]?).bind (·.dst) = some t) (hv : look E t = some (.bool want))
    (hQ : ∀ c a w, Q (.panic c) (a.put (some d) v) w → Q (.panic c) a w) (hH : H w) (hr : ∀ x, H x → RunO P E op ty x v x) (hd : Nat.blt d n = true)
    (h : An H P ops n D ((d, v) :: E) w fuel (listed.setIfInBounds i true) Q) : An H P ops n D E w (fuel + 1) listed Q := fun a ha =>
  wpH_first hi (Region.noSelect_spec hs) hQ fuel listed a w hH (Region.free_spec hi hf) (by simpa using hrd)
    (.inl ⟨by simp [Region.wanted, yielded, hj, ha.rep t _ hv], fun x hx => hr x hx n D a _ _ _ _ ha⟩) (h _ (ha.put hd v))
theorem An_take_off (i : Nat) {j : Nat} {want b : Bool} {t : Tmp} (hi : ops[i]? = some ⟨some d, op, ty, ps, af, some (j, want)⟩) (hs : Region.noSelect ops = true) (hf : Region.free .any ops listed i = true) (hrd : (Region.ready .any ops listed).contains i = true)
    (hj : (ops[j]?).bind (·.dst) = some t) (hv : look E t = some (.bool b)) (hb : (b == want) = false)
    (hQ : ∀ c a w, Q (.panic c) (a.put (some d) undef) w → Q (.panic c) a w) (hH : H w) (hd : Nat.blt d n = true)
    (h : An H P ops n D ((d, undef) :: E) w fuel (listed.setIfInBounds i true) Q) : An H P ops n D E w (fuel + 1) listed Q := fun a ha =>
  wpH_first hi (Region.noSelect_spec hs) hQ fuel listed a w hH (Region.free_spec hi hf) (by simpa using hrd)
    (.inr ⟨by simp [Region.wanted, yielded, hj, ha.rep t _ hv]; simpa using hb, rfl⟩) (h _ (ha.put hd undef))
theorem An_take_off' (i : Nat) {j : Nat} {want : Bool} {t : Tmp} (hi : ops[i]? = some ⟨some d, op, ty, ps, af, some (j, want)⟩) (hs : Region.noSelect ops = true) (hf : Region.free .any ops listed i = true) (hrd : (Region.ready .any ops listed).contains i = true)
    (hj : (ops[j]?).bind (·.dst) = some t) (hv : look E t = some undef)
    (hQ : ∀ c a w, Q (.panic c) (a.put (some d) undef) w → Q (.panic c) a w) (hH : H w) (hd : Nat.blt d n = true)
    (h : An H P ops n D ((d, undef) :: E) w fuel (listed.setIfInBounds i true) Q) : An H P ops n D E w (fuel + 1) listed Q := fun a ha =>
  wpH_first hi (Region.noSelect_spec hs) hQ fuel listed a w hH (Region.free_spec hi hf) (by simpa using hrd)
    (.inr ⟨by simp [Region.wanted, yielded, hj, ha.rep t _ hv, undef], rfl⟩) (h _ (ha.put hd undef))
/-- What alone is left to do next, whatever it does. -/
theorem An_only (i : Nat) {o : Oper} (hrd : Region.ready .any ops listed = [i]) (hi : ops[i]? = some o)
    (h : Ls P ops n D E w [o] (Exit.then (fun a' w' => H w' ∧ wpH H P .any ops Q fuel (listed.setIfInBounds i true) a' w') Q)) : An H P ops n D E w (fuel + 1) listed Q := fun a ha => by
  refine ⟨fun h0 => (by rw [hrd] at h0; cases h0), fun j hj => ?_⟩
  rw [hrd] at hj
  simp at hj
  subst hj
  have h1 := h a ha
  unfold wpOp
  simp only [hi]
  unfold wpList at h1
  split
  · rename_i hw
    rw [if_pos hw] at h1
    rcases h1 with h1 | ⟨h1, a1, w1, h2⟩
    · exact .inl (upon_then h1)
    · exact .inr ⟨h1, a1, w1, h2⟩
  · rename_i hw
    rw [if_neg hw] at h1
    exact h1
theorem Jm_An {listed' : Array Bool} (hH : H w) (h : An H P ops n D E w fuel listed' Q) : Jm n D E w .normal (Exit.then (fun a' w' => H w' ∧ wpH H P .any ops Q fuel listed' a' w') Q) := fun a ha => ⟨hH, h a ha⟩
theorem An_done (hrd : Region.ready .any ops listed = []) (h : Jm n D E w .normal Q) : An H P ops n D E w fuel listed Q := fun a ha => by
  cases fuel with
  | zero => exact ⟨hrd, h a ha⟩
  | succ fuel => exact ⟨fun _ => h a ha, by rw [hrd]; simp⟩
theorem wpH_mono {H' : World → Prop} (hh : ∀ x, H' x → H x) : ∀ (fuel : Nat) (listed : Array Bool) (a : Act) (w : World), wpH H' P .any ops Q fuel listed a w → wpH H P .any ops Q fuel listed a w := by
  intro fuel
  induction fuel with
  | zero => intro listed a w h; exact h
  | succ fuel ih => exact fun listed a w h => ⟨h.1, fun i hi => wpOp_mono (fun a' w' hk => ⟨hh _ hk.1, ih _ a' w' hk.2⟩) (h.2 i hi)⟩
/-- From here on more is known to stay. -/
theorem An_mono {H' : World → Prop} (hh : ∀ x, H' x → H x) (h : An H' P ops n D E w fuel listed Q) : An H P ops n D E w fuel listed Q := fun a ha => wpH_mono hh _ _ _ _ (h a ha)
theorem An_grow {w0 : World} (hb : Below w0.heap.size w0 w) (h : An (fun x => Below w.heap.size w x) P ops n D E w fuel listed Q) : An (fun x => Below w0.heap.size w0 x) P ops n D E w fuel listed Q :=
  An_mono (fun x hx => hb.trans (hx.mono hb.size)) h
/-- The truth of a slot, parted. -/
theorem An_part {t : Tmp} {b : Bool} (hv : look E t = some (.bool b)) (h1 : b = true → An H P ops n D ((t, .bool true) :: E) w fuel listed Q) (h2 : b = false → An H P ops n D ((t, .bool false) :: E) w fuel listed Q) : An H P ops n D E w fuel listed Q := fun a ha => by
  have up : ∀ c : Bool, b = c → Good n D ((t, .bool c) :: E) a := by
    intro c hc
    subst hc
    refine ⟨ha.size, ha.defers, fun i u hi => ?_⟩
    by_cases e : t = i
    · subst e; rw [look_eq rfl] at hi; cases hi; exact ha.rep t _ hv
    · rw [look_ne e] at hi; exact ha.rep i u hi
  cases hb : b with
  | true => exact h1 hb a (up true hb)
  | false => exact h2 hb a (up false hb)
theorem An_partP {t : Tmp} {p : Prop} [Decidable p] (hv : look E t = some (.bool (decide p))) (h1 : p → An H P ops n D ((t, .bool true) :: E) w fuel listed Q) (h2 : ¬ p → An H P ops n D ((t, .bool false) :: E) w fuel listed Q) : An H P ops n D E w fuel listed Q :=
  An_part hv (fun h => h1 (of_decide_eq_true h)) (fun h => h2 (of_decide_eq_false h))
theorem An_partN {t : Tmp} {p : Prop} [Decidable p] (hv : look E t = some (.bool (!decide p))) (h1 : ¬ p → An H P ops n D ((t, .bool true) :: E) w fuel listed Q) (h2 : p → An H P ops n D ((t, .bool false) :: E) w fuel listed Q) : An H P ops n D E w fuel listed Q :=
  An_part hv (fun h => h1 (by simpa using h)) (fun h => h2 (by simpa using h))
/-- An element of a slice that is read, in an open order: the place. -/
theorem An_index (i : Nat) {α : Type} (K : El α) {l : List α} {A : Option Addr} {m c bytes e t : Nat} {zv : Value} {k : IntKind} {ix : Int} {x y : Operand} (hi : ops[i]? = some ⟨some d, .indexAddr t x y, ty, ps, af, none⟩) (hs : Region.noSelect ops = true) (hf : Region.free .any ops listed i = true) (hrd : (Region.ready .any ops listed).contains i = true)
    (hQ : ∀ v c a w, Q (.panic c) (a.put (some d) v) w → Q (.panic c) a w) (hH : H w) (hr : ∀ x, H x → Rd x A m c K.size (K.flat l)) (ht : P.underlying t = some (.slice e)) (hif : Inf P e zv K.size bytes)
    (hx : ev E x = some (.slice A m c)) (hy : ev E y = some (.int k ix)) (h0 : 0 ≤ ix) (h1 : ix < m) {xv : α} (hxv : l.getD ix.toNat K.dflt = xv) (hd : Nat.blt d n = true)
    (h : ∀ b off, (∀ x, H x → ∀ j u, (K.enc xv)[j]? = some u → x.cell? ⟨b, off + j, none⟩ = some u) → An H P ops n D ((d, .pointer (some ⟨b, off, none⟩)) :: E) w fuel (listed.setIfInBounds i true) Q) : An H P ops n D E w (fuel + 1) listed Q := by
  obtain ⟨b, off, rfl, _, hc⟩ := (hr w hH).cells (by omega)
  subst hxv
  refine An_take i hi hs hf hrd (hQ _) hH (fun x hx' => run_index ht hif hx hy rfl h0 h1) hd (h b (off + ix.toNat * K.size) fun x hx' j u hj => ?_)
  obtain ⟨b', off', e1, _, hc'⟩ := (hr x hx').cells (by omega)
  cases e1
  have hl := (hr x hx').len
  rw [K.flat_length] at hl
  have hj' : j < K.size := by rw [← K.len (l.getD ix.toNat K.dflt)]; exact (List.getElem?_eq_some_iff.1 hj).1
  have hlm : l.length = m := by
    have : 0 < K.size := by omega
    exact Nat.eq_of_mul_eq_mul_right this hl
  have hil : ix.toNat < l.length := by omega
  rw [Nat.add_assoc]
  refine hc' _ u (El.flat_get K l ix.toNat hil j u ?_)
  rw [List.getD_eq_getElem?_getD, List.getElem?_eq_getElem hil] at hj
  exact hj
end
end Go.Proofs.Ytipkfdeiallifaa.Lg
