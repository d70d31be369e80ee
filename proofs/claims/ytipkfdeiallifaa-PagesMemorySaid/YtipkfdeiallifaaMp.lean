/-
  Rules for append of made zeros, for shorter views of an own row, for parts (a slice of slices of bytes). No program in sight.
-/
import Derived.Test.YtipkfdeiallifaaDr
import Derived.Lib.AppendZeros
set_option linter.unusedVariables false
set_option linter.unusedSimpArgs false
namespace Go.Proofs.Ytipkfdeiallifaa.Lg
open Go Go.RowKit

theorem grownCap_ge (w : World) (need old : Nat) (e : TypeId) (h : need < 2 ^ 63) : need ≤ grownCap w need old e ∧ grownCap w need old e < 2 ^ 63 := by
  unfold grownCap
  simp only [Question.cut]
  have h1 : 0 < 2 ^ 63 - need := by omega
  have := Nat.mod_lt (w.tape w.drawn (.appendCap need old e)) h1
  omega

section
variable {P : Program} {ops : Array Oper} {n : Nat} {D : List Deferred} {E : Env} {B w : World} {L : List Assn} {Q : Exit → Act → World → Prop} {rest : List Oper} {ty : TypeId} {ps : String} {af : Array Edge} {d : Nat} {x y s : Operand} {e t tn : TypeId}
theorem Sat.own_shrink {T size m c : Nat} {A : Option Addr} {xs : List Value} (hs : Sat B w (Own T size (.slice A m c) m xs :: L)) (k : Nat) (hk : k ≤ m) : Sat B w (Own T size (.slice A k c) k (xs.take (k * size)) :: L) := by
  refine hs.imp ?_
  rintro h1 ⟨hl, hA⟩
  have hkm : k * size ≤ m * size := Nat.mul_le_mul_right _ hk
  refine ⟨by rw [List.length_take, hl]; omega, ?_⟩
  rcases hA with ⟨h, h0, hn⟩ | ⟨g, cap, cur, h, h2, h3, h4, h5, hi⟩
  · cases h
    have : k = 0 := by omega
    subst this
    exact .inl ⟨rfl, rfl, hn⟩
  · cases h
    refine .inr ⟨g, c, cur, rfl, by omega, h3, h4, ?_, hi⟩
    rw [← h5, List.take_take]
    congr 1
    omega
theorem Ls_appendZeros {z : Value} {bytes m : Nat} {k kn : IntKind} (hs : Sat B w L) (ht : P.underlying t = some (.slice e)) (htn : P.underlying tn = some (.int kn)) (hi : Inf P e z 1 bytes) (hz1 : z.cells = #[z])
    (hx : ev E s = some (.slice none 0 0)) (hy : ev E x = some (.int k (m : Int))) (h0 : 0 < m) (hb : m * bytes ≤ 140737488355328) (h63 : m ≤ 140737488355328) (hd : Nat.blt d n = true)
    (h : ∀ b c w', m ≤ c → Sat B w' (Own e 1 (.slice (some ⟨b, 0, none⟩) m c) m (List.replicate m z) :: L) → Ls P ops n D ((d, .slice (some ⟨b, 0, none⟩) m c) :: E) w' rest Q) :
    Ls P ops n D E w (⟨some d, .call { callee := .builtin .append, args := #[s, x], argTypes := #[t, tn] }, ty, ps, af, none⟩ :: rest) Q := by
  obtain ⟨i, hi1, hi2, hi3, hi4⟩ := hi
  have hrun := Lib.run_append_nil_zeros (P := P) w t tn ty e i z k kn ht htn hi1 hi2 m h0 (by omega) (by omega) (by rw [hi4]; omega)
  have hc := grownCap_ge w m 0 e (by omega)
  have hq : Sat B w.drew L := hs.grow ⟨rfl, rfl, rfl, Nat.le_refl _, fun _ _ => rfl⟩
  have hal := hq.alloc (.cells (Builtin.zeroCells z.cells m ++ Builtin.zeroCells z.cells (grownCap w m 0 e - m)) e (0, 0))
  have hsz : ∀ q, (Builtin.zeroCells z.cells q).size = q := fun q => by simp [Builtin.zeroCells, hz1]
  have hlist : ∀ q, (Builtin.zeroCells z.cells q).toList = List.replicate q z := fun q => by
    apply List.ext_getElem
    · simp [Builtin.zeroCells, hz1]
    · intro j h1 h2
      simp [Builtin.zeroCells, hz1, Nat.mod_one]
  have hown : Sat B (w.drew.alloc (.cells (Builtin.zeroCells z.cells m ++ Builtin.zeroCells z.cells (grownCap w m 0 e - m)) e (0, 0))) (Own e 1 (.slice (some ⟨w.heap.size, 0, none⟩) m (grownCap w m 0 e)) m (List.replicate m z) :: L) := by
    refine hal.imp fun h1 hA => ⟨by simp, .inr ⟨w.heap.size, grownCap w m 0 e, _, rfl, hc.1, by simp only [maxLen]; omega, ?_, ?_, hA⟩⟩
    · rw [Array.size_append, hsz, hsz]; omega
    · rw [Array.toList_append, hlist, hlist]
      simp
  refine Ls_run (v := .slice (some ⟨w.heap.size, 0, none⟩) m (grownCap w m 0 e)) (w' := w.drew.alloc (.cells (Builtin.zeroCells z.cells m ++ Builtin.zeroCells z.cells (grownCap w m 0 e - m)) e)) ?_ hd (h _ _ _ hc.1 hown)
  intro n D a dst ps af g ha
  simp only [execOp, resolve, invoke, builtin, Sem.run_bind, Sem.run_pure, Result.andThen_ok, List.map_toArray, List.map_cons, List.map_nil, ha.eval hx, ha.eval hy, hrun]

/-- The place of an element, in an open order, behind a guard. -/
theorem An_index_on {H : World → Prop} {fuel : Nat} {listed : Array Bool} (i : Nat) {j : Nat} {want : Bool} {tg : Tmp} {α : Type} (K : El α) {l : List α} {A : Option Addr} {m c bytes e t : Nat} {zv : Value} {k : IntKind} {ix : Int} {x y : Operand} (hi : ops[i]? = some ⟨some d, .indexAddr t x y, ty, ps, af, some (j, want)⟩) (hs : Region.noSelect ops = true) (hf : Region.free .any ops listed i = true) (hrd : (Region.ready .any ops listed).contains i = true)
    (hj : (ops[j]?).bind (·.dst) = some tg) (hv : look E tg = some (.bool want))
    (hQ : ∀ v c a w, Q (.panic c) (a.put (some d) v) w → Q (.panic c) a w) (hH : H w) (hr : ∀ x, H x → Rd x A m c K.size (K.flat l)) (ht : P.underlying t = some (.slice e)) (hif : Inf P e zv K.size bytes)
    (hx : ev E x = some (.slice A m c)) (hy : ev E y = some (.int k ix)) (h0 : 0 ≤ ix) (h1 : ix < m) {xv : α} (hxv : l.getD ix.toNat K.dflt = xv) (hd : Nat.blt d n = true)
    (h : ∀ b off, (∀ x, H x → ∀ j u, (K.enc xv)[j]? = some u → x.cell? ⟨b, off + j, none⟩ = some u) → An H P ops n D ((d, .pointer (some ⟨b, off, none⟩)) :: E) w fuel (listed.setIfInBounds i true) Q) : An H P ops n D E w (fuel + 1) listed Q := by
  obtain ⟨b, off, rfl, _, hc⟩ := (hr w hH).cells (by omega)
  subst hxv
  refine An_take_on i hi hs hf hrd hj hv (hQ _) hH (fun x hx' => run_index ht hif hx hy rfl h0 h1) hd (h b (off + ix.toNat * K.size) fun x hx' j u hj => ?_)
  obtain ⟨b', off', e1, _, hc'⟩ := (hr x hx').cells (by omega)
  cases e1
  have hl := (hr x hx').len
  rw [K.flat_length] at hl
  have hj' : j < K.size := by rw [← K.len (l.getD ix.toNat K.dflt)]; exact (List.getElem?_eq_some_iff.1 hj).1
  have hlm : l.length = m := by
    have : 0 < K.size := by omega
    exact Nat.eq_of_mul_eq_mul_right this hl
  have hil : ix.toNat < l.length := by omega
  rw [Nat.add_assoc]
  refine hc' _ u (El.flat_get K l ix.toNat hil j u ?_)
  rw [List.getD_eq_getElem?_getD, List.getElem?_eq_getElem hil] at hj
  exact hj
end

/-- Slices of bytes: their values, and what each shows. -/
def Parts (w : World) (vs : List Value) (ls : List (List Int)) : Prop :=
  vs.length = ls.length ∧ ∀ i, i < ls.length → ∃ A n c, vs.getD i (.slice none 0 0) = .slice A n c ∧ Rd w A n c 1 (bytesV (ls.getD i []))
theorem Parts.grow {w w' : World} {vs : List Value} {ls : List (List Int)} (h : Parts w vs ls) (hb : Below w.heap.size w w') : Parts w' vs ls :=
  ⟨h.1, fun i hi => let ⟨A, n, c, e, r⟩ := h.2 i hi; ⟨A, n, c, e, r.grow hb⟩⟩
theorem Parts.nil (w : World) : Parts w [] [] := ⟨rfl, fun i hi => by simp at hi⟩
theorem Parts.cons {w : World} {A : Option Addr} {n c : Nat} {l : List Int} {vs : List Value} {ls : List (List Int)} (hr : Rd w A n c 1 (bytesV l)) (h : Parts w vs ls) : Parts w (.slice A n c :: vs) (l :: ls) :=
  ⟨by simp [h.1], fun i hi => by
    cases i with
    | zero => exact ⟨A, n, c, rfl, hr⟩
    | succ i => simpa using h.2 i (by simpa using hi)⟩
/-- How many bytes lists have, up to the i'th. -/
def upto (ls : List (List Int)) (i : Nat) : Nat := ((ls.take i).map List.length).sum
theorem getD_lt (ls : List (List Int)) (i : Nat) (hi : i < ls.length) : ls.getD i [] = ls[i] := by
  rw [List.getD_eq_getElem?_getD, List.getElem?_eq_getElem hi]; rfl
theorem upto_succ (ls : List (List Int)) (i : Nat) (hi : i < ls.length) : upto ls (i + 1) = upto ls i + (ls.getD i []).length := by
  unfold upto
  rw [List.take_succ_eq_append_getElem hi, getD_lt ls i hi, List.map_append, List.sum_append]
  simp
theorem upto_le (ls : List (List Int)) (i : Nat) : upto ls i ≤ (ls.map List.length).sum := by
  have h : (ls.map List.length).sum = ((ls.take i).map List.length).sum + ((ls.drop i).map List.length).sum := by
    rw [← List.sum_append, ← List.map_append, List.take_append_drop]
  unfold upto
  omega
theorem upto_all (ls : List (List Int)) : upto ls ls.length = (ls.map List.length).sum := by simp [upto]
theorem flat_take_succ (ls : List (List Int)) (i : Nat) (hi : i < ls.length) : (ls.take (i + 1)).flatten = (ls.take i).flatten ++ ls.getD i [] := by
  rw [List.take_succ_eq_append_getElem hi, getD_lt ls i hi, List.flatten_append]
  simp
theorem flat_len (ls : List (List Int)) : ls.flatten.length = (ls.map List.length).sum := by simp [List.length_flatten]
theorem flat_take_len (ls : List (List Int)) (i : Nat) : (ls.take i).flatten.length = upto ls i := by simp [upto, List.length_flatten]
end Go.Proofs.Ytipkfdeiallifaa.Lg
