/-
  Further rules: elements of slices, tests by their shape, sums that stay in range. No program in sight.
-/
import Derived.Test.YtipkfdeiallifaaEf
set_option linter.unusedVariables false
set_option linter.unusedSimpArgs false
namespace Go.Proofs.Ytipkfdeiallifaa.Lg
open Go Go.RowKit

/-- How an element lies in cells. -/
structure El (α : Type) where
  size : Nat
  enc : α → List Value
  dflt : α
  len : ∀ x, (enc x).length = size
def El.flat {α : Type} (K : El α) (l : List α) : List Value := l.flatMap K.enc
theorem El.flat_nil {α : Type} (K : El α) : K.flat [] = [] := rfl
theorem El.flat_append {α : Type} (K : El α) (a b : List α) : K.flat (a ++ b) = K.flat a ++ K.flat b := by simp [El.flat]
theorem El.flat_one {α : Type} (K : El α) (x : α) : K.flat [x] = K.enc x := by simp [El.flat]
theorem El.flat_length {α : Type} (K : El α) (l : List α) : (K.flat l).length = l.length * K.size := by
  induction l with
  | nil => simp [El.flat]
  | cons x l ih =>
    have : K.flat (x :: l) = K.enc x ++ K.flat l := by simp [El.flat]
    rw [this, List.length_append, K.len, ih, List.length_cons, Nat.add_mul, Nat.one_mul, Nat.add_comm]
theorem El.flat_get {α : Type} (K : El α) : ∀ (l : List α) (i : Nat) (hi : i < l.length) (j : Nat) (u : Value), (K.enc l[i])[j]? = some u → (K.flat l)[i * K.size + j]? = some u
  | [], i, hi, j, u, h => by simp at hi
  | x :: l, 0, hi, j, u, h => by
    have e : K.flat (x :: l) = K.enc x ++ K.flat l := by simp [El.flat]
    have hj : j < (K.enc x).length := (List.getElem?_eq_some_iff.1 h).1
    rw [e, Nat.zero_mul, Nat.zero_add, List.getElem?_append_left hj]
    exact h
  | x :: l, i + 1, hi, j, u, h => by
    have e : K.flat (x :: l) = K.enc x ++ K.flat l := by simp [El.flat]
    rw [e, List.getElem?_append_right (by rw [K.len, Nat.add_mul]; omega), K.len]
    have : (i + 1) * K.size + j - K.size = i * K.size + j := by rw [Nat.add_mul]; omega
    rw [this]
    exact El.flat_get K l i (by simpa using hi) j u h
def El.int (k : IntKind) : El Int := ⟨1, fun x => [.int k x], 0, fun _ => rfl⟩
def El.val : El Value := ⟨1, fun v => [v], .slice none 0 0, fun _ => rfl⟩
theorem El.int_flat (k : IntKind) (l : List Int) : (El.int k).flat l = l.map (fun x => .int k x) := by
  induction l with
  | nil => rfl
  | cons x l ih => have e : (El.int k).flat (x :: l) = [.int k x] ++ (El.int k).flat l := by simp [El.flat, El.int]
                   rw [e, ih]; rfl
theorem El.val_flat (l : List Value) : El.val.flat l = l := by
  induction l with
  | nil => rfl
  | cons x l ih => have e : El.val.flat (x :: l) = [x] ++ El.val.flat l := by simp [El.flat, El.val]
                   rw [e, ih]; rfl
theorem bytesV_flat (l : List Int) : bytesV l = (El.int .u8).flat l := (El.int_flat .u8 l).symm
theorem bytesV_append (a b : List Int) : bytesV (a ++ b) = bytesV a ++ bytesV b := by simp [bytesV]
theorem bytesV_one (x : Int) : bytesV [x] = [.int .u8 x] := rfl
theorem bytesV_take (l : List Int) (i : Nat) : (bytesV l).take i = bytesV (l.take i) := by simp [bytesV]
theorem bytesV_drop (l : List Int) (i : Nat) : (bytesV l).drop i = bytesV (l.drop i) := by simp [bytesV]
theorem bytesV_one' (l : List Int) : ∀ u ∈ bytesV l, u.oneCell' = true := by
  intro u hu
  simp [bytesV] at hu
  obtain ⟨x, _, rfl⟩ := hu
  rfl

theorem rdB_take {w : World} {A : Option Addr} {n c : Nat} {l : List Int} (h : Rd w A n c 1 (bytesV l)) (i : Nat) (hi : i ≤ n) : Rd w A i c 1 (bytesV (l.take i)) := by
  have := h.take i hi
  rwa [Nat.mul_one, bytesV_take] at this
theorem rdB_drop {w : World} {A : Option Addr} {n c : Nat} {l : List Int} (h : Rd w A n c 1 (bytesV l)) (i : Nat) (hi : i ≤ n) : Rd w (if c = i then A else A.map (·.add (i * 1))) (n - i) (c - i) 1 (bytesV (l.drop i)) := by
  have := h.drop i hi
  have e : (bytesV l).drop (i * 1) = bytesV (l.drop i) := by rw [Nat.mul_one, bytesV_drop]
  rwa [e] at this
theorem rdB_len {w : World} {A : Option Addr} {n c : Nat} {l : List Int} (h : Rd w A n c 1 (bytesV l)) : l.length = n := by
  have := h.len; rw [bytesV_length] at this; omega
theorem w64 {n : Int} (h : -9223372036854775808 ≤ n ∧ n ≤ 9223372036854775807) : IntKind.i64.wrap n = n := by
  rw [IntKind.wrap_i64]; omega
theorem wu64 {n : Int} (h : 0 ≤ n ∧ n < 18446744073709551616) : IntKind.u64.wrap n = n := by
  rw [IntKind.wrap_u64]; omega
theorem wu8 {n : Int} (h : 0 ≤ n ∧ n < 256) : IntKind.u8.wrap n = n := by
  rw [IntKind.wrap_u8]; omega

section
variable {P : Program} {ops : Array Oper} {n : Nat} {D : List Deferred} {E : Env} {B w : World} {L : List Assn} {Q : Exit → Act → World → Prop} {c1 c2 : Code} {rest : List Oper} {ty : TypeId} {ps : String} {af : Array Edge} {op : Op} {d : Nat} {v : Value} {x y s : Operand} {e t t' : TypeId}
theorem St_eqE {E' : Env} {c : Code} (he : E = E') (h : St P n D E' w c Q) : St P n D E w c Q := he ▸ h
theorem St_ift {c : Operand} (hc : ev E c = some (.bool true)) (h1 : St P n D E w c1 Q) : St P n D E w (.cond c c1 c2) Q := fun a ha => wp_cond_true (ha.eval hc) (h1 a ha)
theorem St_iff {c : Operand} (hc : ev E c = some (.bool false)) (h1 : St P n D E w c2 Q) : St P n D E w (.cond c c1 c2) Q := fun a ha => wp_cond_false (ha.eval hc) (h1 a ha)
theorem St_ifN {c : Operand} {p : Prop} [Decidable p] (hc : ev E c = some (.bool (!decide p))) (h1 : ¬ p → St P n D E w c1 Q) (h2 : p → St P n D E w c2 Q) : St P n D E w (.cond c c1 c2) Q :=
  St_if hc (fun hb => h1 (by simpa using hb)) (fun hb => h2 (by simpa using hb))
theorem Ls_partP {l : List Oper} {t : Tmp} {p : Prop} [Decidable p] (hv : look E t = some (.bool (decide p))) (h1 : p → Ls P ops n D ((t, .bool true) :: E) w l Q) (h2 : ¬ p → Ls P ops n D ((t, .bool false) :: E) w l Q) : Ls P ops n D E w l Q :=
  Ls_part hv (fun h => h1 (of_decide_eq_true h)) (fun h => h2 (of_decide_eq_false h))
theorem Ls_partN {l : List Oper} {t : Tmp} {p : Prop} [Decidable p] (hv : look E t = some (.bool (!decide p))) (h1 : ¬ p → Ls P ops n D ((t, .bool true) :: E) w l Q) (h2 : p → Ls P ops n D ((t, .bool false) :: E) w l Q) : Ls P ops n D E w l Q :=
  Ls_part hv (fun h => h1 (by simpa using h)) (fun h => h2 (by simpa using h))
theorem run_equalIn_bool (d : Nat) {a b : Bool} (ht : P.underlying t = some .bool) : (Op.equalIn (d + 1) t (.bool a) (.bool b)).run P w = .ok (a == b) w := by
  simp [Op.equalIn, run_underlying ht]
theorem run_eql_bool {a b : Bool} (ht : P.underlying t = some .bool) (hx : ev E x = some (.bool a)) (hy : ev E y = some (.bool b)) : RunO P E (.binOp .eql t x y t') ty w (.bool (a == b)) w := fun n D a' dst ps af g ha => by
  have h : (Op.equal t (.bool a) (.bool b)).run P w = .ok (a == b) w := run_equalIn_bool 9999 ht
  simp only [execOp, ha.eval hx, ha.eval hy, eqGuard_at_bool, binOp, Sem.run_bind, Sem.run_pure, Result.andThen_ok, h]
theorem run_neq_bool {a b : Bool} (ht : P.underlying t = some .bool) (hx : ev E x = some (.bool a)) (hy : ev E y = some (.bool b)) : RunO P E (.binOp .neq t x y t') ty w (.bool (!(a == b))) w := fun n D a' dst ps af g ha => by
  have h : (Op.equal t (.bool a) (.bool b)).run P w = .ok (a == b) w := run_equalIn_bool 9999 ht
  simp only [execOp, ha.eval hx, ha.eval hy, eqGuard_at_bool, binOp, Sem.run_bind, Sem.run_pure, Result.andThen_ok, h]
/-- An element of a slice that is read. -/
theorem Ls_index {α : Type} (K : El α) {l : List α} {A : Option Addr} {m c bytes : Nat} {zv : Value} {k : IntKind} {i : Int} (hr : Rd w A m c K.size (K.flat l)) (ht : P.underlying t = some (.slice e)) (hi : Inf P e zv K.size bytes)
    (hx : ev E x = some (.slice A m c)) (hy : ev E y = some (.int k i)) (h0 : 0 ≤ i) (h1 : i < m) {xv : α} (hxv : l.getD i.toNat K.dflt = xv) (hd : Nat.blt d n = true)
    (h : ∀ b off, (∀ j u, (K.enc xv)[j]? = some u → w.cell? ⟨b, off + j, none⟩ = some u) → Ls P ops n D ((d, .pointer (some ⟨b, off, none⟩)) :: E) w rest Q) :
    Ls P ops n D E w (⟨some d, .indexAddr t x y, ty, ps, af, none⟩ :: rest) Q := by
  subst hxv
  obtain ⟨b, off, rfl, _, hc⟩ := hr.cells (by omega)
  have hz : K.size ≠ 0 ∨ K.size = 0 := by omega
  refine Ls_run (run_index ht hi hx hy rfl h0 h1) hd (h b (off + i.toNat * K.size) fun j u hj => ?_)
  have hl := hr.len
  rw [K.flat_length] at hl
  have hj' : j < K.size := by rw [← K.len (l.getD i.toNat K.dflt)]; exact (List.getElem?_eq_some_iff.1 hj).1
  have hlm : l.length = m := by
    have : 0 < K.size := by omega
    exact Nat.eq_of_mul_eq_mul_right this hl
  have hil : i.toNat < l.length := by omega
  rw [Nat.add_assoc]
  refine hc _ u (El.flat_get K l i.toNat hil j u ?_)
  rw [List.getD_eq_getElem?_getD, List.getElem?_eq_getElem hil] at hj
  exact hj
theorem foldl_set (o : Nat) : ∀ (cs pre mid post : List Value) (k : Nat), mid.length = cs.length → pre.length = o + k →
    (cs.zipIdx k).foldl (fun (a : Array Value) (p : Value × Nat) => a.setIfInBounds (o + p.2) p.1) (pre ++ (mid ++ post)).toArray = (pre ++ (cs ++ post)).toArray
  | [], pre, mid, post, k, hm, hp => by
    have : mid = [] := List.eq_nil_of_length_eq_zero hm
    subst this; simp
  | c :: cs, pre, [], post, k, hm, hp => by simp at hm
  | c :: cs, pre, m :: mid, post, k, hm, hp => by
    have ih := foldl_set o cs (pre ++ [c]) mid post (k + 1) (by simpa using hm) (by simp; omega)
    simp only [List.zipIdx_cons, List.foldl_cons]
    have e : (pre ++ (m :: mid ++ post)).toArray.setIfInBounds (o + k) c = (pre ++ [c] ++ (mid ++ post)).toArray := by
      rw [List.setIfInBounds_toArray, ← hp]
      simp
    rw [e, ih]
    simp
theorem fill_seq (size : Nat) : ∀ (vs : List Value) (pre post : List Value) (k : Nat), (∀ v ∈ vs, v.cells.size = size) → pre.length = k * size → post.length = vs.length * size →
    Instr.fill (fun i => some (i * size, size)) (pre ++ post).toArray ((vs.zipIdx k).map fun p => (p.2, p.1)) = some (pre ++ vs.flatMap (fun v => v.cells.toList)).toArray
  | [], pre, post, k, hv, hp, hq => by
    have : post = [] := List.eq_nil_of_length_eq_zero (by simpa using hq)
    subst this; simp [Instr.fill]
  | v :: vs, pre, post, k, hv, hp, hq => by
    have h1 := hv v (by simp)
    have hq' : post.length = size + vs.length * size := by simpa [Nat.add_mul, Nat.add_comm] using hq
    have h2 : (post.take size).length = v.cells.toList.length := by simp [h1]; omega
    have e := foldl_set (k * size) v.cells.toList pre (post.take size) (post.drop size) 0 h2 (by simpa using hp)
    rw [List.take_append_drop] at e
    have e' : v.cells.zipIdx.foldl (fun (cs : Array Value) (x : Value × Nat) => cs.setIfInBounds (k * size + x.2) x.1) (pre ++ post).toArray = (pre ++ (v.cells.toList ++ post.drop size)).toArray := by
      rw [← e, ← Array.foldl_toList, Array.toList_zipIdx]
    have ih := fill_seq size vs (pre ++ v.cells.toList) (post.drop size) (k + 1) (fun u hu => hv u (by simp [hu])) (by simp [h1, hp, Nat.add_mul]) (by simp; omega)
    simp only [List.zipIdx_cons, List.map_cons, Instr.fill]
    have hif : ¬ ((decide (v.cells.size ≠ size) || decide (k * size + v.cells.size > (pre ++ post).toArray.size)) = true) := by
      simp [h1, hp]; omega
    rw [if_neg hif]
    have e3 : (Array.foldl (fun (cs : Array Value) (x : Value × Nat) => match x with | (c, j) => cs.setIfInBounds (k * size + j) c) (pre ++ post).toArray v.cells.zipIdx) = (pre ++ (v.cells.toList ++ post.drop size)).toArray := e'
    rw [e3, ← List.append_assoc, ih]
    simp
/-- A slice's literal, all its elements written out in their order. -/
theorem Ls_literal {z : Value} {size bytes len : Nat} {parts : List (Nat × Operand)} (vs : List Value) (hs : Sat B w L) (ht : P.underlying t = some (.slice e)) (hi : Inf P e z size bytes)
    (hp : parts.map (fun p => (p.1, ev E p.2)) = vs.zipIdx.map (fun p => (p.2, some p.1))) (hv : vs.all (fun v => Nat.beq v.cells.size size) = true) (hz : z.cells.size = size) (hlv : len = vs.length) (hlen : Nat.ble (len * size) 16777216 = true) (hd : Nat.blt d n = true)
    (h : ∀ b w', Sat B w' (Blk b (vs.flatMap (fun v => v.cells.toList)) e :: L) → Ls P ops n D ((d, .slice (some ⟨b, 0, none⟩) len len) :: E) w' rest Q) : Ls P ops n D E w (⟨some d, .buildSlice t len parts.toArray, ty, ps, af, none⟩ :: rest) Q := by
  have hv' : ∀ v ∈ vs, v.cells.size = size := fun v hvv => by
    have := List.all_eq_true.1 hv v hvv
    exact Nat.eq_of_beq_eq_true this
  refine Ls_buildSlice (pv := (vs.zipIdx).map fun p => (p.2, p.1)) hs ht hi (by rw [hp]; simp) hlen ?_ hd h
  subst hlv
  by_cases h0 : vs.length * size = 0
  · rw [if_pos h0]
    have := fill_seq size vs [] [] 0 hv' (by simp) (by simpa using h0.symm)
    simpa using this
  · rw [if_neg h0]
    have hl : ((Array.range (vs.length * size)).map (z.cells[· % z.cells.size]!)) = ((List.range (vs.length * size)).map (z.cells[· % z.cells.size]!)).toArray := by
      rw [← List.map_toArray]; simp [Array.range, List.toArray_range]
    rw [hl]
    have := fill_seq size vs [] ((List.range (vs.length * size)).map (z.cells[· % z.cells.size]!)) 0 hv' (by simp) (by simp)
    simpa using this
theorem run_as {v v' : Value} {w' : World} (h : RunO P E op ty w v w') (e : v = v') : RunO P E op ty w v' w' := e ▸ h
theorem run_asB {b c : Bool} {w' : World} (h : RunO P E op ty w (.bool b) w') (e : b = c) : RunO P E op ty w (.bool c) w' := e ▸ h
/-- '[]byte' of a constant text: its literal, marked behind its end. -/
theorem Ls_stringish {b m c : Nat} {cs : List Value} (hs : Sat B w (Blk b cs e :: L)) (ht : P.underlying t = some (.slice e)) (he : P.underlying e = some (.int .u8)) (hx : ev E x = some (.slice (some ⟨b, 0, none⟩) m c)) (hd : Nat.blt d n = true)
    (h : ∀ w', Sat B w' (Is b (.cells cs.toArray e (cs.length, cs.length + 1)) :: L) → Ls P ops n D ((d, .slice (some ⟨b, 0, none⟩) m c) :: E) w' rest Q) : Ls P ops n D E w (⟨some d, .convert t t x, ty, ps, af, none⟩ :: rest) Q := by
  have hg := hs.is_get.2
  have hsh : w.shape? b = some (e, cs.length) := by simp [World.shape?, hg]
  have hfr : w.freeze ⟨b, cs.length, none⟩ 1 = { w with heap := w.heap.setIfInBounds b (.cells cs.toArray e (cs.length, cs.length + 1)) } := by
    unfold World.freeze
    rw [if_neg (by decide)]
    congr 1
    apply Array.ext_getElem?
    intro i
    rw [Array.getElem?_modify, Array.getElem?_setIfInBounds]
    have hlt := (Array.getElem?_eq_some_iff.1 hg).1
    by_cases hi : b = i
    · subst hi
      rw [if_pos rfl, hg, if_pos rfl, if_pos hlt]
      rfl
    · simp [hi]
  refine Ls_run (v := .slice (some ⟨b, 0, none⟩) m c) (w' := w.freeze ⟨b, cs.length, none⟩ 1) ?_ hd (h _ (Sat.is_set (b := b) hs hfr))
  intro n D a dst ps af g ha
  simp [execOp, ha.eval hx, convert, run_underlying ht, run_underlying he, markStringish, hsh]
theorem Sat.own_addr {T size m c : Nat} {A : Option Addr} {xs : List Value} (hs : Sat B w (Own T size (.slice A m c) m xs :: L)) (hm : 0 < m) : ∃ g, A = some ⟨g, 0, none⟩ := by
  obtain ⟨h1, ⟨hl, hA⟩, hw⟩ := hs.head
  rcases hA with ⟨h, h0, _⟩ | ⟨g, cap, cur, h, _⟩
  · omega
  · cases h; exact ⟨g, rfl⟩
end
end Go.Proofs.Ytipkfdeiallifaa.Lg
