/-
  One rule an operation that makes or turns memory. Plain theorems over the kit's own laws; no program in sight.
-/
import Derived.Test.YtipkfdeiallifaaRl
import Derived.Deep.OwnRows
import Derived.Maps.AppendAt
set_option linter.unusedVariables false
set_option linter.unusedSimpArgs false
namespace Go.Proofs.Ytipkfdeiallifaa.Lg
open Go Go.RowKit

theorem Sat.set_cell {B w : World} {b : Nat} {cs : List Value} {T : TypeId} {L : List Assn} (hs : Sat B w (Blk b cs T :: L)) (off : Nat) (v : Value) : Sat B (w.setCell ⟨b, off, none⟩ v) (Blk b (cs.set off v) T :: L) := by
  have hg := hs.is_get
  refine hs.step rfl rfl rfl (by simp [World.setCell]) ?_
  intro h1 hA hw
  refine ⟨fun b' => if b' = b then some (.cells (cs.set off v).toArray T (0, 0)) else none, fun _ => rfl, ⟨fun b1 o1 hb1 => ?_, fun b1 hlt hn => ?_⟩⟩
  · by_cases hbb : b1 = b
    · subst hbb
      simp at hb1
      subst hb1
      refine ⟨.inl (by rw [hA b1]; simp), ?_⟩
      simp only [World.setCell]
      rw [Array.getElem?_modify]
      simp [hg.2, List.setIfInBounds_toArray]
    · simp [hbb] at hb1
  · have : b1 ≠ b := fun e => by subst e; rw [hA b1] at hn; simp at hn
    exact Below.heap_setCell _ _ _ _ this

theorem Sat.set_own {B w : World} {T g n c : Nat} {xs : List Value} {L : List Assn} (hs : Sat B w (Own T 1 (.slice (some ⟨g, 0, none⟩) n c) n xs :: L)) (i : Nat) (v : Value) :
    Sat B (w.setCell ⟨g, i, none⟩ v) (Own T 1 (.slice (some ⟨g, 0, none⟩) n c) n (xs.set i v) :: L) := by
  have ho := hs.owns
  have h1 := ho.stored i v
  exact hs.regrown h1.1 (by simpa [Value.ownBlock] using h1.2) (.inl rfl)

/-- What stands in an own row's cell may be written. -/
theorem Sat.own_cell {B w : World} {T g n c : Nat} {xs : List Value} {L : List Assn} (hs : Sat B w (Own T 1 (.slice (some ⟨g, 0, none⟩) n c) n xs :: L)) (i : Nat) (hi : i < n) : (∃ u, w.cell? ⟨g, i, none⟩ = some u) ∧ w.frozen? ⟨g, i, none⟩ = false := by
  obtain ⟨h1, ⟨hl, hA⟩, hw⟩ := hs.head
  rcases hA with ⟨h, _⟩ | ⟨g', cap, cur, h, h2, h3, h4, h5, hh⟩
  · cases h
  · cases h
    have := (hw g _ (by rw [hh g]; simp; rfl)).2
    refine ⟨⟨cur[i]'(by omega), ?_⟩, by simp [World.frozen?, this]⟩
    have hi' : i < cur.size := by omega
    simp [World.cell?, this, hi']
theorem Sat.blk_cell {B w : World} {b T : Nat} {cs : List Value} {L : List Assn} (hs : Sat B w (Blk b cs T :: L)) (i : Nat) {u : Value} (hi : cs[i]? = some u) : w.cell? ⟨b, i, none⟩ = some u ∧ w.frozen? ⟨b, i, none⟩ = false := by
  have := hs.is_get.2
  exact ⟨by simp [World.cell?, this, hi], by simp [World.frozen?, this]⟩
theorem Sat.blk_at {B w : World} {b T : Nat} {cs : List Value} {L : List Assn} (hs : Sat B w L) (j : Nat) (hj : L[j]? = some (Blk b cs T)) (i : Nat) {u : Value} (hi : cs[i]? = some u) : w.cell? ⟨b, i, none⟩ = some u := ((hs.front j hj).blk_cell i hi).1
/-- A block's cells, from off on. -/
theorem Sat.blk_cells {B w : World} {b T : Nat} {cs : List Value} {L : List Assn} (hs : Sat B w L) (j : Nat) (hj : L[j]? = some (Blk b cs T)) (off m : Nat) : ∀ i u, ((cs.drop off).take m)[i]? = some u → w.cell? ⟨b, off + i, none⟩ = some u := by
  intro i u hi
  refine hs.blk_at j hj (off + i) ?_
  rw [List.getElem?_take] at hi
  split at hi
  · rwa [List.getElem?_drop] at hi
  · cases hi

section
variable {P : Program} {ops : Array Oper} {n : Nat} {D : List Deferred} {E : Env} {B w : World} {L : List Assn} {Q : Exit → Act → World → Prop} {rest : List Oper} {ty : TypeId} {ps : String} {af : Array Edge} {op : Op} {d : Nat} {v : Value} {x y s : Operand} {e t : TypeId}

theorem Ls_box (hs : Sat B w L) (hx : ev E x = some v) (hd : Nat.blt d n = true)
    (h : ∀ b w', Sat B w' (Blk b v.cells.toList e :: L) → Ls P ops n D ((d, .pointer (some ⟨b, 0, none⟩)) :: E) w' rest Q) : Ls P ops n D E w (⟨some d, .box e x, ty, ps, af, none⟩ :: rest) Q := by
  have hal := hs.alloc (.cells v.cells e (0, 0))
  refine Ls_run (v := .pointer (some ⟨w.heap.size, 0, none⟩)) (w' := w.alloc (.cells v.cells e (0, 0))) ?_ hd (h _ _ hal)
  intro n D a dst ps af g ha
  simp [execOp, ha.eval hx, Instr.box, newVar, newRow]
theorem Ls_alloc {z : Value} {size bytes : Nat} (hs : Sat B w L) (hi : Inf P e z size bytes) (hd : Nat.blt d n = true)
    (h : ∀ b w', Sat B w' (Blk b z.cells.toList e :: L) → Ls P ops n D ((d, .pointer (some ⟨b, 0, none⟩)) :: E) w' rest Q) : Ls P ops n D E w (⟨some d, .alloc e, ty, ps, af, none⟩ :: rest) Q := by
  have hal := hs.alloc (.cells z.cells e (0, 0))
  obtain ⟨i, hi1, hi2, _, _⟩ := hi
  refine Ls_run (v := .pointer (some ⟨w.heap.size, 0, none⟩)) (w' := w.alloc (.cells z.cells e (0, 0))) ?_ hd (h _ _ hal)
  intro n D a dst ps af g ha
  simp [execOp, Instr.alloc, newVar, newRow, zeroValue, typeInfo, hi1, hi2]
theorem evp_map {E : Env} {n : Nat} {D : List Deferred} {a : Act} (ha : Good n D E a) : ∀ {parts : List (Nat × Operand)} {pv : List (Nat × Value)}, parts.map (fun p => (p.1, ev E p.2)) = pv.map (fun p => (p.1, some p.2)) → parts.map (fun p => (p.1, a.eval p.2)) = pv
  | [], pv, h => by
    cases pv with
    | nil => rfl
    | cons q pv => simp at h
  | p :: parts, pv, h => by
    cases pv with
    | nil => simp at h
    | cons q pv =>
      simp only [List.map_cons, List.cons.injEq, Prod.mk.injEq] at h
      obtain ⟨⟨h1, h2⟩, h3⟩ := h
      rw [List.map_cons, evp_map ha h3, ha.eval h2, h1]
/-- A slice's literal: its cells. -/
theorem Ls_buildSlice {z : Value} {size bytes len : Nat} {parts : List (Nat × Operand)} {pv : List (Nat × Value)} {cells : List Value} (hs : Sat B w L) (ht : P.underlying t = some (.slice e)) (hi : Inf P e z size bytes)
    (hp : parts.map (fun p => (p.1, ev E p.2)) = pv.map (fun p => (p.1, some p.2))) (hlen : Nat.ble (len * size) 16777216 = true)
    (hc : Instr.fill (fun i => some (i * size, size)) (if len * size = 0 then #[] else (Array.range (len * size)).map (z.cells[· % z.cells.size]!)) pv = some cells.toArray) (hd : Nat.blt d n = true)
    (h : ∀ b w', Sat B w' (Blk b cells e :: L) → Ls P ops n D ((d, .slice (some ⟨b, 0, none⟩) len len) :: E) w' rest Q) : Ls P ops n D E w (⟨some d, .buildSlice t len parts.toArray, ty, ps, af, none⟩ :: rest) Q := by
  have hal := hs.alloc (.cells cells.toArray e (0, 0))
  have hsz := hi.sizeOf (P := P) w
  obtain ⟨i, hi1, hi2, hi3, _⟩ := hi
  refine Ls_run (v := .slice (some ⟨w.heap.size, 0, none⟩) len len) (w' := w.alloc (.cells cells.toArray e (0, 0))) ?_ hd (h _ _ hal)
  intro n D a dst ps af g ha
  have hpv := evp_map ha hp
  have hle : ¬ len * size > 2 ^ 24 := by have := Nat.le_of_ble_eq_true hlen; omega
  by_cases h0 : len * size = 0
  · rw [if_pos h0] at hc
    have hc' : Instr.fill (fun i => some (i * size, size)) ((Array.range (len * size)).map ((#[] : Array Value)[· % (#[] : Array Value).size]!)) pv = some cells.toArray := by
      rw [← hc, h0]; congr 1; simp [Array.range]
    simp only [execOp, List.map_toArray, hpv, Instr.buildSlice, Sem.run_bind, run_underlying ht, Result.andThen_ok, hsz, if_neg hle, if_pos h0, Sem.run_pure, hc']
    rfl
  · rw [if_neg h0] at hc
    simp only [execOp, List.map_toArray, hpv, Instr.buildSlice, Sem.run_bind, run_underlying ht, Result.andThen_ok, hsz, if_neg hle, if_neg h0, zeroValue, typeInfo, run_program, hi1, hi2, Sem.run_pure, hc]
    rfl
theorem Ls_make {z : Value} {bytes m : Nat} {k k' : IntKind} (hs : Sat B w L) (ht : P.underlying t = some (.slice e)) (hi : (P.info? e).map (fun i => (i.zero, i.size, i.bytes)) = some (some z, 1, bytes)) (hz1 : z.cells = #[z])
    (hx : ev E x = some (.int k (m : Int))) (hy : ev E y = some (.int k' (m : Int))) (hb : bytes * m ≤ 281474976710656) (h63 : m ≤ 9223372036854775807) (hd : Nat.blt d n = true)
    (h : ∀ b w', Sat B w' (Own e 1 (.slice (some ⟨b, 0, none⟩) m m) m (List.replicate m z) :: L) → Ls P ops n D ((d, .slice (some ⟨b, 0, none⟩) m m) :: E) w' rest Q) : Ls P ops n D E w (⟨some d, .makeSlice t x y, ty, ps, af, none⟩ :: rest) Q := by
  have hrun := run_make_row' (P := P) t e z bytes ht hi hz1 k k' m hb h63 w
  have hcells : madeCells #[z] m = (List.replicate m z).toArray := by
    apply Array.ext
    · simp [madeCells]
    · intro i h1 h2
      simp [madeCells, Nat.mod_one]
  have hal := hs.alloc (.cells (madeCells #[z] m) e (0, 0))
  rw [hcells] at hal hrun
  have hown := Sat.own_block (b := w.heap.size) (cs := List.replicate m z) (T := e) hal 1 m (by simp) (by simp only [maxLen]; omega)
  refine Ls_run (v := .slice (some ⟨w.heap.size, 0, none⟩) m m) (w' := w.alloc (.cells (List.replicate m z).toArray e (0, 0))) ?_ hd (h _ _ hown)
  intro n D a dst ps af g ha
  simp only [execOp, ha.eval hx, ha.eval hy, Sem.run_bind, hrun, Result.andThen_ok]
  rfl

theorem run_append_sat {z : Value} {size bytes nn m c : Nat} {xs ys : List Value} {A : Option Addr} (ty : TypeId) (hs : Sat B w (Own e size v nn xs :: L)) (ht : P.underlying t = some (.slice e)) (hi : Inf P e z size bytes) (hz1 : z.cells.size = size) (hsz : 0 < size) (hby : 0 < bytes)
    (hr : Rd w A m c size ys) (h1 : ∀ u ∈ ys, u.oneCell' = true) (hl : (nn + m) * bytes ≤ 140737488355328) :
    ∃ A' c' w', (Builtin.append_ #[t, t] ty #[v, .slice A m c]).run P w = .ok (.slice A' (nn + m) c') w' ∧ Sat B w' (Own e size (.slice A' (nn + m) c') (nn + m) (xs ++ ys) :: L) := by
  have hnm : nn + m ≤ 140737488355328 := Nat.le_trans (Nat.le_mul_of_pos_right _ hby) hl
  have hbase : B.heap.size ≤ w.heap.size := hs.below.size
  have key : ∃ v' w', (Builtin.append_ #[t, t] ty #[v, .slice A m c]).run P w = .ok v' w' ∧ Sat B w' (Own e size v' (nn + m) (xs ++ ys) :: L) := by
    obtain ⟨i, hi1, hi2, hi3, hi4⟩ := hi
    rcases A with _ | ad
    · have h0 : m = 0 := by
        rcases Nat.eq_zero_or_pos m with h0 | h0
        · exact h0
        · obtain ⟨b, off, h, _⟩ := hr.cells h0
          cases h
      subst h0
      have hys : ys = [] := by have := hr.len; simpa using this
      subst hys
      refine ⟨v, w, ?_, by simpa using hs⟩
      have ho := hs.owns
      rcases ho.2 with ⟨rfl, hn⟩ | ⟨g, cap, cur, rfl, _, _, hnc, _⟩
      · simp [Builtin.append_, run_underlying ht, sizeOf, typeInfo, hi1, Builtin.lenOf, Builtin.firstCells]
      · simp [Builtin.append_, run_underlying ht, sizeOf, typeInfo, hi1, Builtin.lenOf, Builtin.firstCells, hnc, storeCells]
    · have hcells : ∀ j u, ys[j]? = some u → w.cell? (ad.add j) = some u := by
        intro j u hu
        have hj : j < ys.length := (List.getElem?_eq_some_iff.1 hu).1
        have hm : 0 < m := by
          rcases Nat.eq_zero_or_pos m with h0 | h0
          · have := hr.len; rw [h0] at this; simp at this; rw [this] at hj; simp at hj
          · exact h0
        obtain ⟨b, off, h, _, hc⟩ := hr.cells hm
        cases h
        rw [Addr.add_lit]
        exact hc j u hu
      obtain ⟨v1, w1, hrun, h2, h3, _, h5⟩ := run_append_own_at (P := P) w B.heap.size t ty e i z size bytes ht hi1 hi2 hi3 hi4 hz1 hsz v nn xs hs.owns ad m c ys hr.len hcells h1 (by simp only [maxLen]; omega) hl hbase
      exact ⟨v1, w1, hrun, hs.regrown h2 h3 h5⟩
  obtain ⟨v', w', hrun, hs'⟩ := key
  obtain ⟨A', c', rfl, _, _, _⟩ := hs'.own_form
  exact ⟨A', c', w', hrun, hs'⟩
theorem Ls_append {z : Value} {size bytes nn m c : Nat} {xs ys : List Value} {A : Option Addr} (hs : Sat B w (Own e size v nn xs :: L)) (ht : P.underlying t = some (.slice e)) (hi : Inf P e z size bytes) (hz1 : z.cells.size = size) (hsz : 0 < size) (hby : 0 < bytes)
    (hx : ev E s = some v) (hy : ev E x = some (.slice A m c)) (hr : Rd w A m c size ys) (h1 : ∀ u ∈ ys, u.oneCell' = true) (hl : (nn + m) * bytes ≤ 140737488355328) (hd : Nat.blt d n = true)
    (h : ∀ A' c' w', Sat B w' (Own e size (.slice A' (nn + m) c') (nn + m) (xs ++ ys) :: L) → Ls P ops n D ((d, .slice A' (nn + m) c') :: E) w' rest Q) :
    Ls P ops n D E w (⟨some d, .call { callee := .builtin .append, args := #[s, x], argTypes := #[t, t] }, ty, ps, af, none⟩ :: rest) Q := by
  obtain ⟨A', c', w', hrun, hs'⟩ := run_append_sat (P := P) ty hs ht hi hz1 hsz hby hr h1 hl
  refine Ls_run (v := .slice A' (nn + m) c') (w' := w') ?_ hd (h A' c' w' hs')
  intro n D a dst ps af g ha
  simp only [execOp, resolve, invoke, builtin, Sem.run_bind, Sem.run_pure, Result.andThen_ok, List.map_toArray, List.map_cons, List.map_nil, ha.eval hx, ha.eval hy, hrun]

theorem run_storeVar1 {p : Addr} {z u : Value} {bytes : Nat} (hi : Inf P t z 1 bytes) (hv : v.oneCell' = true) (hc : w.cell? p = some u) (hf : w.frozen? p = false) : (storeVar t p v).run P w = .ok () (w.setCell p v) := by
  have h1 := hi.sizeOf (P := P) w
  have h2 : v.cells = #[v] := by cases v <;> first | rfl | simp [Value.oneCell'] at hv
  have h3 := Go.run_store P w p v .plain hv
  rw [hc] at h3
  simp only [hf] at h3
  have h4 : p.add 0 = p := by simp [Addr.add]
  simp only [storeVar, Sem.run_bind, h1, Result.andThen_ok, h2]
  simp [storeCells, h4, h3]
theorem Ls_store {b off T bytes : Nat} {cs : List Value} {z : Value} (hs : Sat B w (Blk b cs T :: L)) (hi : Inf P t z 1 bytes) (hx : ev E x = some (.pointer (some ⟨b, off, none⟩))) (hy : ev E y = some v) (hv : v.oneCell' = true) (hoff : Nat.blt off cs.length = true)
    (h : ∀ w', Sat B w' (Blk b (cs.set off v) T :: L) → Ls P ops n D E w' rest Q) : Ls P ops n D E w (⟨none, .store t x y, ty, ps, af, none⟩ :: rest) Q := by
  have hlt : off < cs.length := Nat.le_of_ble_eq_true hoff
  have hc := hs.blk_cell off (List.getElem?_eq_getElem hlt)
  refine Ls_skip0 (w' := w.setCell ⟨b, off, none⟩ v) ?_ (h _ (hs.set_cell off v))
  intro n D a dst ps af g ha
  have := run_storeVar1 (P := P) hi hv hc.1 hc.2
  simp [execOp, ha.eval hx, ha.eval hy, Instr.storeAt, Instr.sureAddr, this]
/-- A store into a row of one's own. -/
theorem Ls_storeOwn {g i T bytes nn c : Nat} {xs : List Value} {z : Value} (hs : Sat B w (Own T 1 (.slice (some ⟨g, 0, none⟩) nn c) nn xs :: L)) (hi : Inf P t z 1 bytes) (hx : ev E x = some (.pointer (some ⟨g, i, none⟩))) (hy : ev E y = some v) (hv : v.oneCell' = true) (hin : i < nn)
    (h : ∀ w', Sat B w' (Own T 1 (.slice (some ⟨g, 0, none⟩) nn c) nn (xs.set i v) :: L) → Ls P ops n D E w' rest Q) : Ls P ops n D E w (⟨none, .store t x y, ty, ps, af, none⟩ :: rest) Q := by
  obtain ⟨⟨u, hc⟩, hf⟩ := hs.own_cell i hin
  refine Ls_skip0 (w' := w.setCell ⟨g, i, none⟩ v) ?_ (h _ (hs.set_own i v))
  intro n D a dst ps af g ha
  have := run_storeVar1 (P := P) hi hv hc hf
  simp [execOp, ha.eval hx, ha.eval hy, Instr.storeAt, Instr.sureAddr, this]
/-- A whole struct stored over a block. -/
theorem Ls_storeAgg {b T size bytes : Nat} {cs us : List Value} {z : Value} (hs : Sat B w (Blk b cs T :: L)) (hi : Inf P t z size bytes) (hx : ev E x = some (.pointer (some ⟨b, 0, none⟩))) (hy : ev E y = some (.agg us.toArray)) (hu : us.length = size) (hc : cs.length = size) (hv : ∀ u ∈ us, u.oneCell' = true)
    (h : ∀ w', Sat B w' (Blk b us T :: L) → Ls P ops n D E w' rest Q) : Ls P ops n D E w (⟨none, .store t x y, ty, ps, af, none⟩ :: rest) Q := by
  have h1 := hi.sizeOf (P := P) w
  have key : ∀ (l : List Value) (i : Nat) (w0 : World) (c0 : List Value), Sat B w0 (Blk b c0 T :: L) → i + l.length = c0.length → (∀ u ∈ l, u.oneCell' = true) →
      ∃ w1, (storeCells ⟨b, 0, none⟩ l i).run P w0 = .ok () w1 ∧ Sat B w1 (Blk b (c0.take i ++ l) T :: L) := by
    intro l
    induction l with
    | nil =>
      intro i w0 c0 hs0 hl _
      exact ⟨w0, by simp [storeCells], by
        have : c0.take i = c0 := List.take_of_length_le (by simp at hl; omega)
        simpa [this] using hs0⟩
    | cons u l ih =>
      intro i w0 c0 hs0 hl hv0
      have hi : i < c0.length := by simp at hl; omega
      have hc := hs0.blk_cell i (List.getElem?_eq_getElem hi)
      have h3 := Go.run_store P w0 ⟨b, i, none⟩ u .plain (hv0 u (by simp))
      rw [hc.1] at h3
      simp only [hc.2] at h3
      obtain ⟨w1, hr1, hs1⟩ := ih (i + 1) _ _ (hs0.set_cell i u) (by simp at hl ⊢; omega) (fun q hq => hv0 q (by simp [hq]))
      refine ⟨w1, ?_, ?_⟩
      · have e1 : (⟨b, 0, none⟩ : Addr).add i = ⟨b, i, none⟩ := by rw [Addr.add_lit]; simp
        simp only [storeCells, Sem.run_bind, e1]
        simp only [h3, Bool.false_eq_true, if_false, Result.andThen_ok]
        exact hr1
      · have e2 : (c0.set i u).take (i + 1) ++ l = c0.take i ++ u :: l := by
          have e3 : (c0.set i u).take i = c0.take i := by
            apply List.ext_getElem?
            intro j
            simp only [List.getElem?_take]
            split
            · rw [List.getElem?_set_ne (by omega)]
            · rfl
          rw [List.take_succ_eq_append_getElem (by simpa using hi), e3]
          simp
        rw [e2] at hs1
        exact hs1
  obtain ⟨w1, hr1, hs1⟩ := key us 0 w cs hs (by omega) hv
  refine Ls_skip0 (w' := w1) ?_ (h w1 (by simpa using hs1))
  intro n D a dst ps af g ha
  have h4 : ¬ us.toArray.size ≠ size := by simp [hu]
  simp only [execOp, ha.eval hx, ha.eval hy, Instr.storeAt, Instr.sureAddr, Sem.run_bind, Sem.run_pure, Result.andThen_ok, storeVar, h1, Value.cells]
  simp only [if_neg h4]
  simp [hr1]
end
end Go.Proofs.Ytipkfdeiallifaa.Lg
