/-
  Rules: slices made with room, cells and structs stored into rows of one's own. No program in sight.
-/
import Derived.Test.YtipkfdeiallifaaMx
import Derived.Laws.MakeOwn
set_option linter.unusedVariables false
set_option linter.unusedSimpArgs false
namespace Go.Proofs.Ytipkfdeiallifaa.Lg
open Go Go.RowKit

theorem Sat.own_blk {B w : World} {T size g n c : Nat} {xs : List Value} {L : List Assn} (hs : Sat B w (Own T size (.slice (some ⟨g, 0, none⟩) n c) n xs :: L)) :
    ∃ cur : List Value, cur.length = c * size ∧ cur.take (n * size) = xs ∧ n ≤ c ∧ c ≤ maxLen ∧ xs.length = n * size ∧ Sat B w (Blk g cur T :: L) := by
  have h1 : Sat B w ((fun h => ∃ cur : List Value, (cur.length = c * size ∧ cur.take (n * size) = xs ∧ n ≤ c ∧ c ≤ maxLen ∧ xs.length = n * size) ∧ Blk g cur T h) :: L) := hs.imp (by
    rintro h ⟨hl, hA⟩
    rcases hA with ⟨h0, _⟩ | ⟨g', cap, cur, h0, h2, h3, h4, h5, hi⟩
    · cases h0
    · cases h0
      exact ⟨cur.toList, ⟨by simpa using h4, h5, h2, h3, hl⟩, by simpa [Blk] using hi⟩)
  obtain ⟨cur, h2⟩ := Sat.ex h1
  obtain ⟨⟨a, b, d, e, f⟩, h3⟩ := Sat.pure h2
  exact ⟨cur, a, b, d, e, f, h3⟩
theorem Sat.blk_own {B w : World} {T size g n c : Nat} {xs cur : List Value} {L : List Assn} (hs : Sat B w (Blk g cur T :: L)) (h1 : cur.length = c * size) (h2 : cur.take (n * size) = xs) (h3 : n ≤ c) (h4 : c ≤ maxLen) : Sat B w (Own T size (.slice (some ⟨g, 0, none⟩) n c) n xs :: L) := hs.imp (by
  intro h hb
  have hle : n * size ≤ c * size := Nat.mul_le_mul_right _ h3
  refine ⟨by rw [← h2, List.length_take]; omega, .inr ⟨g, c, cur.toArray, rfl, h3, h4, by simpa using h1, by simpa using h2, hb⟩⟩)

section
variable {P : Program} {ops : Array Oper} {n : Nat} {D : List Deferred} {E : Env} {B w : World} {L : List Assn} {Q : Exit → Act → World → Prop} {rest : List Oper} {ty : TypeId} {ps : String} {af : Array Edge} {d : Nat} {v : Value} {x y : Operand} {e t : TypeId}
theorem Ls_make0 {z : Value} {bytes size m : Nat} {k k' : IntKind} (hs : Sat B w L) (ht : P.underlying t = some (.slice e)) (hi : Inf P e z size bytes) (hsz : 0 < size)
    (hx : ev E x = some (.int k 0)) (hy : ev E y = some (.int k' (m : Int))) (hb : bytes * m ≤ 281474976710656) (h63 : m ≤ 9223372036854775807) (hd : Nat.blt d n = true)
    (h : ∀ b w', Sat B w' (Own e size (.slice (some ⟨b, 0, none⟩) 0 m) 0 [] :: L) → Ls P ops n D ((d, .slice (some ⟨b, 0, none⟩) 0 m) :: E) w' rest Q) : Ls P ops n D E w (⟨some d, .makeSlice t x y, ty, ps, af, none⟩ :: rest) Q := by
  obtain ⟨i, hi1, hi2, hi3, hi4⟩ := hi
  have hb' : (i.bytes : Int) * (m : Int) ≤ 281474976710656 := by
    have h : ((i.bytes * m : Nat) : Int) ≤ 281474976710656 := by rw [hi4]; omega
    rwa [Int.natCast_mul] at h
  have hrun := run_make (P := P) w t e i z ht hi1 hi2 k k' 0 m (by omega) (by omega) hb' (by omega)
  simp only [Int.toNat_natCast, Int.toNat_zero, hi3] at hrun
  have hal := hs.alloc (.cells (madeCells z.cells (m * size)) e (0, 0))
  have hown : Sat B (w.alloc (.cells (madeCells z.cells (m * size)) e (0, 0))) (Own e size (.slice (some ⟨w.heap.size, 0, none⟩) 0 m) 0 [] :: L) :=
    hal.imp fun h1 hA => ⟨by simp, .inr ⟨w.heap.size, m, _, rfl, Nat.zero_le _, by simp only [maxLen]; omega, size_madeCells _ _, by simp, hA⟩⟩
  refine Ls_run (v := .slice (some ⟨w.heap.size, 0, none⟩) 0 m) ?_ hd (h _ _ hown)
  intro n D a dst ps af g ha
  simp only [execOp, ha.eval hx, ha.eval hy, Sem.run_bind, hrun, Result.andThen_ok]
  rfl
/-- A whole struct stored into a block, from off on. -/
theorem Ls_storeAggAt {b off T size bytes : Nat} {cs us : List Value} {z : Value} (hs : Sat B w (Blk b cs T :: L)) (hi : Inf P t z size bytes) (hx : ev E x = some (.pointer (some ⟨b, off, none⟩))) (hy : ev E y = some (.agg us.toArray)) (hu : us.length = size) (hc : off + size ≤ cs.length) (hv : ∀ u ∈ us, u.oneCell' = true)
    (h : ∀ w', Sat B w' (Blk b (cs.take off ++ us ++ cs.drop (off + size)) T :: L) → Ls P ops n D E w' rest Q) : Ls P ops n D E w (⟨none, .store t x y, ty, ps, af, none⟩ :: rest) Q := by
  have h1 := hi.sizeOf (P := P) w
  have key : ∀ (l : List Value) (i : Nat) (w0 : World) (c0 : List Value), Sat B w0 (Blk b c0 T :: L) → off + i + l.length ≤ c0.length → (∀ u ∈ l, u.oneCell' = true) →
      ∃ w1, (storeCells ⟨b, off, none⟩ l i).run P w0 = .ok () w1 ∧ Sat B w1 (Blk b (c0.take (off + i) ++ l ++ c0.drop (off + i + l.length)) T :: L) := by
    intro l
    induction l with
    | nil =>
      intro i w0 c0 hs0 hl _
      exact ⟨w0, by simp [storeCells], by simpa using hs0⟩
    | cons u l ih =>
      intro i w0 c0 hs0 hl hv0
      have hi : off + i < c0.length := by simp at hl; omega
      have hc := hs0.blk_cell (off + i) (List.getElem?_eq_getElem hi)
      have h3 := Go.run_store P w0 ⟨b, off + i, none⟩ u .plain (hv0 u (by simp))
      rw [hc.1] at h3
      simp only [hc.2] at h3
      obtain ⟨w1, hr1, hs1⟩ := ih (i + 1) _ _ (hs0.set_cell (off + i) u) (by simp at hl ⊢; omega) (fun q hq => hv0 q (by simp [hq]))
      refine ⟨w1, ?_, ?_⟩
      · have e1 : (⟨b, off, none⟩ : Addr).add i = ⟨b, off + i, none⟩ := by rw [Addr.add_lit]
        simp only [storeCells, Sem.run_bind, e1]
        simp only [h3, Bool.false_eq_true, if_false, Result.andThen_ok]
        exact hr1
      · have e2 : (c0.set (off + i) u).take (off + (i + 1)) = c0.take (off + i) ++ [u] := by
          rw [← Nat.add_assoc, List.take_succ_eq_append_getElem (by simpa using hi), List.take_set_of_le (Nat.le_refl _)]
          simp
        have e3 : (c0.set (off + i) u).drop (off + (i + 1) + l.length) = c0.drop (off + i + (u :: l).length) := by
          rw [List.drop_set_of_lt (by omega)]
          congr 1
          simp; omega
        rw [e2, e3] at hs1
        simpa using hs1
  obtain ⟨w1, hr1, hs1⟩ := key us 0 w cs hs (by omega) hv
  refine Ls_skip0 (w' := w1) ?_ (h w1 (by simpa [hu] using hs1))
  intro n D a dst ps af g ha
  have h4 : ¬ us.toArray.size ≠ size := by simp [hu]
  simp only [execOp, ha.eval hx, ha.eval hy, Instr.storeAt, Instr.sureAddr, Sem.run_bind, Sem.run_pure, Result.andThen_ok, storeVar, h1, Value.cells]
  simp only [if_neg h4]
  simp [hr1]
/-- A cell of a row of structs of one's own. -/
theorem Ls_storeOwnC {g i T size bytes nn c : Nat} {xs : List Value} {z : Value} (hs : Sat B w (Own T size (.slice (some ⟨g, 0, none⟩) nn c) nn xs :: L)) (hi : Inf P t z 1 bytes) (hx : ev E x = some (.pointer (some ⟨g, i, none⟩))) (hy : ev E y = some v) (hv : v.oneCell' = true) (hin : i < nn * size)
    (h : ∀ w', Sat B w' (Own T size (.slice (some ⟨g, 0, none⟩) nn c) nn (xs.set i v) :: L) → Ls P ops n D E w' rest Q) : Ls P ops n D E w (⟨none, .store t x y, ty, ps, af, none⟩ :: rest) Q := by
  obtain ⟨cur, h1, h2, h3, h4, h5, hs1⟩ := hs.own_blk
  have hle : nn * size ≤ c * size := Nat.mul_le_mul_right _ h3
  refine Ls_store hs1 hi hx hy hv (by rw [Nat.blt_eq]; omega) (fun w' hs' => h w' (hs'.blk_own (by simpa using h1) ?_ h3 h4))
  rw [← h2, List.take_set]
/-- An element of a row of structs of one's own. -/
theorem Ls_storeOwnAgg {g k T bytes nn c : Nat} {α : Type} (K : El α) {l : List α} {x' : α} {z : Value} (hs : Sat B w (Own T K.size (.slice (some ⟨g, 0, none⟩) nn c) nn (K.flat l) :: L)) (hi : Inf P t z K.size bytes) (hx : ev E x = some (.pointer (some ⟨g, k * K.size, none⟩))) (hy : ev E y = some (.agg (K.enc x').toArray)) (hv : ∀ u ∈ K.enc x', u.oneCell' = true) (hl : l.length = nn) (hk : k < nn)
    (h : ∀ w', Sat B w' (Own T K.size (.slice (some ⟨g, 0, none⟩) nn c) nn (K.flat (l.set k x')) :: L) → Ls P ops n D E w' rest Q) : Ls P ops n D E w (⟨none, .store t x y, ty, ps, af, none⟩ :: rest) Q := by
  obtain ⟨cur, h1, h2, h3, h4, h5, hs1⟩ := hs.own_blk
  have hle : nn * K.size ≤ c * K.size := Nat.mul_le_mul_right _ h3
  have hle2 : (k + 1) * K.size ≤ nn * K.size := Nat.mul_le_mul_right _ hk
  rw [Nat.add_mul, Nat.one_mul] at hle2
  have hlen : (K.enc x').length = K.size := K.len x'
  refine Ls_storeAggAt hs1 hi hx hy (K.len x') (by omega) hv (fun w' hs' => h w' (hs'.blk_own ?_ ?_ h3 h4))
  · simp only [List.length_append, List.length_take, List.length_drop, hlen]; omega
  · have e1 : K.flat (l.set k x') = (K.flat l).take (k * K.size) ++ K.enc x' ++ (K.flat l).drop (k * K.size + K.size) := by
      have hk' : k < l.length := by omega
      have hA : l = l.take k ++ l[k] :: l.drop (k + 1) := by simp
      have hS : l.set k x' = l.take k ++ x' :: l.drop (k + 1) := List.set_eq_take_append_cons_drop .. |>.trans (by rw [if_pos hk'])
      have hf1 : K.flat l = K.flat (l.take k) ++ (K.enc l[k] ++ K.flat (l.drop (k + 1))) := by
        have e := congrArg K.flat hA
        rw [El.flat_append] at e
        exact e
      have hlk : (K.flat (l.take k)).length = k * K.size := by rw [El.flat_length, List.length_take]; congr 1; omega
      have he : (K.enc l[k]).length = K.size := K.len _
      rw [hS, hf1]
      have t1 : (K.flat (l.take k) ++ (K.enc l[k] ++ K.flat (l.drop (k + 1)))).take (k * K.size) = K.flat (l.take k) := by rw [← hlk, List.take_left]
      have t2 : (K.flat (l.take k) ++ (K.enc l[k] ++ K.flat (l.drop (k + 1)))).drop (k * K.size + K.size) = K.flat (l.drop (k + 1)) := by
        rw [← List.drop_drop, ← hlk, List.drop_left, ← he, List.drop_left]
      rw [t1, t2]
      simp [El.flat]
    rw [e1, ← h2]
    have hm : min (k * K.size) (nn * K.size) = k * K.size := by omega
    rw [List.take_take, hm]
    have hq : (cur.take (k * K.size) ++ K.enc x').length = k * K.size + K.size := by simp only [List.length_append, List.length_take, hlen]; omega
    rw [List.take_append, hq, List.take_of_length_le (by omega), List.drop_take]
end
end Go.Proofs.Ytipkfdeiallifaa.Lg
