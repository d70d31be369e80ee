/-
  A map of integers that the call itself has made: what stands at each key. Plain theorems over the kit's own rules; no program in sight.
-/
import Derived.Test.YtipkfdeiallifaaOb
import Derived.Maps.Own
set_option linter.unusedVariables false
set_option linter.unusedSimpArgs false
namespace Go.Proofs.Ytipkfdeiallifaa.Lg
open Go Go.RowKit Go.ChangeMaps Go.MapKept
open Go.WideElems (Fit rd rg pl rd_val elemAt)
open Go.Maps (Keyed)
theorem find_insert_same {H : Type} (k : Lit) (d : DataW H) : ∀ l : List (Lit × DataW H), (∀ p ∈ l, p.1.sameKey k = false) → k.sameKey k = true → (DataW.insert (k, d) l).find? (fun p => p.1.sameKey k) = some (k, d)
  | [], _, hk => by simp [DataW.insert, hk]
  | y :: r, h, hk => by
    unfold DataW.insert
    split
    · simp [hk]
    · have hy := h y (by simp)
      rw [List.find?_cons, hy]
      exact find_insert_same k d r (fun p hp => h p (by simp [hp])) hk
theorem find_insert_ne {H : Type} (x : Lit × DataW H) (k : Lit) (hx : x.1.sameKey k = false) : ∀ l : List (Lit × DataW H), (DataW.insert x l).find? (fun p => p.1.sameKey k) = l.find? (fun p => p.1.sameKey k)
  | [] => by simp [DataW.insert, hx]
  | y :: r => by
    unfold DataW.insert
    split
    · rw [List.find?_cons, hx]
    · rw [List.find?_cons, List.find?_cons, find_insert_ne x k hx r]
theorem find_filter {H : Type} (k k2 : Lit) (hne : ∀ p : Lit × DataW H, p.1.sameKey k2 = true → p.1.sameKey k = false) : ∀ l : List (Lit × DataW H), (l.filter fun p => !p.1.sameKey k).find? (fun p => p.1.sameKey k2) = l.find? (fun p => p.1.sameKey k2)
  | [] => rfl
  | y :: r => by
    rw [List.filter_cons]
    split
    · rw [List.find?_cons, List.find?_cons, find_filter k k2 hne r]
    · rename_i h
      rw [find_filter k k2 hne r, List.find?_cons]
      have h1 : y.1.sameKey k = true := by simpa using h
      cases h2 : y.1.sameKey k2
      · rfl
      · rw [hne y h2] at h1; cases h1
theorem atKey_put_same {H : Type} (es : List (Lit × DataW H)) (a : Int) (d z : DataW H) : ((DataW.map es).put (.int .i64 a) d).atKey (.int .i64 a) z = d := by
  unfold DataW.put DataW.atKey
  simp only
  rw [find_insert_same]
  · intro p hp
    have := (List.mem_filter.1 hp).2
    simpa using this
  · simp [Lit.sameKey]
theorem atKey_put_ne {H : Type} (es : List (Lit × DataW H)) {a c : Int} (h : c ≠ a) (d z : DataW H) : ((DataW.map es).put (.int .i64 a) d).atKey (.int .i64 c) z = (DataW.map es).atKey (.int .i64 c) z := by
  unfold DataW.put DataW.atKey
  simp only
  rw [find_insert_ne _ _ (by simp [Lit.sameKey]; omega), find_filter]
  intro p hp
  cases hq : p.1 <;> simp [Lit.sameKey, hq] at hp ⊢
  omega
theorem wfi {x : Int} (h : -9223372036854775808 ≤ x ∧ x ≤ 9223372036854775807) : (Lit.int .i64 x).wf = true := by
  simp [Lit.wf, IntKind.min, IntKind.max, IntKind.bits, IntKind.signed]; omega
/-- A map of integers at block b: at most n entries; what stands at each key. -/
def MapI (P : Program) (k : TypeId) (b n : Nat) (f : Int → Int) : Assn := fun h => ∃ es clock, Is b (.map es clock) h ∧ Fit (H := Unit) P k (plainElem P k) es clock ∧ es.size ≤ n ∧
  ∀ key, (DataW.map ((es.toList.map (rg (H := Unit) P k (plainElem P k))).foldr DataW.insert [])).atKey (.int .i64 key) (.lit (.int .i64 0)) = .lit (.int .i64 (f key))
section
variable {P : Program} {ops : Array Oper} {n : Nat} {D : List Deferred} {E : Env} {B w : World} {L : List Assn} {Q : Exit → Act → World → Prop} {rest : List Oper} {ty k t : TypeId} {ps : String} {af : Array Edge} {d : Nat} {x y z : Operand}
theorem Sat.mapi {b m : Nat} {f : Int → Int} (hs : Sat B w (MapI P k b m f :: L)) : ∃ D : DataW Unit, w.ownsMap P k (plainElem P k) b m D ∧ (∃ es, D = .map es) ∧ B.heap.size ≤ b ∧ ∀ key, D.atKey (.int .i64 key) (.lit (.int .i64 0)) = .lit (.int .i64 (f key)) := by
  obtain ⟨es, h1⟩ := Sat.ex (A := fun es h => ∃ clock, Is b (.map es clock) h ∧ Fit (H := Unit) P k (plainElem P k) es clock ∧ es.size ≤ m ∧ ∀ key, (DataW.map ((es.toList.map (rg (H := Unit) P k (plainElem P k))).foldr DataW.insert [])).atKey (.int .i64 key) (.lit (.int .i64 0)) = .lit (.int .i64 (f key))) hs
  obtain ⟨clock, h2⟩ := Sat.ex (A := fun clock h => Is b (.map es clock) h ∧ Fit (H := Unit) P k (plainElem P k) es clock ∧ es.size ≤ m ∧ ∀ key, (DataW.map ((es.toList.map (rg (H := Unit) P k (plainElem P k))).foldr DataW.insert [])).atKey (.int .i64 key) (.lit (.int .i64 0)) = .lit (.int .i64 (f key))) h1
  obtain ⟨⟨F, hsz, hat⟩, h3⟩ := Sat.pure (p := Fit (H := Unit) P k (plainElem P k) es clock ∧ es.size ≤ m ∧ ∀ key, (DataW.map ((es.toList.map (rg (H := Unit) P k (plainElem P k))).foldr DataW.insert [])).atKey (.int .i64 key) (.lit (.int .i64 0)) = .lit (.int .i64 (f key))) (A := Is b (.map es clock)) (h2.imp fun h hh => ⟨hh.2, hh.1⟩)
  have hb := h3.is_get
  exact ⟨_, ⟨es, clock, hb.2, F, hsz, rfl⟩, ⟨_, rfl⟩, hb.1, hat⟩
theorem run_lookup_i {b m : Nat} {f : Int → Int} {key : Int} (hs : Sat B w (MapI P k b m f :: L)) (ht : P.underlying t = some (.map k k)) (hk : P.underlying k = some (.int .i64)) (hi : Inf P k (.int .i64 0) 1 8) (hx : ev E x = some (.map (some b))) (hy : ev E y = some (.int .i64 key))
    (hw : -9223372036854775808 ≤ key ∧ key ≤ 9223372036854775807) : RunO P E (.lookup t x y false) ty w (.int .i64 (f key)) w := fun n D a dst ps af g ha => by
  obtain ⟨D', h1, _, _, hat⟩ := hs.mapi
  have hz : (zeroValue k).run P w = .ok (.int .i64 0) w := by
    obtain ⟨i, hi1, hi2, _⟩ := hi
    simp [zeroValue, typeInfo, hi1, hi2]
  obtain ⟨c, hrun, hc, _⟩ := h1.lookup_int (Go.Maps.int_keyed hk) ht hk hz (key := .int .i64 key) (kl := .int .i64 key) (Go.Maps.keyOf_int_mk hk (wfi (by omega)))
  have e : c = f key := by
    have h2 := hat key
    rw [hc] at h2
    simpa using h2
  subst e
  simp [execOp, ha.eval hx, ha.eval hy, hrun]
theorem Ls_makeMap (hs : Sat B w L) (hd : Nat.blt d n = true) (h : ∀ b w', Sat B w' (MapI P k b 0 (fun _ => 0) :: L) → Ls P ops n D ((d, .map (some b)) :: E) w' rest Q) : Ls P ops n D E w (⟨some d, .makeMap t none, ty, ps, af, none⟩ :: rest) Q := by
  have hal := hs.alloc (.map #[] 0)
  refine Ls_run (v := .map (some w.heap.size)) (w' := w.alloc (.map #[] 0)) ?_ hd (h _ _ (hal.imp fun h hh => ⟨#[], 0, hh, ⟨by simp, stamped_empty 0, by simp⟩, Nat.le_refl _, fun key => rfl⟩))
  intro n D a dst ps af g ha
  simp [execOp, Instr.makeMap]
theorem Ls_mapset {b m : Nat} {f : Int → Int} {key val : Int} (hs : Sat B w (MapI P k b m f :: L)) (ht : P.underlying t = some (.map k k)) (hk : P.underlying k = some (.int .i64)) (hx : ev E x = some (.map (some b))) (hy : ev E y = some (.int .i64 key)) (hz : ev E z = some (.int .i64 val))
    (hw : -9223372036854775808 ≤ key ∧ key ≤ 9223372036854775807) (hw2 : -9223372036854775808 ≤ val ∧ val ≤ 9223372036854775807) (hm : m < 9223372036854775807)
    (h : ∀ w', Sat B w' (MapI P k b (m + 1) (fun q => if q = key then val else f q) :: L) → Ls P ops n D E w' rest Q) : Ls P ops n D E w (⟨none, .mapUpdate t x y z, ty, ps, af, none⟩ :: rest) Q := by
  obtain ⟨D', h1, ⟨es0, rfl⟩, hB, hat⟩ := hs.mapi
  obtain ⟨w', hrun, hown, hg⟩ := h1.update (Go.Maps.int_keyed hk) ht (by show m < maxLen; have e : maxLen = 9223372036854775807 := rfl; omega) (key := .int .i64 key) (val := .int .i64 val) (kl := .int .i64 key) (Go.Maps.keyOf_int_mk hk (wfi (by omega))) (plainElem_int hk (wfi (by omega)))
  have hlt := h1.lt
  refine Ls_skip0 (w' := w') ?_ (h _ ?_)
  · intro n D a dst ps af g ha
    simp [execOp, ha.eval hx, ha.eval hy, ha.eval hz, hrun]
  · obtain ⟨es, clock, hb, F, hsz, hD⟩ := hown
    refine hs.step hg.os hg.tape hg.output hg.size fun h1 hA hin => ?_
    obtain ⟨es1, clock1, hIs, _⟩ := hA
    refine ⟨fun b' => if b' = b then some (.map es clock) else none, ⟨es, clock, fun b' => rfl, F, hsz, fun key' => ?_⟩, fun b' o hb' => ?_, fun b' hb' hn => ?_⟩
    · rw [← hD]
      simp only
      by_cases e : key' = key
      · subst e; rw [atKey_put_same, if_pos rfl]
      · rw [atKey_put_ne _ e, if_neg e]; exact hat key'
    · simp only at hb'
      split at hb'
      · rename_i e; subst e; cases hb'
        exact ⟨.inl (by rw [hIs]; simp), hb⟩
      · cases hb'
    · refine hg.block b' hb' fun e => ?_
      cases e
      rw [hIs] at hn
      simp at hn
end
end Go.Proofs.Ytipkfdeiallifaa.Lg
