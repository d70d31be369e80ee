/-
  Structs compared; slices of slices that are owned, row by row. No program in sight.
-/
import Derived.Test.YtipkfdeiallifaaBd
import Derived.Laws.StructEq
set_option linter.unusedVariables false
set_option linter.unusedSimpArgs false
namespace Go.Proofs.Ytipkfdeiallifaa.Lg
open Go Go.RowKit
section
variable {P : Program} {E : Env} {w : World} {ty t t' : TypeId} {x y : Operand} {d off : Nat} {xs ys : Array Value} {a b : Value} {r r1 r2 : Bool} {f : Field} {fs : List Field}
def EqT (P : Program) (d : Nat) (t : TypeId) (a b : Value) (r : Bool) : Prop := ∀ w, (Op.equalIn d t a b).run P w = .ok r w
def EqF (P : Program) (d : Nat) (xs ys : Array Value) (fs : List Field) (r : Bool) : Prop := ∀ w, (Op.eqFields d xs ys fs).run P w = .ok r w
theorem EqF.nil : EqF P d xs ys [] true := fun w => by simp [Op.eqFields]
theorem EqF.cons (hn : (f.name == "_") = false) (ha : ∀ w, (part f.type xs f.offset).run P w = .ok a w) (hb : ∀ w, (part f.type ys f.offset).run P w = .ok b w) (h1 : EqT P d f.type a b r1) (h2 : EqF P d xs ys fs r2) : EqF P d xs ys (f :: fs) (r1 && r2) := fun w => by
  have hn' : f.name ≠ "_" := by simpa using hn
  simp only [Op.eqFields, if_pos hn', Sem.run_bind, ha w, hb w, h1 w, Result.andThen_ok]
  cases r1
  · simp
  · simpa using h2 w
theorem part_sc (ht : Scalar P t) (hx : xs[off]? = some a) : ∀ w, (part t xs off).run P w = .ok a w := fun w => by
  simp only [part, Sem.run_bind, ht.isAgg w, Result.andThen_ok, Bool.false_eq_true, if_false, hx, Sem.run_pure]
theorem part_agg {size bytes : Nat} {zv : Value} {cs : Array Value} (ht : (∃ fs, P.underlying t = some (.struct fs)) ∨ (∃ n e, P.underlying t = some (.array n e))) (hi : Inf P t zv size bytes) (hx : xs.extract off (off + size) = cs) : ∀ w, (part t xs off).run P w = .ok (.agg cs) w := fun w => by
  simp only [part, Sem.run_bind, isAgg_agg ht w, Result.andThen_ok, if_true, hi.sizeOf w, hx, Sem.run_pure]
theorem EqT.int {k k' : IntKind} {m n : Int} (h : P.underlying t = some (.int k')) : EqT P (d + 1) t (.int k m) (.int k n) (m == n) := fun w => run_equalIn_int w d t k k' m n h
theorem EqT.bool {m n : Bool} (h : P.underlying t = some .bool) : EqT P (d + 1) t (.bool m) (.bool n) (m == n) := fun w => run_equalIn_bool' w d t m n h
theorem EqT.str {m n : ByteArray} (h : P.underlying t = some .string) : EqT P (d + 1) t (.string m) (.string n) (m.toList == n.toList) := fun w => run_equalIn_string w d t m n h
theorem EqT.struct {fa : Array Field} (ht : P.underlying t = some (.struct fa)) (hp : P.stoodInHeld t = false) (hf : EqF P d xs ys fa.toList r) : EqT P (d + 1) t (.agg xs) (.agg ys) r := fun w => by
  have e : P.fieldsOf t = fa := by simp [Program.fieldsOf, ht]
  rw [run_equalIn_struct w d t xs ys (by rw [e]; exact ht) hp, e]
  exact hf w
theorem run_neq_agg (hx : ev E x = some (.agg xs)) (hy : ev E y = some (.agg ys)) (hg : P.eqGuardType P.depth t = false) (he : EqT P 10000 t (.agg xs) (.agg ys) r) : RunO P E (.binOp .neq t x y t') ty w (.bool (!r)) w := fun n D a' dst ps af g ha => by
  simp only [execOp, ha.eval hx, ha.eval hy, run_eqGuard_agg w _ t _ _ xs ys hg, run_neq_struct, he w, Sem.run_bind, Sem.run_pure, Result.andThen_ok]
theorem run_eql_agg (hx : ev E x = some (.agg xs)) (hy : ev E y = some (.agg ys)) (hg : P.eqGuardType P.depth t = false) (he : EqT P 10000 t (.agg xs) (.agg ys) r) : RunO P E (.binOp .eql t x y t') ty w (.bool r) w := fun n D a' dst ps af g ha => by
  simp only [execOp, ha.eval hx, ha.eval hy, run_eqGuard_agg w _ t _ _ xs ys hg, run_eql_struct, he w, Sem.run_bind, Sem.run_pure, Result.andThen_ok]
end

/-! Rows, each owned. -/
abbrev nilV : Value := .slice none 0 0
section
variable {α : Type}
def rowsA (T : TypeId) (K : El α) : List Value → List (List α) → List Assn
  | v :: vs, x :: xs => Own T K.size v x.length (K.flat x) :: rowsA T K vs xs
  | _, _ => []
theorem rowsA_get (T : TypeId) (K : El α) : ∀ (vs : List Value) (xss : List (List α)) (k : Nat), vs.length = xss.length → k < vs.length →
    (rowsA T K vs xss)[k]? = some (Own T K.size (vs.getD k nilV) (xss.getD k []).length (K.flat (xss.getD k [])))
  | v :: vs, x :: xs, 0, _, _ => by simp [rowsA]
  | v :: vs, x :: xs, k + 1, h, hk => by simpa [rowsA] using rowsA_get T K vs xs k (by simpa using h) (by simpa using hk)
  | [], _, _, _, hk => by simp at hk
  | _ :: _, [], _, h, _ => by simp at h
theorem rowsA_put (T : TypeId) (K : El α) (v' : Value) (x' : List α) : ∀ (vs : List Value) (xss : List (List α)) (k : Nat), vs.length = xss.length → k < vs.length →
    (Own T K.size v' x'.length (K.flat x') :: (rowsA T K vs xss).eraseIdx k).Perm (rowsA T K (vs.set k v') (xss.set k x'))
  | v :: vs, x :: xs, 0, _, _ => by simp [rowsA]
  | v :: vs, x :: xs, k + 1, h, hk => by
    have ih := rowsA_put T K v' x' vs xs k (by simpa using h) (by simpa using hk)
    simp only [rowsA, List.eraseIdx_cons_succ, List.set_cons_succ]
    exact (List.Perm.swap _ _ _).trans (ih.cons _)
  | [], _, _, _, hk => by simp at hk
  | _ :: _, [], _, h, _ => by simp at h
theorem rowsA_snoc (T : TypeId) (K : El α) (v' : Value) (x' : List α) : ∀ (vs : List Value) (xss : List (List α)), vs.length = xss.length →
    (Own T K.size v' x'.length (K.flat x') :: rowsA T K vs xss).Perm (rowsA T K (vs ++ [v']) (xss ++ [x']))
  | [], [], _ => by simp [rowsA]
  | v :: vs, x :: xs, h => by
    have ih := rowsA_snoc T K v' x' vs xs (by simpa using h)
    simp only [rowsA, List.cons_append]
    exact (List.Perm.swap _ _ _).trans (ih.cons _)
  | [], _ :: _, h => by simp at h
  | _ :: _, [], h => by simp at h
theorem eraseIdx_app {β : Type} (pre L : List β) (k : Nat) : (pre ++ L).eraseIdx (pre.length + k) = pre ++ L.eraseIdx k := by
  induction pre with
  | nil => simp
  | cons a pre ih => simp only [List.cons_append, List.length_cons, Nat.add_right_comm, List.eraseIdx_cons_succ, ih]
variable {B w : World} {pre : List Assn} {T : TypeId} {K : El α} {vs : List Value} {xss : List (List α)}
theorem Sat.row_out (k : Nat) (hs : Sat B w (pre ++ rowsA T K vs xss)) (hl : vs.length = xss.length) (hk : k < vs.length) : Sat B w (Own T K.size (vs.getD k nilV) (xss.getD k []).length (K.flat (xss.getD k [])) :: (pre ++ (rowsA T K vs xss).eraseIdx k)) := by
  have h := hs.front (pre.length + k) (by rw [List.getElem?_append_right (by omega), Nat.add_sub_cancel_left]; exact rowsA_get T K vs xss k hl hk)
  rwa [eraseIdx_app] at h
theorem Sat.row_in (k : Nat) {v' : Value} {n' : Nat} {c' : List Value} (x' : List α) (hs : Sat B w (Own T K.size v' n' c' :: (pre ++ (rowsA T K vs xss).eraseIdx k))) (hn : n' = x'.length) (hc : c' = K.flat x') (hl : vs.length = xss.length) (hk : k < vs.length) :
    Sat B w (pre ++ rowsA T K (vs.set k v') (xss.set k x')) := by
  subst hn hc
  refine hs.perm (List.Perm.trans ?_ (List.Perm.append_left pre (rowsA_put T K v' x' vs xss k hl hk)))
  exact (List.perm_middle).symm
theorem Sat.row_add {v' : Value} {n' : Nat} {c' : List Value} (x' : List α) (hs : Sat B w (Own T K.size v' n' c' :: (pre ++ rowsA T K vs xss))) (hn : n' = x'.length) (hc : c' = K.flat x') (hl : vs.length = xss.length) :
    Sat B w (pre ++ rowsA T K (vs ++ [v']) (xss ++ [x'])) := by
  subst hn hc
  refine hs.perm (List.Perm.trans ?_ (List.Perm.append_left pre (rowsA_snoc T K v' x' vs xss hl)))
  exact (List.perm_middle).symm
theorem Sat.rows_nil (T : TypeId) (K : El α) (n : Nat) (hs : Sat B w pre) : Sat B w (pre ++ rowsA T K (List.replicate n nilV) (List.replicate n [])) := by
  induction n with
  | zero => simpa [rowsA] using hs
  | succ n ih =>
    have := ih.own_nil T K.size
    simp only [List.replicate_succ, rowsA]
    exact this.perm (List.perm_middle).symm
/-- What slices of rows show. -/
def PartsK (K : El α) (w : World) (vs : List Value) (xss : List (List α)) : Prop :=
  vs.length = xss.length ∧ ∀ i, i < xss.length → ∃ A n c, vs.getD i nilV = .slice A n c ∧ Rd w A n c K.size (K.flat (xss.getD i []))
theorem PartsK.grow {w w' : World} (h : PartsK K w vs xss) (hb : Below w.heap.size w w') : PartsK K w' vs xss :=
  ⟨h.1, fun i hi => let ⟨A, n, c, e, r⟩ := h.2 i hi; ⟨A, n, c, e, r.grow hb⟩⟩
theorem PartsK.inB {L : List Assn} (h : PartsK K B vs xss) (hs : Sat B w L) : PartsK K w vs xss := h.grow hs.below
theorem PartsK.nil (K : El α) (w : World) : PartsK K w [] [] := ⟨rfl, fun i hi => by simp at hi⟩
theorem PartsK.cons {A : Option Addr} {n c : Nat} {l : List α} (hr : Rd w A n c K.size (K.flat l)) (h : PartsK K w vs xss) : PartsK K w (.slice A n c :: vs) (l :: xss) :=
  ⟨by simp [h.1], fun i hi => by
    cases i with
    | zero => exact ⟨A, n, c, rfl, hr⟩
    | succ i => simpa using h.2 i (by simpa using hi)⟩
theorem Sat.parts (hs : Sat B w (pre ++ rowsA T K vs xss)) (hl : vs.length = xss.length) : PartsK K w vs xss := ⟨hl, fun i hi => by
  have h := hs.row_out i hl (by omega)
  obtain ⟨A, c, hv, _⟩ := h.own_form
  rw [hv] at h
  exact ⟨A, _, c, hv, h.rd⟩⟩
end
end Go.Proofs.Ytipkfdeiallifaa.Lg
