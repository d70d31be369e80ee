/-
  Objects: parts of memory under one name. No program in sight.
-/
import Derived.Test.YtipkfdeiallifaaKp
set_option linter.unusedVariables false
set_option linter.unusedSimpArgs false
namespace Go.Proofs.Ytipkfdeiallifaa.Lg
open Go Go.RowKit
theorem run_nilCheck {P : Program} {E : Env} {ty : TypeId} {w : World} {x : Operand} {a : Addr} (hx : ev E x = some (.pointer (some a))) : RunO P E (.nilCheck x) ty w (.pointer (some a)) w := fun n D a' dst ps af g ha => by
  simp [execOp, ha.eval hx]
theorem Stars.mk_app : ∀ {M L : List Assn} {h h1 h2 : Heap}, Stars M h1 → Stars L h2 → (∀ b, h1 b = none ∨ h2 b = none) → (∀ b, h b = (h1 b).or (h2 b)) → Stars (M ++ L) h
  | [], L, h, h1, h2, hM, hL, hd, he => by
    have : h = h2 := funext fun b => by rw [he b, hM b]; simp
    rw [this]; exact hL
  | A :: M, L, h, h1, h2, ⟨h3, h4, hA, hM, hd2, he2⟩, hL, hd, he =>
    ⟨h3, fun b => (h4 b).or (h2 b), hA, Stars.mk_app hM hL (fun b => o_app1 (he2 b) (hd b)) (fun _ => rfl), fun b => o_app2 (he2 b) (hd2 b) (hd b), fun b => by rw [he b]; exact o_app3 (he2 b)⟩
/-- Many parts as one. -/
theorem Sat.pack {B w : World} {M L : List Assn} (hs : Sat B w (M ++ L)) : Sat B w ((fun h => Stars M h) :: L) := by
  obtain ⟨hb, h, hL, hw⟩ := hs
  obtain ⟨h1, h2, h3, h4, hd, he⟩ := Stars.app hL
  exact ⟨hb, h, ⟨h1, h2, h3, h4, hd, he⟩, hw⟩
theorem Sat.unpack {B w : World} {M L : List Assn} (hs : Sat B w ((fun h => Stars M h) :: L)) : Sat B w (M ++ L) := by
  obtain ⟨hb, h, ⟨h1, h2, h3, h4, hd, he⟩, hw⟩ := hs
  exact ⟨hb, h, Stars.mk_app h3 h4 hd he, hw⟩
/-- An object: some choice of what is not told, and the parts that it then has. -/
def Thing {σ : Type} (p : σ → Prop) (M : σ → List Assn) : Assn := fun h => ∃ s, p s ∧ Stars (M s) h
theorem Sat.openObj {σ : Type} {B w : World} {p : σ → Prop} {M : σ → List Assn} {L : List Assn} (hs : Sat B w (Thing p M :: L)) : ∃ s, p s ∧ Sat B w (M s ++ L) := by
  obtain ⟨s, h1⟩ := Sat.ex (A := fun s h => p s ∧ Stars (M s) h) hs
  obtain ⟨h2, h3⟩ := Sat.pure h1
  exact ⟨s, h2, h3.unpack⟩
theorem Sat.shutObj {σ : Type} {B w : World} {p : σ → Prop} {M : σ → List Assn} {L : List Assn} (s : σ) (hp : p s) (hs : Sat B w (M s ++ L)) : Sat B w (Thing p M :: L) :=
  hs.pack.imp fun h hh => ⟨s, hp, hh⟩
theorem perm_rows {a b : Assn} {R L : List Assn} : ((a :: b :: R) ++ L).Perm (a :: b :: (L ++ R)) := List.Perm.cons a (List.Perm.cons b List.perm_append_comm)
/-- One block, read: what is owned around it does not matter. -/
theorem Sat.ofBlk {w : World} {b T : Nat} {cs : List Value} (h : w.heap[b]? = some (.cells cs.toArray T (0, 0))) : Sat { w with heap := #[] } w [Blk b cs T] := by
  refine ⟨⟨rfl, rfl, rfl, by simp, fun k hk => by simp at hk⟩, fun b' => if b' = b then some (.cells cs.toArray T (0, 0)) else none, ⟨_, fun _ => none, fun _ => rfl, fun _ => rfl, fun _ => .inr rfl, fun b' => by simp⟩, fun b' o ho => ⟨by simp, ?_⟩⟩
  by_cases e : b' = b
  · subst e; simp at ho; subst ho; exact h
  · simp [e] at ho
section
variable {α : Type} {B w : World} {pre : List Assn} {T : TypeId} {K : El α} {vs : List Value} {xss : List (List α)}
/-- A row gives way to another. -/
theorem Sat.row_swap (k : Nat) {v' : Value} {n' : Nat} {c' : List Value} (x' : List α) (hs : Sat B w (Own T K.size v' n' c' :: (pre ++ rowsA T K vs xss))) (hn : n' = x'.length) (hc : c' = K.flat x') (hl : vs.length = xss.length) (hk : k < vs.length) :
    Sat B w (pre ++ rowsA T K (vs.set k v') (xss.set k x')) :=
  Sat.row_in k x' (Sat.row_out (pre := Own T K.size v' n' c' :: pre) k hs hl hk).tail hn hc hl hk
end
/-- What can be read beside anything that leaves L as it is. -/
theorem Sat.rdL {B w : World} {pre R L : List Assn} {F : World → Prop} (hF : ∀ w' X, Sat B w' (X :: L) → F w') (hs : Sat B w (pre ++ (L ++ R))) : F w :=
  hF w _ (Sat.pack (M := pre ++ R) (hs.perm (by rw [List.append_assoc]; exact List.Perm.append_left pre List.perm_append_comm)))
end Go.Proofs.Ytipkfdeiallifaa.Lg
