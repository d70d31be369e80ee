/-
  What is owned and only read: kept as a fact. No program in sight.
-/
import Derived.Test.YtipkfdeiallifaaMk
set_option linter.unusedVariables false
set_option linter.unusedSimpArgs false
namespace Go.Proofs.Ytipkfdeiallifaa.Lg
open Go Go.RowKit
/-- A part of memory in which F can be read, whatever lies around it. -/
def Keep (F : World → Prop) : Assn := fun h => ∀ w : World, (∀ b o, h b = some o → w.heap[b]? = some o) → F w
theorem Stars.app : ∀ {L1 L : List Assn} {h : Heap}, Stars (L1 ++ L) h → ∃ h1 h2, Stars L1 h1 ∧ Stars L h2 ∧ (∀ b, h1 b = none ∨ h2 b = none) ∧ ∀ b, h b = (h1 b).or (h2 b)
  | [], L, h, hs => ⟨fun _ => none, h, fun _ => rfl, hs, fun _ => .inl rfl, fun b => by simp⟩
  | A :: L1, L, h, hs => by
    obtain ⟨h1, h2, hA, hL, hd, he⟩ := hs
    obtain ⟨h3, h4, h3L, h4L, hd2, he2⟩ := Stars.app (L1 := L1) hL
    exact ⟨fun b => (h1 b).or (h3 b), h4, ⟨h1, h3, hA, h3L, fun b => o_join1 (hd b) (he2 b) (hd2 b), fun _ => rfl⟩, h4L, fun b => o_join2 (hd b) (he2 b) (hd2 b), fun b => o_join3 (he b) (he2 b)⟩
theorem Sat.toKeep {B w : World} {L1 L : List Assn} {F : World → Prop} (hF : ∀ B w, Sat B w L1 → F w) (hs : Sat B w (L1 ++ L)) : Sat B w (Keep F :: L) := by
  obtain ⟨hb, h, hL, hw⟩ := hs
  obtain ⟨h1, h2, h3, h4, hd, he⟩ := Stars.app hL
  refine ⟨hb, h, ⟨h1, h2, fun w' hw' => hF { w' with heap := #[] } w' ⟨⟨rfl, rfl, rfl, by simp, fun k hk => by simp at hk⟩, h1, h3, fun b o hbo => ⟨by simp, hw' b o hbo⟩⟩, h4, hd, he⟩, hw⟩
theorem Sat.kept {B w : World} {L : List Assn} {F : World → Prop} (hs : Sat B w L) (i : Nat) (hi : L[i]? = some (Keep F)) : F w := by
  obtain ⟨h1, hA, hw⟩ := (hs.front i hi).head
  exact hA w (fun b o hbo => (hw b o hbo).2)
theorem Sat.rotL {B w : World} {a : Assn} {R L : List Assn} (hs : Sat B w ((a :: R) ++ L)) : Sat B w (a :: (L ++ R)) := hs.perm (List.Perm.cons a List.perm_append_comm)

/-! Rows that turn one after another. -/
section
variable {α : Type}
def mix (f g : List α → List α) (D : List (List α)) (i : Nat) : List (List α) := (D.take i).map f ++ (D.drop i).map g
variable {f g : List α → List α} {D : List (List α)} {i : Nat}
theorem mix_len : (mix f g D i).length = D.length := by simp only [mix, List.length_append, List.length_map, List.length_take, List.length_drop]; omega
theorem mix_0 : mix f g D 0 = D.map g := by simp [mix]
theorem mix_all : mix f g D D.length = D.map f := by simp [mix]
theorem mix_getD (hi : i < D.length) : (mix f g D i).getD i [] = g (D.getD i []) := by
  unfold mix
  rw [List.getD_eq_getElem?_getD, List.getElem?_append_right (by rw [List.length_map, List.length_take]; omega)]
  simp [hi, List.getD_eq_getElem?_getD, Nat.min_eq_left (Nat.le_of_lt hi)]
theorem mix_set (hi : i < D.length) : (mix f g D i).set i (f (D.getD i [])) = mix f g D (i + 1) := by
  have hd : D.drop i = D.getD i [] :: D.drop (i + 1) := by rw [List.drop_eq_getElem_cons hi, List.getD_eq_getElem?_getD, List.getElem?_eq_getElem hi]; rfl
  have ht : D.take (i + 1) = D.take i ++ [D.getD i []] := by rw [List.take_succ_eq_append_getElem hi, List.getD_eq_getElem?_getD, List.getElem?_eq_getElem hi]; rfl
  unfold mix
  rw [hd, ht, List.set_append_right _ _ (by simp; omega)]
  simp [Nat.min_eq_left (Nat.le_of_lt hi)]
theorem map_getD_ls (hi : i < D.length) : (D.map f).getD i [] = f (D.getD i []) := by simp [List.getD_eq_getElem?_getD, hi]
theorem set_getD_same {β : Type} {l : List β} {d : β} (hi : i < l.length) : l.set i (l.getD i d) = l := by
  rw [List.getD_eq_getElem?_getD, List.getElem?_eq_getElem hi]; simp
theorem getD_set_same {β : Type} {l : List β} {d x : β} (hi : i < l.length) : (l.set i x).getD i d = x := by simp [List.getD_eq_getElem?_getD, hi]
theorem rep_drop {x : α} {r : List α} {k : Nat} (hk : k < r.length) : (List.replicate k x ++ r.drop k).set k x = List.replicate (k + 1) x ++ r.drop (k + 1) := by
  have e : r.drop k = r[k] :: r.drop (k + 1) := List.drop_eq_getElem_cons hk
  rw [List.set_append_right _ _ (by simp), e, List.replicate_succ']
  simp only [List.length_replicate, Nat.sub_self, List.set_cons_zero, List.append_assoc, List.cons_append, List.nil_append]
end
end Go.Proofs.Ytipkfdeiallifaa.Lg
