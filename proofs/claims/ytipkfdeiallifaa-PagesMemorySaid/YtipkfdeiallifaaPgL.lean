/-
  Pages: what the laws share. By program (gen/pglm.py).
-/
import Derived.Test.YtipkfdeiallifaaPg11
set_option linter.unusedVariables false
set_option linter.unusedSimpArgs false
namespace Go.Proofs.Ytipkfdeiallifaa.Lg
open Go Go.RowKit Go.Proofs.Ytipkfdeiallifaa.WirePure
theorem bend_end {s : BSt} {d : DSt} (h : s.ended = true) : bend dO s d = s := by
  unfold bend
  show { s with ended := s.ended || d.down } = s
  rw [h]; cases s; simp at h; subst h; rfl
theorem bend_on {s : BSt} {d : DSt} (h : s.ended = false) (hd : d.down = false) : bend dO s d = s := by
  unfold bend
  show { s with ended := s.ended || d.down } = s
  rw [h, hd]; cases s; simp at h; subst h; rfl
theorem PWs.none_ (w : World) : PWs w none 0 0 [] [] := ⟨Rd.none w 2, rfl, fun i hi => by simp at hi⟩
/-- A list of writes among lists of them. -/
def LL (w : World) (x : Value) : Prop := ∃ (A : Option Addr) (n c : Nat) (vs : List KWt) (ws : List Wr), x = .slice A n c ∧ PWs w A n c vs ws ∧ PWok ws ∧ n ≤ 9223372036854775806
/-- A write as it is handed in. -/
def GoodW (w : World) (x : KWt) : Prop := (-9223372036854775808 ≤ x.1 ∧ x.1 ≤ 9223372036854775807) ∧ ∃ l, Rd w x.2.1 x.2.2.1 x.2.2.2 1 (bytesV l) ∧ IsBytes l ∧ l.length ≤ 140737488351232
theorem PWs.of {w : World} {A : Option Addr} {n c : Nat} {vs : List KWt} (h : Rd w A n c 2 (KW.flat vs)) (hg : ∀ x ∈ vs, GoodW w x) : ∃ ws, PWs w A n c vs ws ∧ PWok ws := by
  have key : ∀ vs : List KWt, (∀ x ∈ vs, GoodW w x) → ∃ ws : List Wr, PWp w vs ws ∧ PWok ws := by
    intro vs
    induction vs with
    | nil => intro _; exact ⟨[], PWp.nil w, fun x hx => by cases hx⟩
    | cons v vs ih =>
      intro hv
      obtain ⟨ws, ⟨h1, h2⟩, h3⟩ := ih (fun x hx => hv x (List.mem_cons_of_mem _ hx))
      obtain ⟨hr, l, hl, hb, hz⟩ := hv v (by simp)
      refine ⟨(v.1, l) :: ws, ⟨by simp [h1], fun i hi => ?_⟩, fun x hx => ?_⟩
      · cases i with
        | zero => exact ⟨rfl, hl⟩
        | succ i => exact h2 i (by simpa using hi)
      · rcases List.mem_cons.1 hx with rfl | hx
        · exact ⟨hr, hb, hz⟩
        · exact h3 x hx
  obtain ⟨ws, h1, h3⟩ := key vs hg
  exact ⟨ws, h1.with_ h, h3⟩
theorem withL_bytes : ∀ (l : List Wr) (W : List (List Int)), (∀ x ∈ W, IsBytes x) → (∀ x ∈ l, IsBytes x.2) → ∀ x ∈ withL W l, IsBytes x
  | [], _, h, _ => h
  | (p, x) :: r, W, h, hl => withL_bytes r _ (fun y hy => by
      rcases List.mem_or_eq_of_mem_set hy with h1 | rfl
      · exact h y h1
      · exact hl (p, y) (by simp)) (fun y hy => hl y (List.mem_cons_of_mem _ hy))
theorem rep_bytes : ∀ x ∈ List.replicate 8 ([] : List Int), IsBytes x := fun x hx => by rw [List.eq_of_mem_replicate hx]; simp [IsBytes]
theorem PGb.wl {bl : List (List Int)} {s : BSt} {W : List (List Int)} (h : PGb bl s W) : W.length = 8 := by rw [← h.pt.1]; exact h.l8
end Go.Proofs.Ytipkfdeiallifaa.Lg
