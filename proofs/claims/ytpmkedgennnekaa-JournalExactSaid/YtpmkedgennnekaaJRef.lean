/-
  The reference's journal on the reference's disk, and that it tells the same as the journal. No program in sight.
-/
import Derived.Test.YtpmkedgennnekaaJour8
set_option linter.unusedVariables false
set_option linter.unusedSimpArgs false
namespace Go.Proofs.Ytpmkedgennnekaa.Lg
open Go Go.RowKit Go.Proofs.Ytpmkedgennnekaa.WirePure
def rjend (j : JSt) (r : RSt) : JSt := { j with ended := j.ended || r.down }
def rjsave (j : JSt) (r : RSt) (n : NSt) : Int × JSt × RSt :=
  if (rjend j r).ended then (80, rjend j r, r)
  else if ¬ noteOk n j.parts then (1, rjend j r, r)
  else if ¬ follows j.n n then (7, rjend j r, r)
  else if 1099511627776 ≤ j.gen then (92, rjend j r, r)
  else if (rwrite r (1 - j.slot) (nbytes (j.gen + 1) n)).1 ≠ 0 then ((rwrite r (1 - j.slot) (nbytes (j.gen + 1) n)).1, { rjend j r with ended := true }, (rwrite r (1 - j.slot) (nbytes (j.gen + 1) n)).2)
  else (0, { rjend j r with n := n, gen := j.gen + 1, slot := 1 - j.slot }, (rwrite r (1 - j.slot) (nbytes (j.gen + 1) n)).2)
def rjformat (r : RSt) (parts : Int) : Int × Option JSt × RSt :=
  if parts < 1 ∨ 4 < parts then (1, none, r) else if r.bl.length < 2 then (92, none, r)
  else if (rwrite r 1 []).1 ≠ 0 then ((rwrite r 1 []).1, none, (rwrite r 1 []).2)
  else if (rwrite (rwrite r 1 []).2 0 (nbytes 1 (jnew parts.toNat).n)).1 ≠ 0 then ((rwrite (rwrite r 1 []).2 0 (nbytes 1 (jnew parts.toNat).n)).1, none, (rwrite (rwrite r 1 []).2 0 (nbytes 1 (jnew parts.toNat).n)).2)
  else (0, some (jnew parts.toNat), (rwrite (rwrite r 1 []).2 0 (nbytes 1 (jnew parts.toNat).n)).2)
def rread_k (r : RSt) : Nat → RSt
  | 0 => r
  | k + 1 => (rread (rread_k r k) (k : Int)).2.2
def rjopen (r : RSt) (parts : Int) : Int × Option JSt × RSt :=
  if parts < 1 ∨ 4 < parts then (1, none, r)
  else if r.bl.length < 1 then (180, none, r)
  else if r.down then (80, none, r)
  else match jpick r.bl parts (min 2 r.bl.length) with
    | none => (180, none, rread_k r (min 2 r.bl.length))
    | some j => (0, some j, rread_k r (min 2 r.bl.length))
theorem DR.write {d : DSt} {r : RSt} (h : DR d r) (i : Int) {b : List Int} (hb : IsBytes b) : (dwrite d i b).1 = (rwrite r i b).1 ∧ DR (dwrite d i b).2 (rwrite r i b).2 := by
  have h1 := alike_write h.1 h.2.2.2 i b
  have h2 := dwrite_keeps d i b h.2.1 (fun hl => ⟨hb, hl⟩)
  refine ⟨h1.1, h1.2, h2.1, by rw [h2.2]; exact h.2.2.1, ?_⟩
  unfold rwrite
  split
  · exact h.2.2.2
  · split
    · exact h.2.2.2
    · split
      · simp [roff]
      · show (if 0 < r.left then r.left - 1 else r.left) ≤ _
        have := h.2.2.2
        split <;> omega
theorem save_same {j : JSt} {d : DSt} {r : RSt} {n : NSt} (h : DR d r) : (jsave j d n).1 = (rjsave j r n).1 ∧ (jsave j d n).2.1 = (rjsave j r n).2.1 ∧ DR (jsave j d n).2.2 (rjsave j r n).2.2 := by
  have hw := h.write (1 - j.slot) (nbytes_bytes n (j.gen + 1))
  have hd : jend j d = rjend j r := by unfold jend rjend; rw [h.1.2.1]
  unfold jsave rjsave
  rw [hd, hw.1]
  split
  · exact ⟨rfl, rfl, h⟩
  · split
    · exact ⟨rfl, rfl, h⟩
    · split
      · exact ⟨rfl, rfl, h⟩
      · split
        · exact ⟨rfl, rfl, h⟩
        · split
          · exact ⟨rfl, rfl, hw.2⟩
          · exact ⟨rfl, rfl, hw.2⟩
theorem format_same {d : DSt} {r : RSt} {parts : Int} (h : DR d r) : (jformat d parts).1 = (rjformat r parts).1 ∧ (jformat d parts).2.1 = (rjformat r parts).2.1 ∧ DR (jformat d parts).2.2 (rjformat r parts).2.2 := by
  have h1 := h.write 1 (b := []) (by simp [IsBytes])
  have h2 := h1.2.write 0 (nbytes_bytes (jnew parts.toNat).n 1)
  unfold jformat rjformat
  rw [h1.1, h2.1, h.1.1]
  split
  · exact ⟨rfl, rfl, h⟩
  · split
    · exact ⟨rfl, rfl, h⟩
    · split
      · exact ⟨rfl, rfl, h1.2⟩
      · split
        · exact ⟨rfl, rfl, h2.2⟩
        · exact ⟨rfl, rfl, h2.2⟩
theorem DR.reads {d : DSt} {r : RSt} (h : DR d r) : ∀ k : Nat, DR (dread_k d k) (rread_k r k)
  | 0 => h
  | k + 1 => (DR.reads h k).read k
theorem open_same {d : DSt} {r : RSt} {parts : Int} (h : DR d r) : (jopen d parts).1 = (rjopen r parts).1 ∧ (jopen d parts).2.1 = (rjopen r parts).2.1 ∧ DR (jopen d parts).2.2 (rjopen r parts).2.2 := by
  have hb := h.1.1
  have hd := h.1.2.1
  unfold jopen rjopen
  rw [hb, hd]
  split
  · exact ⟨rfl, rfl, h⟩
  · split
    · exact ⟨rfl, rfl, h⟩
    · split
      · exact ⟨rfl, rfl, h⟩
      · cases jpick r.bl parts (min 2 r.bl.length) with
        | none => exact ⟨rfl, rfl, h.reads _⟩
        | some j => exact ⟨rfl, rfl, h.reads _⟩
theorem rread_k_same (r : RSt) : ∀ k : Nat, (rread_k r k).bl = r.bl ∧ (rread_k r k).down = r.down ∧ (rread_k r k).left = r.left ∧ (rread_k r k).writes = r.writes
  | 0 => ⟨rfl, rfl, rfl, rfl⟩
  | k + 1 => by
    have ih := rread_k_same r k
    simp only [rread_k]
    unfold rread
    split <;> exact ih
theorem tk1_nn {b b' : List Int} {x : Int} (hb : IsBytes b) (h : tk1 b = some (x, b')) : 0 ≤ x := by
  unfold tk1 at h
  split at h
  · cases h
  · rename_i hq
    simp only [Option.some.injEq, Prod.mk.injEq] at h
    obtain ⟨⟨y, a, e⟩, hk⟩ : ∃ q, tk 0 0 b = q := ⟨_, rfl⟩
    rw [hk] at h hq
    simp only at h hq
    have he : e = 0 := by omega
    subst he
    have := tk_range hb hk
    omega
/-- Journals stay right. -/
theorem jsave_keeps {j : JSt} {d : DSt} {n : NSt} (h : JOk j) : JOk (jsave j d n).2.1 := by
  unfold jsave
  split
  · exact h
  · split
    · exact h
    · rename_i hn
      have hn := Decidable.not_not.1 hn
      split
      · exact h
      · split
        · exact h
        · split
          · exact h
          · exact ⟨hn, h.2.1, h.2.2.1, by have := h.2.2.2.1; show 1 ≤ j.gen + 1; omega, by show j.gen + 1 ≤ _; omega, by have := h.2.2.2.2.2; show 1 - j.slot = 0 ∨ 1 - j.slot = 1; omega⟩
theorem jformat_keeps {d : DSt} {parts : Int} {j : JSt} (h : (jformat d parts).2.1 = some j) : JOk j := by
  unfold jformat at h
  split at h
  · cases h
  · split at h
    · cases h
    · split at h
      · cases h
      · split at h
        · cases h
        · simp only [Option.some.injEq] at h
          subst h
          exact jnew_ok (by omega) (by omega)
theorem rentry_ok {b : List Int} {parts g : Int} {q : NSt} (hb : IsBytes b) (h : rentry b parts = some (q, g)) : noteOk q parts ∧ 1 ≤ g ∧ g ≤ 1099511627776 := by
  unfold rentry rdK at h
  cases h1 : tk1 b with
  | none => rw [h1] at h; cases h
  | some p1 =>
    obtain ⟨x0, b1⟩ := p1
    have hx0 := tk1_nn hb h1
    have hx1 : x0 ≤ 1099511627776 := by
      unfold tk1 at h1
      split at h1
      · cases h1
      · simp only [Option.some.injEq, Prod.mk.injEq] at h1; omega
    rw [h1] at h
    simp only at h
    split at h
    · cases h
    · split at h
      · cases h
      · unfold rdN at h
        simp only at h
        split at h
        · cases h
        · split at h
          · cases h
          · have := rdF_ok h
            obtain ⟨e, h2, h3⟩ := this
            simp only [Prod.mk.injEq] at e
            obtain ⟨e1, e2⟩ := e
            simp only at h2 h3
            exact ⟨h2, by omega, by omega⟩
theorem jpick_ok {bl : List (List Int)} {parts : Int} (hb : ∀ x ∈ bl, IsBytes x) (hp1 : 1 ≤ parts) (hp4 : parts ≤ 4) : ∀ (k : Nat) (j : JSt), k ≤ 2 → jpick bl parts k = some j → JOk j
  | 0, j, _, h => by cases h
  | k + 1, j, hk, h => by
    have hbk : IsBytes (bl.getD k []) := by
      by_cases e : k < bl.length
      · exact hb _ (by rw [List.getD_eq_getElem?_getD, List.getElem?_eq_getElem e]; exact List.getElem_mem _)
      · rw [List.getD_eq_getElem?_getD, List.getElem?_eq_none (by omega)]; simp [IsBytes]
    have mk : ∀ q g, rentry (bl.getD k []) parts = some (q, g) → JOk ⟨parts, q, g, (k : Int), false⟩ := fun q g hr => by
      have := rentry_ok hbk hr
      exact ⟨this.1, hp1, hp4, this.2.1, this.2.2, by show (k : Int) = 0 ∨ (k : Int) = 1; omega⟩
    cases hr : rentry (bl.getD k []) parts with
    | none => rw [jpick_no hr] at h; exact jpick_ok hb hp1 hp4 k j (by omega) h
    | some p =>
      obtain ⟨q, g⟩ := p
      cases hj : jpick bl parts k with
      | none => rw [jpick_first hr hj] at h; cases h; exact mk q g hr
      | some j0 =>
        by_cases hg : j0.gen < g
        · rw [jpick_more hr hj hg] at h; cases h; exact mk q g hr
        · rw [jpick_less hr hj hg] at h; cases h; exact jpick_ok hb hp1 hp4 k _ (by omega) hj
theorem jopen_keeps {d : DSt} {parts : Int} {j : JSt} (hb : ∀ x ∈ d.bl, IsBytes x) (h : (jopen d parts).2.1 = some j) : JOk j := by
  unfold jopen at h
  split at h
  · cases h
  · split at h
    · cases h
    · split at h
      · cases h
      · split at h
        · cases h
        · rename_i j0 hj
          simp only [Option.some.injEq] at h
          subst h
          exact jpick_ok hb (by omega) (by omega) _ _ (by omega) hj
end Go.Proofs.Ytpmkedgennnekaa.Lg
