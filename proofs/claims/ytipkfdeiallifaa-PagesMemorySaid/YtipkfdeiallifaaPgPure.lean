/-
  Pages on a disk, in plain Lean; the memory that a book owns. No program in sight.
-/
import Derived.Test.YtipkfdeiallifaaDiskO
import Derived.Test.YtipkfdeiallifaaWireP2
set_option linter.unusedVariables false
set_option linter.unusedSimpArgs false
namespace Go.Proofs.Ytipkfdeiallifaa.Lg
open Go Go.RowKit Go.Proofs.Ytipkfdeiallifaa.WirePure
abbrev KI : El Int := El.int .i64
/-- What a book says. -/
structure BSt where
  tb : List Int
  gen : Int
  slot : Int
  ended : Bool
def bcells (p : Option Addr) (s : BSt) (A : Option Addr) (c : Nat) : List Value := [.pointer p, .int .i64 s.gen, .slice A s.tb.length c, .int .i64 s.slot, .bool s.ended]
def qcells (p : Option Addr) (s : BSt) (A : Option Addr) (c : Nat) : List Value := [.pointer p, .slice A s.tb.length c, .int .i64 s.gen, .int .i64 s.slot, .bool s.ended]
/-- A book at block b, on the disk that p points at; the reference's. -/
def BA (TB TI : TypeId) (b : Nat) (p : Option Addr) (s : BSt) : Assn := Thing (fun _ : Option Addr × Nat => True)
  (fun q => [Blk b (bcells p s q.1 q.2) TB, Own TI 1 (.slice q.1 s.tb.length q.2) s.tb.length (KI.flat s.tb)])
def QA (TB TI : TypeId) (b : Nat) (p : Option Addr) (s : BSt) : Assn := Thing (fun _ : Option Addr × Nat => True)
  (fun q => [Blk b (qcells p s q.1 q.2) TB, Own TI 1 (.slice q.1 s.tb.length q.2) s.tb.length (KI.flat s.tb)])
section
variable {B w : World} {TB TI b : Nat} {p : Option Addr} {s : BSt} {L : List Assn}
theorem Sat.bopen (hs : Sat B w (BA TB TI b p s :: L)) : ∃ (A : Option Addr) (c : Nat), Sat B w (Blk b (bcells p s A c) TB :: Own TI 1 (.slice A s.tb.length c) s.tb.length (KI.flat s.tb) :: L) := by
  obtain ⟨⟨A, c⟩, _, h2⟩ := Sat.openObj hs
  exact ⟨A, c, h2⟩
theorem Sat.bshut {A : Option Addr} {c : Nat} (hs : Sat B w (Blk b (bcells p s A c) TB :: Own TI 1 (.slice A s.tb.length c) s.tb.length (KI.flat s.tb) :: L)) : Sat B w (BA TB TI b p s :: L) :=
  Sat.shutObj (M := fun q : Option Addr × Nat => [Blk b (bcells p s q.1 q.2) TB, Own TI 1 (.slice q.1 s.tb.length q.2) s.tb.length (KI.flat s.tb)]) (A, c) trivial hs
theorem Sat.qopen (hs : Sat B w (QA TB TI b p s :: L)) : ∃ (A : Option Addr) (c : Nat), Sat B w (Blk b (qcells p s A c) TB :: Own TI 1 (.slice A s.tb.length c) s.tb.length (KI.flat s.tb) :: L) := by
  obtain ⟨⟨A, c⟩, _, h2⟩ := Sat.openObj hs
  exact ⟨A, c, h2⟩
theorem Sat.qshut {A : Option Addr} {c : Nat} (hs : Sat B w (Blk b (qcells p s A c) TB :: Own TI 1 (.slice A s.tb.length c) s.tb.length (KI.flat s.tb) :: L)) : Sat B w (QA TB TI b p s :: L) :=
  Sat.shutObj (M := fun q : Option Addr × Nat => [Blk b (qcells p s q.1 q.2) TB, Own TI 1 (.slice q.1 s.tb.length q.2) s.tb.length (KI.flat s.tb)]) (A, c) trivial hs
end
/-- A book that may be none. -/
def BO (TB TI : TypeId) (p dp : Option Addr) : Option BSt → Assn
  | none => fun h => p = none ∧ ∀ b, h b = none
  | some s => fun h => ∃ b, p = some ⟨b, 0, none⟩ ∧ BA TB TI b dp s h
def QO (TB TI : TypeId) (p dp : Option Addr) : Option BSt → Assn
  | none => fun h => p = none ∧ ∀ b, h b = none
  | some s => fun h => ∃ b, p = some ⟨b, 0, none⟩ ∧ QA TB TI b dp s h
section
variable {B w : World} {TB TI b : Nat} {p dp : Option Addr} {s : BSt} {L : List Assn}
theorem Sat.boNone (hs : Sat B w (BO TB TI p dp none :: L)) : p = none ∧ Sat B w L := by
  obtain ⟨h, h2⟩ := Sat.pure (p := p = none) (A := fun h => ∀ b, h b = none) hs
  exact ⟨h, h2.tail⟩
theorem Sat.boSome (hs : Sat B w (BO TB TI p dp (some s) :: L)) : ∃ b, p = some ⟨b, 0, none⟩ ∧ Sat B w (BA TB TI b dp s :: L) := by
  obtain ⟨b, h⟩ := Sat.ex (A := fun b h => p = some ⟨b, 0, none⟩ ∧ BA TB TI b dp s h) hs
  exact ⟨b, h.pure⟩
theorem Sat.toBoNone (hs : Sat B w L) : Sat B w (BO TB TI none dp none :: L) := hs.addNone ⟨rfl, fun _ => rfl⟩
theorem Sat.toBoSome (hs : Sat B w (BA TB TI b dp s :: L)) : Sat B w (BO TB TI (some ⟨b, 0, none⟩) dp (some s) :: L) := hs.imp fun h hh => ⟨b, rfl, hh⟩
theorem Sat.qoNone (hs : Sat B w (QO TB TI p dp none :: L)) : p = none ∧ Sat B w L := by
  obtain ⟨h, h2⟩ := Sat.pure (p := p = none) (A := fun h => ∀ b, h b = none) hs
  exact ⟨h, h2.tail⟩
theorem Sat.qoSome (hs : Sat B w (QO TB TI p dp (some s) :: L)) : ∃ b, p = some ⟨b, 0, none⟩ ∧ Sat B w (QA TB TI b dp s :: L) := by
  obtain ⟨b, h⟩ := Sat.ex (A := fun b h => p = some ⟨b, 0, none⟩ ∧ QA TB TI b dp s h) hs
  exact ⟨b, h.pure⟩
theorem Sat.toQoNone (hs : Sat B w L) : Sat B w (QO TB TI none dp none :: L) := hs.addNone ⟨rfl, fun _ => rfl⟩
theorem Sat.toQoSome (hs : Sat B w (QA TB TI b dp s :: L)) : Sat B w (QO TB TI (some ⟨b, 0, none⟩) dp (some s) :: L) := hs.imp fun h hh => ⟨b, rfl, hh⟩
theorem Sat.rdL0 {pre : List Assn} {F : World → Prop} (hF : ∀ w' X, Sat B w' (X :: L) → F w') (hs : Sat B w (pre ++ L)) : F w := hF w _ (Sat.pack (M := pre) hs)
end
theorem flatKI_rep (m : Nat) : KI.flat (List.replicate m 0) = List.replicate m (.int .i64 0) := by rw [El.int_flat]; simp
/-! ### Roots -/
def rbytes (gen : Int) (tb : List Int) : List Int := pb gen.toNat ++ nm tb
def tabAt (tb : List Int) (nb : Int) (i : Nat) : Prop := tb.getD i 0 = 0 ∨ ((2 ≤ tb.getD i 0 ∧ tb.getD i 0 < nb) ∧ ∀ j, j < i → tb.getD j 0 ≠ tb.getD i 0)
instance (tb : List Int) (nb : Int) (i : Nat) : Decidable (tabAt tb nb i) := by unfold tabAt; exact inferInstance
def tabOk (tb : List Int) (nb : Int) : Prop := ∀ i, i < tb.length → tabAt tb nb i
instance (tb : List Int) (nb : Int) : Decidable (tabOk tb nb) := by unfold tabOk; exact inferInstance
def rroot (l : List Int) (nb : Int) : Option (Int × List Int) :=
  if (tk 0 0 l).2.2 ≠ 0 ∨ (tk 0 0 l).1 < 1 ∨ 1099511627776 < (tk 0 0 l).1 then none
  else if (tnum (l.drop (tk 0 0 l).2.1.toNat) 8).2.2 ≠ 0 ∨ (tk 0 0 l).2.1 + (tnum (l.drop (tk 0 0 l).2.1.toNat) 8).2.1 ≠ (l.length : Int) ∨ (tnum (l.drop (tk 0 0 l).2.1.toNat) 8).1.length = 0 ∨
    nb < 2 + 2 * ((tnum (l.drop (tk 0 0 l).2.1.toNat) 8).1.length : Int) ∨ ¬ tabOk (tnum (l.drop (tk 0 0 l).2.1.toNat) 8).1 nb then none
  else some ((tk 0 0 l).1, (tnum (l.drop (tk 0 0 l).2.1.toNat) 8).1)
theorem rroot_nil (nb : Int) : rroot [] nb = none := rfl
theorem rroot_1 {l : List Int} {nb x a e : Int} (h : tk 0 0 l = (x, a, e)) (hx : e ≠ 0 ∨ x < 1 ∨ 1099511627776 < x) : rroot l nb = none := by unfold rroot; rw [h, if_pos hx]
theorem rroot_2 {l t : List Int} {nb x a u e : Int} (h : tk 0 0 l = (x, a, 0)) (ht : tnum (l.drop a.toNat) 8 = (t, u, e)) (hx : e ≠ 0 ∨ a + u ≠ (l.length : Int) ∨ t.length = 0 ∨ nb < 2 + 2 * (t.length : Int) ∨ ¬ tabOk t nb) : rroot l nb = none := by
  unfold rroot; rw [h]; simp only [ht]; rw [if_pos hx, ite_self]
theorem rroot_3 {l t : List Int} {nb x a u : Int} (h : tk 0 0 l = (x, a, 0)) (h1 : 1 ≤ x) (h2 : x ≤ 1099511627776) (ht : tnum (l.drop a.toNat) 8 = (t, u, 0)) (ha : a + u = (l.length : Int)) (hl : t.length ≠ 0) (hn : 2 + 2 * (t.length : Int) ≤ nb) (hk : tabOk t nb) : rroot l nb = some (x, t) := by
  unfold rroot; rw [h]; simp only [ht]
  rw [if_neg (by omega), if_neg (by
    intro q
    rcases q with q | q | q | q | q
    · exact q rfl
    · exact q ha
    · exact hl q
    · omega
    · exact q hk)]
theorem rroot_bytes {gen nb : Int} {tb : List Int} (h1 : 1 ≤ gen) (h2 : gen ≤ 1099511627776) (hl : tb.length ≠ 0) (hl8 : tb.length ≤ 8) (hn : 2 + 2 * (tb.length : Int) ≤ nb) (hnb : nb ≤ 64) (hk : tabOk tb nb) : rroot (rbytes gen tb) nb = some (gen, tb) := by
  have hpos : ∀ x ∈ tb, 0 ≤ x ∧ x < 64 := by
    intro x hx
    obtain ⟨i, hi, rfl⟩ := List.getElem_of_mem hx
    have e1 : tb.getD i 0 = tb[i] := by rw [List.getD_eq_getElem?_getD, List.getElem?_eq_getElem hi]; rfl
    have := hk i hi
    unfold tabAt at this
    rw [e1] at this
    omega
  have htk := tk_pb gen.toNat 0 0 (nm tb) (by show gen.toNat < 18446744073709551616; omega) (by omega)
  have e : tk 0 0 (rbytes gen tb) = (gen, ((pb gen.toNat).length : Int), 0) := by
    unfold rbytes; rw [htk]; simp; omega
  have hd : (rbytes gen tb).drop ((pb gen.toNat).length : Int).toNat = nm tb := by unfold rbytes; simp
  have htk2 := tk_pb tb.length 0 0 (nmB tb) (by show tb.length < 18446744073709551616; omega) (by omega)
  have htk3 : tk 0 0 (nm tb) = ((tb.length : Int), ((pb tb.length).length : Int), 0) := by rw [nm, htk2]; simp
  have hd2 : (nm tb).drop (pb tb.length).length = nmB tb ++ [] := by rw [nm]; simp
  obtain ⟨_, h4⟩ := tnl_back (nm tb) [] tb (pb tb.length).length [] hd2 (fun x hx => by have := hpos x hx; omega)
  have et : tnum (nm tb) 8 = (tb, ((nm tb).length : Int), 0) := by
    unfold tnum
    rw [htk3]
    simp only [ne_eq, not_true_eq_false, if_false, Int.toNat_natCast]
    rw [if_neg (by omega), h4 (fun ⟨x, hx, hb⟩ => by have := hpos x hx; omega)]
    simp [nm]
  exact rroot_3 e h1 h2 (by rw [hd]; exact et) (by simp [rbytes]) hl hn hk
theorem tabOk_pos {tb : List Int} {nb : Int} (hk : tabOk tb nb) (hnb : 0 ≤ nb) : ∀ x ∈ tb, 0 ≤ x ∧ x ≤ nb := by
  intro x hx
  obtain ⟨i, hi, rfl⟩ := List.getElem_of_mem hx
  have e1 : tb.getD i 0 = tb[i] := by rw [List.getD_eq_getElem?_getD, List.getElem?_eq_getElem hi]; rfl
  have := hk i hi
  unfold tabAt at this
  rw [e1] at this
  omega
theorem nm_len {l : List Int} (h : ∀ x ∈ l, x < 18446744073709551616) (hl : l.length < 18446744073709551616) : (nm l).length ≤ 10 + 10 * l.length := by
  have h1 := nmB_len h
  have h2 := pb_len10 hl
  simp only [nm, List.length_append]; omega
theorem rbytes_len {gen : Int} {tb : List Int} (hg : 0 ≤ gen ∧ gen ≤ 1099511627777) (hl : tb.length ≤ 8) (h : ∀ x ∈ tb, 0 ≤ x ∧ x ≤ 64) : (rbytes gen tb).length ≤ 100 := by
  have a1 := pb_len10 (n := gen.toNat) (by omega)
  have a2 := nm_len (l := tb) (fun x hx => by have := h x hx; omega) (by omega)
  simp only [rbytes, List.length_append]; omega
theorem rbytes_bytes (gen : Int) (tb : List Int) : IsBytes (rbytes gen tb) := by
  intro x hx
  rcases List.mem_append.1 hx with h | h
  · exact pb_bytes _ x h
  · exact nm_bytes _ x h
/-! ### The lowest block that is free -/
def freeN : Nat → List Int → Int → Int
  | 0, _, a => a
  | k + 1, l, a => if a ∈ l then freeN k l (a + 1) else a
def free (l : List Int) : Int := freeN l.length l 2
theorem freeN_in : ∀ (k : Nat) (l : List Int) (a : Int), a ≤ freeN k l a ∧ freeN k l a ≤ a + k ∧ ∀ q, a ≤ q → q < freeN k l a → q ∈ l
  | 0, l, a => ⟨by simp [freeN], by simp [freeN], fun q h1 h2 => by simp only [freeN] at h2; omega⟩
  | k + 1, l, a => by
    unfold freeN
    split
    · rename_i h
      obtain ⟨h1, h2, h3⟩ := freeN_in k l (a + 1)
      refine ⟨by omega, by push_cast; omega, fun q hq1 hq2 => ?_⟩
      by_cases e : q = a
      · subst e; exact h
      · exact h3 q (by omega) hq2
    · exact ⟨by omega, by omega, fun q h1 h2 => by omega⟩
def cntGe (l : List Int) (a : Int) : Nat := (l.filter fun x => decide (a ≤ x)).length
theorem cntGe_le (l : List Int) (a : Int) : cntGe l (a + 1) ≤ cntGe l a := by
  induction l with
  | nil => simp [cntGe]
  | cons y l ih =>
    unfold cntGe at ih ⊢
    simp only [List.filter_cons]
    by_cases h1 : a + 1 ≤ y
    · rw [if_pos (by simpa using h1), if_pos (by simp; omega)]; simp only [List.length_cons]; omega
    · rw [if_neg (by simpa using h1)]
      split
      · simp only [List.length_cons]; omega
      · exact ih
theorem cntGe_lt {l : List Int} {a : Int} (h : a ∈ l) : cntGe l (a + 1) < cntGe l a := by
  induction l with
  | nil => cases h
  | cons y l ih =>
    have hle := cntGe_le l a
    unfold cntGe at ih hle ⊢
    simp only [List.filter_cons]
    rcases List.mem_cons.1 h with e | h'
    · subst e
      rw [if_neg (by simp; omega), if_pos (by simp)]
      simp only [List.length_cons]; omega
    · have := ih h'
      by_cases h1 : a + 1 ≤ y
      · rw [if_pos (by simpa using h1), if_pos (by simp; omega)]; simp only [List.length_cons]; omega
      · rw [if_neg (by simpa using h1)]
        split
        · simp only [List.length_cons]; omega
        · exact this
theorem freeN_not : ∀ (k : Nat) (l : List Int) (a : Int), cntGe l a ≤ k → freeN k l a ∉ l
  | 0, l, a, h, hm => by
    simp only [freeN] at hm
    have := cntGe_lt hm
    omega
  | k + 1, l, a, h, hm => by
    unfold freeN at hm
    split at hm
    · rename_i hin
      have := cntGe_lt hin
      exact freeN_not k l (a + 1) (by omega) hm
    · rename_i hin; exact hin hm
theorem free_spec (l : List Int) : 2 ≤ free l ∧ free l ≤ 2 + l.length ∧ free l ∉ l ∧ ∀ q, 2 ≤ q → q < free l → q ∈ l := by
  obtain ⟨h1, h2, h3⟩ := freeN_in l.length l 2
  exact ⟨h1, h2, freeN_not _ _ _ (List.length_filter_le _ _), h3⟩
theorem free_eq {l : List Int} {a : Int} (h1 : 2 ≤ a) (h2 : a ∉ l) (h3 : ∀ q, 2 ≤ q → q < a → q ∈ l) : a = free l := by
  obtain ⟨f1, f2, f3, f4⟩ := free_spec l
  rcases Int.lt_trichotomy a (free l) with h | h | h
  · exact absurd (f4 a h1 h) h2
  · exact h
  · exact absurd (h3 _ f1 h) f3
/-! ### Books -/
structure DOps (S : Type) where
  down : S → Bool
  nb : S → Nat
  rd : S → Int → List Int × Int × S
  wr : S → Int → List Int → Int × S
def dO : DOps DSt := ⟨fun d => d.down, fun d => d.bl.length, dread, dwrite⟩
def rO : DOps RSt := ⟨fun d => d.down, fun d => d.bl.length, rread, rwrite⟩
abbrev Wr := Int × List Int
section
variable {S : Type} (o : DOps S)
def bend (s : BSt) (d : S) : BSt := { s with ended := s.ended || o.down d }
def bused (tb : List Int) : Nat := (tb.filter fun x => decide (x ≠ 0)).length
def bfaultF (n : Nat) : List Int → List Wr → Int
  | _, [] => 0
  | seen, (p, x) :: r => if p < 0 ∨ (n : Int) ≤ p then 91 else if p ∈ seen then 93 else if 1024 < x.length then 6 else bfaultF n (seen ++ [p]) r
def bfault (n : Nat) (l : List Wr) : Int := bfaultF n [] l
def bget (s : BSt) (d : S) (page : Int) : List Int × Int × BSt × S :=
  if (bend o s d).ended then ([], 80, bend o s d, d) else if page < 0 ∨ (s.tb.length : Int) ≤ page then ([], 91, bend o s d, d)
  else if s.tb.getD page.toNat 0 = 0 then ([], 0, bend o s d, d) else ((o.rd d (s.tb.getD page.toNat 0)).1, (o.rd d (s.tb.getD page.toNat 0)).2.1, bend o s d, (o.rd d (s.tb.getD page.toNat 0)).2.2)
def putL : List Wr → List Int → List Int → S → Int × List Int × S
  | [], tb, _, d => (0, tb, d)
  | (p, x) :: r, tb, tk, d => if x = [] then putL r (tb.set p.toNat 0) tk d else if (o.wr d (free tk) x).1 ≠ 0 then ((o.wr d (free tk) x).1, tb, (o.wr d (free tk) x).2) else putL r (tb.set p.toNat (free tk)) (tk ++ [free tk]) (o.wr d (free tk) x).2
def bput (fx : Int → Int) (s : BSt) (d : S) (l : List Wr) : Int × BSt × S :=
  if (bend o s d).ended then (80, bend o s d, d)
  else if bfault s.tb.length l ≠ 0 ∨ l = [] then (bfault s.tb.length l, bend o s d, d)
  else if 1099511627776 ≤ s.gen then (92, bend o s d, d)
  else if (putL o l s.tb s.tb d).1 ≠ 0 then (fx (putL o l s.tb s.tb d).1, { bend o s d with ended := true }, (putL o l s.tb s.tb d).2.2)
  else if (o.wr (putL o l s.tb s.tb d).2.2 (1 - s.slot) (rbytes (s.gen + 1) (putL o l s.tb s.tb d).2.1)).1 ≠ 0 then (fx (o.wr (putL o l s.tb s.tb d).2.2 (1 - s.slot) (rbytes (s.gen + 1) (putL o l s.tb s.tb d).2.1)).1, { bend o s d with ended := true }, (o.wr (putL o l s.tb s.tb d).2.2 (1 - s.slot) (rbytes (s.gen + 1) (putL o l s.tb s.tb d).2.1)).2)
  else (0, { bend o s d with tb := (putL o l s.tb s.tb d).2.1, gen := s.gen + 1, slot := 1 - s.slot }, (o.wr (putL o l s.tb s.tb d).2.2 (1 - s.slot) (rbytes (s.gen + 1) (putL o l s.tb s.tb d).2.1)).2)
def bnew (n : Nat) : BSt := ⟨List.replicate n 0, 1, 0, false⟩
def bformat (d : S) (n : Int) : Int × Option BSt × S :=
  if n < 1 ∨ 8 < n then (1, none, d) else if (o.nb d : Int) < 2 + 2 * n then (92, none, d)
  else if (o.wr d 1 []).1 ≠ 0 then ((o.wr d 1 []).1, none, (o.wr d 1 []).2)
  else if (o.wr (o.wr d 1 []).2 0 (rbytes 1 (List.replicate n.toNat 0))).1 ≠ 0 then ((o.wr (o.wr d 1 []).2 0 (rbytes 1 (List.replicate n.toNat 0))).1, none, (o.wr (o.wr d 1 []).2 0 (rbytes 1 (List.replicate n.toNat 0))).2)
  else (0, some (bnew n.toNat), (o.wr (o.wr d 1 []).2 0 (rbytes 1 (List.replicate n.toNat 0))).2)
def bpick : Option (Int × List Int) → Option (Int × List Int) → Option BSt
  | none, none => none
  | some (g, t), none => some ⟨t, g, 0, false⟩
  | none, some (g, t) => some ⟨t, g, 1, false⟩
  | some (g, t), some (g2, t2) => if g < g2 then some ⟨t2, g2, 1, false⟩ else some ⟨t, g, 0, false⟩
/-- The blocks of the roots, and the disk behind their reading. -/
def broots (d : S) : List Int × List Int × S := if o.nb d < 2 then ((o.rd d 0).1, [], (o.rd d 0).2.2) else ((o.rd d 0).1, (o.rd (o.rd d 0).2.2 1).1, (o.rd (o.rd d 0).2.2 1).2.2)
def bopen (d : S) : Int × Option BSt × S :=
  if o.down d then (80, none, d) else
  match bpick (rroot (broots o d).1 (o.nb d)) (rroot (broots o d).2.1 (o.nb d)) with
  | none => (90, none, (broots o d).2.2)
  | some s => (0, some s, (broots o d).2.2)
end
/-- What holds of every book on a disk of so many blocks. -/
structure BInv (s : BSt) (nb : Nat) : Prop where
  l1 : 1 ≤ s.tb.length
  l8 : s.tb.length ≤ 8
  room : 2 + 2 * s.tb.length ≤ nb
  tab : tabOk s.tb nb
  g1 : 1 ≤ s.gen
  g2 : s.gen ≤ 1099511627776
  slot : s.slot = 0 ∨ s.slot = 1
end Go.Proofs.Ytipkfdeiallifaa.Lg
