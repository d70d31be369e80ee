/-
  Notes and journals, in plain Lean; the memory that a journal owns. No program in sight.
-/
import Derived.Test.YtpmkedgennnekaaDiskO
import Derived.Test.YtpmkedgennnekaaWirePure
set_option linter.unusedVariables false
set_option linter.unusedSimpArgs false
namespace Go.Proofs.Ytpmkedgennnekaa.Lg
open Go Go.RowKit Go.Proofs.Ytpmkedgennnekaa.WirePure
abbrev KI : El Int := El.int .i64
def fwd (a b : List Int) : Prop := a.length = b.length ∧ ∀ i, i < a.length → a.getD i 0 ≤ b.getD i 0
instance (a b : List Int) : Decidable (fwd a b) := by unfold fwd; exact inferInstance
structure NSt where
  batch : Int
  prev : List Int
  cur : List Int
  att : Int
def nval (n : NSt) (Ap : Option Addr) (cp : Nat) (Ac : Option Addr) (cc : Nat) : Value := .agg #[.int .i64 n.batch, .slice Ap n.prev.length cp, .slice Ac n.cur.length cc, .int .i64 n.att]
def ncells (n : NSt) (Ap : Option Addr) (cp : Nat) (Ac : Option Addr) (cc : Nat) : List Value := [.int .i64 n.batch, .slice Ap n.prev.length cp, .slice Ac n.cur.length cc, .int .i64 n.att]
def within (x : Int) : Prop := 0 ≤ x ∧ x ≤ 1099511627776
instance (x : Int) : Decidable (within x) := by unfold within; exact inferInstance
def endOk (n : NSt) (i : Nat) : Prop := 0 ≤ n.prev.getD i 0 ∧ n.cur.getD i 0 ≤ 256 ∧ (n.batch = 0 → n.cur.getD i 0 = 0)
instance (n : NSt) (i : Nat) : Decidable (endOk n i) := by unfold endOk; exact inferInstance
def noteOk (n : NSt) (parts : Int) : Prop := within n.batch ∧ within n.att ∧ (n.prev.length : Int) = parts ∧ fwd n.prev n.cur ∧ ∀ i, i < n.cur.length → endOk n i
instance (n : NSt) (parts : Int) : Decidable (noteOk n parts) := by unfold noteOk; exact inferInstance
def follows (o n : NSt) : Prop := o.att ≤ n.att ∧ ((n.batch = o.batch ∧ n.prev = o.prev ∧ n.cur = o.cur) ∨ (n.batch ≠ o.batch ∧ n.batch = o.batch + 1 ∧ n.prev = o.cur))
instance (o n : NSt) : Decidable (follows o n) := by unfold follows; exact inferInstance
def nbytes (gen : Int) (n : NSt) : List Int := [pb gen.toNat, pb n.batch.toNat, pb n.att.toNat, nm n.prev, nm n.cur].flatten
theorem noteOk_pos {n : NSt} {parts : Int} (h : noteOk n parts) : (∀ x ∈ n.prev, 0 ≤ x ∧ x ≤ 256) ∧ ∀ x ∈ n.cur, 0 ≤ x ∧ x ≤ 256 := by
  obtain ⟨_, _, _, ⟨h1, h2⟩, h3⟩ := h
  constructor
  · intro x hx
    obtain ⟨i, hi, rfl⟩ := List.getElem_of_mem hx
    have e1 : n.prev.getD i 0 = n.prev[i] := by rw [List.getD_eq_getElem?_getD, List.getElem?_eq_getElem hi]; rfl
    have := h2 i hi
    have := h3 i (by omega)
    unfold endOk at this
    rw [← e1]; omega
  · intro x hx
    obtain ⟨i, hi, rfl⟩ := List.getElem_of_mem hx
    have e1 : n.cur.getD i 0 = n.cur[i] := by rw [List.getD_eq_getElem?_getD, List.getElem?_eq_getElem hi]; rfl
    have := h2 i (by omega)
    have := h3 i hi
    unfold endOk at this
    rw [← e1]; omega
theorem noteOk_len {n : NSt} {parts : Int} (h : noteOk n parts) : (n.prev.length : Int) = parts ∧ (n.cur.length : Int) = parts := ⟨h.2.2.1, by have := h.2.2.1; have := h.2.2.2.1.1; omega⟩
theorem nm_len {l : List Int} (h : ∀ x ∈ l, x < 18446744073709551616) (hl : l.length < 18446744073709551616) : (nm l).length ≤ 10 + 10 * l.length := by
  have h1 := nmB_len h
  have h2 := pb_len10 hl
  simp only [nm, List.length_append]; omega
theorem nbytes_len {n : NSt} {parts gen : Int} (h : noteOk n parts) (hp : parts ≤ 4) (hg : 0 ≤ gen ∧ gen ≤ 1099511627777) : (nbytes gen n).length ≤ 130 := by
  obtain ⟨h1, h2⟩ := noteOk_pos h
  obtain ⟨h3, h4⟩ := noteOk_len h
  have hb := h.1
  have ha := h.2.1
  unfold within at hb ha
  have a1 := pb_len10 (n := gen.toNat) (by omega)
  have a2 := pb_len10 (n := n.batch.toNat) (by omega)
  have a3 := pb_len10 (n := n.att.toNat) (by omega)
  have a4 := nm_len (l := n.prev) (fun x hx => by have := h1 x hx; omega) (by omega)
  have a5 := nm_len (l := n.cur) (fun x hx => by have := h2 x hx; omega) (by omega)
  simp only [nbytes, List.flatten_cons, List.flatten_nil, List.length_append, List.length_nil]
  omega
theorem nbytes_bytes (n : NSt) (gen : Int) : IsBytes (nbytes gen n) := by
  intro x hx
  simp only [nbytes, List.flatten_cons, List.flatten_nil, List.append_nil, List.mem_append] at hx
  rcases hx with h | h | h | h | h
  · exact pb_bytes _ x h
  · exact pb_bytes _ x h
  · exact pb_bytes _ x h
  · exact nm_bytes _ x h
  · exact nm_bytes _ x h
structure JSt where
  parts : Int
  n : NSt
  gen : Int
  slot : Int
  ended : Bool
def jcells (p : Option Addr) (j : JSt) (Ap : Option Addr) (cp : Nat) (Ac : Option Addr) (cc : Nat) : List Value :=
  [.pointer p, .int .i64 j.parts, .int .i64 j.n.batch, .slice Ap j.n.prev.length cp, .slice Ac j.n.cur.length cc, .int .i64 j.n.att, .int .i64 j.gen, .int .i64 j.slot, .bool j.ended]
/-- A journal at block b, on the disk that p points at. -/
def JA (TJ TI : TypeId) (b : Nat) (p : Option Addr) (j : JSt) : Assn := Thing (fun _ : Option Addr × Nat × Option Addr × Nat => True)
  (fun q => [Blk b (jcells p j q.1 q.2.1 q.2.2.1 q.2.2.2) TJ, Own TI 1 (.slice q.1 j.n.prev.length q.2.1) j.n.prev.length (KI.flat j.n.prev), Own TI 1 (.slice q.2.2.1 j.n.cur.length q.2.2.2) j.n.cur.length (KI.flat j.n.cur)])
section
variable {B w : World} {TJ TI b : Nat} {p : Option Addr} {j : JSt} {L : List Assn}
theorem Sat.jopen (hs : Sat B w (JA TJ TI b p j :: L)) : ∃ (Ap : Option Addr) (cp : Nat) (Ac : Option Addr) (cc : Nat),
    Sat B w (Blk b (jcells p j Ap cp Ac cc) TJ :: Own TI 1 (.slice Ap j.n.prev.length cp) j.n.prev.length (KI.flat j.n.prev) :: Own TI 1 (.slice Ac j.n.cur.length cc) j.n.cur.length (KI.flat j.n.cur) :: L) := by
  obtain ⟨⟨Ap, cp, Ac, cc⟩, _, h2⟩ := Sat.openObj hs
  exact ⟨Ap, cp, Ac, cc, h2⟩
theorem Sat.jshut {Ap : Option Addr} {cp : Nat} {Ac : Option Addr} {cc : Nat}
    (hs : Sat B w (Blk b (jcells p j Ap cp Ac cc) TJ :: Own TI 1 (.slice Ap j.n.prev.length cp) j.n.prev.length (KI.flat j.n.prev) :: Own TI 1 (.slice Ac j.n.cur.length cc) j.n.cur.length (KI.flat j.n.cur) :: L)) : Sat B w (JA TJ TI b p j :: L) :=
  Sat.shutObj (M := fun q : Option Addr × Nat × Option Addr × Nat => [Blk b (jcells p j q.1 q.2.1 q.2.2.1 q.2.2.2) TJ, Own TI 1 (.slice q.1 j.n.prev.length q.2.1) j.n.prev.length (KI.flat j.n.prev), Own TI 1 (.slice q.2.2.1 j.n.cur.length q.2.2.2) j.n.cur.length (KI.flat j.n.cur)]) (Ap, cp, Ac, cc) trivial hs
end
def JOk (j : JSt) : Prop := noteOk j.n j.parts ∧ 1 ≤ j.parts ∧ j.parts ≤ 4 ∧ 1 ≤ j.gen ∧ j.gen ≤ 1099511627776 ∧ (j.slot = 0 ∨ j.slot = 1)
def jend (j : JSt) (d : DSt) : JSt := { j with ended := j.ended || d.down }
/-- Save: the error, the journal and the disk behind it. -/
def jsave (j : JSt) (d : DSt) (n : NSt) : Int × JSt × DSt :=
  if (jend j d).ended then (80, jend j d, d)
  else if ¬ noteOk n j.parts then (1, jend j d, d)
  else if ¬ follows j.n n then (7, jend j d, d)
  else if 1099511627776 ≤ j.gen then (92, jend j d, d)
  else if (dwrite d (1 - j.slot) (nbytes (j.gen + 1) n)).1 ≠ 0 then ((dwrite d (1 - j.slot) (nbytes (j.gen + 1) n)).1, { jend j d with ended := true }, (dwrite d (1 - j.slot) (nbytes (j.gen + 1) n)).2)
  else (0, { jend j d with n := n, gen := j.gen + 1, slot := 1 - j.slot }, (dwrite d (1 - j.slot) (nbytes (j.gen + 1) n)).2)
def jnew (parts : Nat) : JSt := ⟨parts, ⟨0, List.replicate parts 0, List.replicate parts 0, 0⟩, 1, 0, false⟩
theorem rep_getD {k i : Nat} : (List.replicate k (0 : Int)).getD i 0 = 0 := by
  rw [List.getD_eq_getElem?_getD, List.getElem?_replicate]
  split <;> rfl
theorem jnew_ok {parts : Nat} (h1 : 1 ≤ parts) (h2 : parts ≤ 4) : JOk (jnew parts) := by
  refine ⟨⟨?_, ?_, ?_, ⟨?_, fun i hi => ?_⟩, fun i hi => ⟨?_, ?_, fun _ => ?_⟩⟩, by simp [jnew]; omega, by simp [jnew]; omega, by simp [jnew], by simp [jnew], .inl rfl⟩
  · simp [jnew, within]
  · simp [jnew, within]
  · simp [jnew]
  · simp [jnew]
  · simp only [jnew]; rw [rep_getD]; exact Int.le_refl _
  · simp only [jnew]; rw [rep_getD]; exact Int.le_refl _
  · simp only [jnew]; rw [rep_getD]; decide
  · simp only [jnew]; exact rep_getD
/-- A journal that may be none. -/
def JO (TJ TI : TypeId) (p dp : Option Addr) : Option JSt → Assn
  | none => fun h => p = none ∧ ∀ b, h b = none
  | some j => fun h => ∃ b, p = some ⟨b, 0, none⟩ ∧ JA TJ TI b dp j h
section
variable {B w : World} {TJ TI b : Nat} {p dp : Option Addr} {j : JSt} {L : List Assn}
theorem Sat.joNone (hs : Sat B w (JO TJ TI p dp none :: L)) : p = none ∧ Sat B w L := by
  obtain ⟨h, h2⟩ := Sat.pure (p := p = none) (A := fun h => ∀ b, h b = none) hs
  exact ⟨h, h2.tail⟩
theorem Sat.joSome (hs : Sat B w (JO TJ TI p dp (some j) :: L)) : ∃ b, p = some ⟨b, 0, none⟩ ∧ Sat B w (JA TJ TI b dp j :: L) := by
  obtain ⟨b, h⟩ := Sat.ex (A := fun b h => p = some ⟨b, 0, none⟩ ∧ JA TJ TI b dp j h) hs
  exact ⟨b, h.pure⟩
theorem Sat.toJoNone (hs : Sat B w L) : Sat B w (JO TJ TI none dp none :: L) := hs.addNone ⟨rfl, fun _ => rfl⟩
theorem Sat.toJoSome (hs : Sat B w (JA TJ TI b dp j :: L)) : Sat B w (JO TJ TI (some ⟨b, 0, none⟩) dp (some j) :: L) := hs.imp fun h hh => ⟨b, rfl, hh⟩
theorem Sat.rdL0 {pre : List Assn} {F : World → Prop} (hF : ∀ w' X, Sat B w' (X :: L) → F w') (hs : Sat B w (pre ++ L)) : F w := hF w _ (Sat.pack (M := pre) hs)
end
def DOk (d : DSt) : Prop := (∀ x ∈ d.bl, IsBytes x ∧ x.length ≤ 1024) ∧ d.bl.length ≤ 64
def jformat (d : DSt) (parts : Int) : Int × Option JSt × DSt :=
  if parts < 1 ∨ 4 < parts then (1, none, d) else if d.bl.length < 2 then (92, none, d)
  else if (dwrite d 1 []).1 ≠ 0 then ((dwrite d 1 []).1, none, (dwrite d 1 []).2)
  else if (dwrite (dwrite d 1 []).2 0 (nbytes 1 (jnew parts.toNat).n)).1 ≠ 0 then ((dwrite (dwrite d 1 []).2 0 (nbytes 1 (jnew parts.toNat).n)).1, none, (dwrite (dwrite d 1 []).2 0 (nbytes 1 (jnew parts.toNat).n)).2)
  else (0, some (jnew parts.toNat), (dwrite (dwrite d 1 []).2 0 (nbytes 1 (jnew parts.toNat).n)).2)
theorem flatKI_rep (m : Nat) : KI.flat (List.replicate m 0) = List.replicate m (.int .i64 0) := by rw [El.int_flat]; simp
end Go.Proofs.Ytpmkedgennnekaa.Lg
