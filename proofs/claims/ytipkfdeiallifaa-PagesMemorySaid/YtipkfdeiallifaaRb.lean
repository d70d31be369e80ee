/-
  From a law's arguments to what the walks take: slices of any elements, slices of slices of bytes; and what the bound on the bulk gives. No program in sight.
-/
import Derived.Test.YtipkfdeiallifaaRo
import Derived.Test.YtipkfdeiallifaaMp
import Derived.Test.YtipkfdeiallifaaRows
import Derived.Deep.Slices
set_option linter.unusedVariables false
set_option linter.unusedSimpArgs false
namespace Go.Proofs.Ytipkfdeiallifaa.Lg
open Go Go.RowKit Go.ChangeShapes Go.WideShapes Go.Deep

/-! The bulk. -/
theorem bulk_one {H : Type} (d : DataW H) : 1 ≤ Rows.uptoBulk d := by
  cases d with
  | lit l => cases l <;> simp [Rows.uptoBulk]
  | nil => simp [Rows.uptoBulk]
  | ptr d => simp [Rows.uptoBulk]
  | slice elems spare => simp [Rows.uptoBulk]
  | agg parts => simp [Rows.uptoBulk]
  | iface t d => simp [Rows.uptoBulk]
  | map entries => simp [Rows.uptoBulk]
  | held h => simp [Rows.uptoBulk]
theorem bulk_sum {H α : Type} (f : α → Nat) (dflt : α) : ∀ (l : List α) (ds : List (DataW H)), l.length = ds.length → (∀ i, i < l.length → f (l.getD i dflt) ≤ Rows.uptoBulk (ds.getD i .nil)) → (l.map f).sum ≤ Rows.uptoBulkAll ds
  | [], _, _, _ => by simp
  | a :: l, [], h, _ => by simp at h
  | a :: l, d :: ds, h, hf => by
    have h0 := hf 0 (by simp)
    have ih := bulk_sum f dflt l ds (by simpa using h) (fun i hi => by simpa using hf (i + 1) (by simpa using hi))
    simp only [List.getD_cons_zero] at h0
    simp only [List.map_cons, List.sum_cons, Rows.uptoBulkAll]
    omega
theorem bulk_len {H : Type} : ∀ l : List (DataW H), l.length ≤ Rows.uptoBulkAll l
  | [] => by simp
  | x :: r => by have := bulk_one x; have := bulk_len r; simp only [Rows.uptoBulkAll, List.length_cons]; omega

/-! A slice, its elements decoded. -/
section
variable {H α : Type} {enc : TypeId × Value → H} {P : Program} {W : World} {base : Nat} {spare : Nat → Bool} {held : Bool} {t e : TypeId} {A : Option Addr} {len cap : Nat} {d : DataW H} {ps : List MemPlace}
theorem rd_slice (K : El α) (Good : α → DataW H → Prop) (hu : P.underlying t = some (.slice e)) (hc : P.cellsOf e = K.size) (hpos : 0 < K.size)
    (hdec : ∀ n cs y, DataW.trod enc P W base spare held n e cs = some y → ∃ a, K.enc a = cs ∧ Good a y.1) (h : DataW.Trod enc P W base spare held t (.slice A len cap) d ps) :
    ∃ l : List α, Rd W A len cap K.size (K.flat l) ∧ l.length = len ∧ ((l = [] ∧ d = .nil) ∨ ∃ ds sp, d = .slice ds sp ∧ ds.length = len ∧ ∀ i, i < len → Good (l.getD i K.dflt) (ds.getD i .nil)) := by
  obtain ⟨fuel, hf⟩ := h
  rcases open_slice hu hf with ⟨hcs, hx⟩ | ⟨a, len', cap', m, n, D, Pl, hcs, hb, hl, hm, hmm, hx, hel⟩
  · simp [Value.cells] at hcs
    obtain ⟨rfl, rfl, rfl⟩ := hcs
    exact ⟨[], Rd.none W K.size, rfl, .inl ⟨rfl, (Prod.mk.inj hx).1⟩⟩
  · simp [Value.cells] at hcs
    obtain ⟨rfl, rfl, rfl⟩ := hcs
    have hlm : len ≤ m := by rw [hmm]; split <;> omega
    rw [hc] at hel
    have each : ∀ i, i < len → ∃ x : α, (∀ j, j < K.size → W.cell? ((a.add (i * K.size)).add j) = (K.enc x)[j]?) ∧ Good x (D i) := by
      intro i hi
      obtain ⟨cs', h1, h2⟩ := hel i (by omega)
      obtain ⟨x, hx, hg⟩ := hdec _ _ _ h2
      subst hx
      exact ⟨x, (World.cells?_some h1).2.2, hg⟩
    have hmk : ∃ l : List α, l.length = len ∧ ∀ i, i < len → (∀ j, j < K.size → W.cell? ((a.add (i * K.size)).add j) = (K.enc (l.getD i K.dflt))[j]?) ∧ Good (l.getD i K.dflt) (D i) := by
      have pre : ∀ q, q ≤ len → ∃ l : List α, l.length = q ∧ ∀ i, i < q → (∀ j, j < K.size → W.cell? ((a.add (i * K.size)).add j) = (K.enc (l.getD i K.dflt))[j]?) ∧ Good (l.getD i K.dflt) (D i) := by
        intro q
        induction q with
        | zero => intro _; exact ⟨[], rfl, fun i hi => by omega⟩
        | succ q ih =>
          intro hq
          obtain ⟨l, hll, hl⟩ := ih (by omega)
          obtain ⟨x, hx⟩ := each q (by omega)
          refine ⟨l ++ [x], by simp [hll], fun i hi => ?_⟩
          by_cases hiq : i < q
          · have : (l ++ [x]).getD i K.dflt = l.getD i K.dflt := by simp [List.getD_eq_getElem?_getD, List.getElem?_append_left (show i < l.length by omega)]
            rw [this]; exact hl i hiq
          · have hiq : i = l.length := by omega
            subst hiq
            have : (l ++ [x]).getD l.length K.dflt = x := by simp [List.getD_eq_getElem?_getD]
            rw [this]
            rw [hll]; exact hx
      exact pre len (Nat.le_refl _)
    obtain ⟨l, hll, hl9⟩ := hmk
    refine ⟨l, ⟨by rw [El.flat_length, hll], hl, fun hp => ?_, fun h => by cases h⟩, hll, .inr ⟨_, _, (Prod.mk.inj hx).1, by simp, fun i hi => ?_⟩⟩
    · have h0 := (hl9 0 hp).1 0 hpos
      have h00 : (K.enc (l.getD 0 K.dflt))[0]? = some ((K.enc (l.getD 0 K.dflt))[0]'(by rw [K.len]; exact hpos)) := List.getElem?_eq_getElem _
      rw [h00] at h0
      have ex : (a.add (0 * K.size)).add 0 = a := by simp [Addr.add]
      rw [ex] at h0
      obtain ⟨b, off, sp⟩ := a
      have hsp : sp = none := by
        cases sp with
        | none => rfl
        | some s =>
          simp only [World.cell?] at h0
          split at h0 <;> simp at h0
      subst hsp
      refine ⟨b, off, rfl, World.block_lt_of_cell? W _ h0, fun j u hj => ?_⟩
      have hj' : j < len * K.size := by
        have := (List.getElem?_eq_some_iff.1 hj).1
        rwa [El.flat_length, hll] at this
      have hi : j / K.size < len := Nat.div_lt_of_lt_mul (by rw [Nat.mul_comm]; exact hj')
      have hr : j % K.size < K.size := Nat.mod_lt _ hpos
      have hcell := (hl9 (j / K.size) hi).1 (j % K.size) hr
      have hil : j / K.size < l.length := by omega
      have hg : l.getD (j / K.size) K.dflt = l[j / K.size] := by rw [List.getD_eq_getElem?_getD, List.getElem?_eq_getElem hil]; rfl
      rw [hg] at hcell
      have hsome : (K.enc l[j / K.size])[j % K.size]? = some ((K.enc l[j / K.size])[j % K.size]'(by rw [K.len]; exact hr)) := List.getElem?_eq_getElem _
      have hfl := El.flat_get K l (j / K.size) hil (j % K.size) _ hsome
      have hdm : j / K.size * K.size + j % K.size = j := by rw [Nat.mul_comm]; exact Nat.div_add_mod j K.size
      rw [hdm, hj] at hfl
      rw [hsome, ← hfl] at hcell
      rw [← hcell]
      rw [Addr.add_lit, Addr.add_lit, Nat.add_assoc, hdm]
    · have hD : ((List.range len).map D).getD i .nil = D i := by simp [List.getD_eq_getElem?_getD, hi]
      rw [hD]; exact (hl9 i hi).2
theorem rd_slice' (K : El α) (Good : α → Prop) (hu : P.underlying t = some (.slice e)) (hc : P.cellsOf e = K.size) (hpos : 0 < K.size)
    (hdec : ∀ n cs y, DataW.trod enc P W base spare held n e cs = some y → ∃ a, K.enc a = cs ∧ Good a) (h : DataW.Trod enc P W base spare held t (.slice A len cap) d ps) :
    ∃ l : List α, Rd W A len cap K.size (K.flat l) ∧ l.length = len ∧ ∀ x ∈ l, Good x := by
  obtain ⟨l, hr, hl, hd⟩ := rd_slice K (fun a _ => Good a) hu hc hpos hdec h
  refine ⟨l, hr, hl, fun x hx => ?_⟩
  rcases hd with ⟨rfl, _⟩ | ⟨ds, sp, _, _, hg⟩
  · cases hx
  · obtain ⟨i, hi, rfl⟩ := List.getElem_of_mem hx
    have := hg i (by omega)
    rwa [List.getD_eq_getElem?_getD, List.getElem?_eq_getElem hi] at this
/-- A slice is no longer than its weight allows. -/
theorem sized_any {ts : List TypeId} {ds : List (DataW H)} {j : Nat} (hsz : (DataW.weightsEach P ts ds).all (· ≤ reachBytes) = true) (ht : ts[j]? = some t) (hd : ds[j]? = some d) (hu : P.underlying t = some (.slice e)) {B : Nat} (hB : P.bytesOf e = B)
    (h : DataW.Trod enc P W base spare held t (.slice A len cap) d ps) : len * B ≤ 140737488351232 := by
  obtain ⟨fuel, hf⟩ := h
  rcases open_slice hu hf with ⟨hcs, hx⟩ | ⟨a, len', cap', m, n, D, Pl, hcs, hb, hl, hm, hmm, hx, hel⟩
  · simp [Value.cells] at hcs
    obtain ⟨rfl, rfl, rfl⟩ := hcs
    simp
  · simp [Value.cells] at hcs
    obtain ⟨rfl, rfl, rfl⟩ := hcs
    obtain ⟨hx, _⟩ := Prod.mk.inj hx
    subst hx
    have z := sized_slice hsz ht hd hu
    rw [hB] at z
    simp only [List.length_map, List.length_range] at z
    exact Nat.le_trans (Nat.mul_le_mul_right _ (Nat.le_add_right _ _)) z
/-- A slice is no longer than its bulk. -/
theorem bulk_slice (hu : P.underlying t = some (.slice e)) (h : DataW.Trod enc P W base spare held t (.slice A len cap) d ps) : len + 1 ≤ Rows.uptoBulk d := by
  obtain ⟨fuel, hf⟩ := h
  rcases open_slice hu hf with ⟨hcs, hx⟩ | ⟨a, len', cap', m, n, D, Pl, hcs, hb, hl, hm, hmm, hx, hel⟩
  · simp [Value.cells] at hcs
    obtain ⟨rfl, rfl, rfl⟩ := hcs
    have := bulk_one d
    omega
  · simp [Value.cells] at hcs
    obtain ⟨rfl, rfl, rfl⟩ := hcs
    rw [(Prod.mk.inj hx).1]
    have := bulk_len ((List.range len).map D)
    simp only [List.length_map, List.length_range] at this
    simp only [Rows.uptoBulk]
    omega
end

section
variable {H : Type} {enc : TypeId × Value → H} {P : Program} {W : World} {base fuel : Nat} {spare : Nat → Bool} {held : Bool} {t : TypeId} {cs : List Value} {x : DataW H × List MemPlace}
theorem trod_at {fs : Array Field} (ht : P.underlying t = some (.struct fs)) (h : DataW.trod enc P W base spare held fuel t cs = some x) :
    ∃ (n : Nat) (xs : List (DataW H × List MemPlace)), x.1 = .agg (xs.map (·.1)) ∧ cs.length = P.cellsOf t ∧
      ∀ (i : Nat) (f : Field), fs[i]? = some f → ∃ y, xs[i]? = some y ∧ DataW.trod enc P W base spare held n f.type ((cs.drop f.offset).take (P.cellsOf f.type)) = some y := by
  obtain ⟨xs, n, _, hx, hl, hn, hf⟩ := DataW.trod_struct ht h
  refine ⟨n, xs, by rw [hx], hl, fun i f hif => ?_⟩
  have hi : i < xs.length := by rw [hn]; exact (Array.getElem?_eq_some_iff.1 hif).1
  have := hf i f hif
  rw [List.getElem?_eq_getElem hi] at this ⊢
  exact ⟨_, rfl, this⟩
theorem bulk_part {xs : List (DataW H × List MemPlace)} {y : DataW H × List MemPlace} {i : Nat} (hx : x.1 = .agg (xs.map (·.1))) (hy : xs[i]? = some y) : Rows.uptoBulk y.1 + 1 ≤ Rows.uptoBulk x.1 := by
  rw [hx]
  have hm : y.1 ∈ xs.map (·.1) := List.mem_map.2 ⟨y, List.mem_of_getElem? hy, rfl⟩
  have part : ∀ (l : List (DataW H)) (d : DataW H), d ∈ l → Rows.uptoBulk d ≤ Rows.uptoBulkAll l := by
    intro l
    induction l with
    | nil => intro d hd; cases hd
    | cons a r ih =>
      intro d hd
      simp only [Rows.uptoBulkAll]
      rcases List.mem_cons.1 hd with rfl | hd
      · omega
      · have := ih d hd; omega
  have := part _ _ hm
  simp only [Rows.uptoBulk]
  omega
theorem trod_float {k : FloatKind} (ht : P.underlying t = some (.float k)) (h : DataW.trod enc P W base spare held fuel t cs = some x) : ∃ n, cs = [.float k n] := by
  cases fuel with
  | zero => simp [DataW.trod] at h
  | succ n =>
    unfold DataW.trod at h
    rw [ht] at h
    split at h <;> simp_all
theorem trod_sliceF {e : TypeId} (ht : P.underlying t = some (.slice e)) (h : DataW.trod enc P W base spare held fuel t cs = some x) :
    ∃ A n c, cs = [.slice A n c] ∧ DataW.Trod enc P W base spare held t (.slice A n c) x.1 x.2 ∧ n ≤ c ∧ c ≤ maxLen := by
  rcases open_slice ht h with ⟨rfl, hx⟩ | ⟨a, len, cap, m, n, D, Pl, rfl, hb, hl, hm, hmm, hx, hel⟩
  · exact ⟨_, _, _, rfl, ⟨fuel, h⟩, Nat.le_refl _, Nat.zero_le _⟩
  · exact ⟨_, _, _, rfl, ⟨fuel, h⟩, hl, hm⟩
end
theorem agg_eq {cs : Array Value} {l : List Value} (h : cs.toList = l) : Value.agg cs = .agg l.toArray := by rw [← h]

/-- Slices of slices of bytes. -/
theorem rd_parts {H : Type} {enc : TypeId × Value → H} {P : Program} {W : World} {base : Nat} {spare : Nat → Bool} {held : Bool} {t e q : TypeId} {A : Option Addr} {len cap : Nat} {d : DataW H} {ps : List MemPlace}
    (hu : P.underlying t = some (.slice e)) (he : P.underlying e = some (.slice q)) (hq : P.underlying q = some (.int .u8)) (hc : P.cellsOf e = 1) (hcq : P.cellsOf q = 1)
    (h : DataW.Trod enc P W base spare held t (.slice A len cap) d ps) :
    ∃ (vs : List Value) (ls : List (List Int)), Rd W A len cap 1 (El.val.flat vs) ∧ Parts W vs ls ∧ ls.length = len ∧ (∀ l ∈ ls, ∀ x ∈ l, 0 ≤ x ∧ x ≤ 255) ∧ (ls.map List.length).sum + ls.length + 1 ≤ Rows.uptoBulk d := by
  let Good : Value → DataW H → Prop := fun v y => ∃ (A' : Option Addr) (n' c' : Nat) (l' : List Int), v = .slice A' n' c' ∧ Rd W A' n' c' 1 (bytesV l') ∧ (∀ x ∈ l', 0 ≤ x ∧ x ≤ 255) ∧ l'.length + 1 ≤ Rows.uptoBulk y
  obtain ⟨vs, hr, hl, hd⟩ := rd_slice El.val Good hu hc (by decide) (fun n cs y hy => by
    rcases open_slice he hy with ⟨hcs, hx⟩ | ⟨a, len', cap', m, n', D, Pl, hcs, _⟩
    · subst hcs
      exact ⟨_, rfl, none, 0, 0, [], rfl, Rd.none W 1, by simp, by simpa using bulk_one y.1⟩
    · subst hcs
      have hT : DataW.Trod enc P W base spare held e (.slice (some a) len' cap') y.1 y.2 := ⟨n, hy⟩
      obtain ⟨l', r', ll', wf'⟩ := rd_ints he hq hcq hT
      exact ⟨_, rfl, _, _, _, l', rfl, by rw [bytesV_flat]; exact r', fun x hx => wf_u8 (wf' x hx), by rw [ll']; exact bulk_slice he hT⟩) h
  have mk : ∀ (vs : List Value) (ds : List (DataW H)), vs.length = ds.length → (∀ i, i < vs.length → Good (vs.getD i (.slice none 0 0)) (ds.getD i .nil)) →
      ∃ ls : List (List Int), Parts W vs ls ∧ ls.length = vs.length ∧ (∀ l ∈ ls, ∀ x ∈ l, 0 ≤ x ∧ x ≤ 255) ∧ (ls.map List.length).sum + ls.length ≤ Rows.uptoBulkAll ds := by
    intro vs
    induction vs with
    | nil => intro ds _ _; exact ⟨[], Parts.nil W, rfl, by simp, by simp⟩
    | cons v vs ih =>
      intro ds hlen hg
      cases ds with
      | nil => simp at hlen
      | cons dd ds =>
        obtain ⟨ls, h1, h2, h3, h4⟩ := ih ds (by simpa using hlen) (fun i hi => by simpa using hg (i + 1) (by simpa using hi))
        obtain ⟨A', n', c', l', hv, r', b', hb'⟩ := hg 0 (by simp)
        simp only [List.getD_cons_zero] at hv hb'
        subst hv
        refine ⟨l' :: ls, Parts.cons r' h1, by simp [h2], fun l hl => ?_, by simp only [List.map_cons, List.sum_cons, List.length_cons, Rows.uptoBulkAll]; omega⟩
        rcases List.mem_cons.1 hl with rfl | hl
        · exact b'
        · exact h3 l hl
  rcases hd with ⟨rfl, rfl⟩ | ⟨ds, sp, rfl, hds, hg⟩
  · exact ⟨[], [], hr, Parts.nil W, hl, by simp, by simp [Rows.uptoBulk]⟩
  · obtain ⟨ls, h1, h2, h3, h4⟩ := mk vs ds (by omega) (fun i hi => hg i (by omega))
    exact ⟨vs, ls, hr, h1, by omega, h3, by simp only [Rows.uptoBulk]; omega⟩
end Go.Proofs.Ytipkfdeiallifaa.Lg
