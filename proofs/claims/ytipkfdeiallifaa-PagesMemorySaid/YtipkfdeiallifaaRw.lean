/-
  How long the slices within structs may be: by the weights of what is handed in. No program in sight.
-/
import Derived.Test.YtipkfdeiallifaaRb
set_option linter.unusedVariables false
set_option linter.unusedSimpArgs false
namespace Go.Proofs.Ytipkfdeiallifaa.Lg
open Go Go.RowKit Go.Deep Go.ChangeShapes Go.WideShapes
section
variable {H : Type} {enc : TypeId × Value → H} {P : Program} {W : World} {base fuel : Nat} {spare : Nat → Bool} {held : Bool} {t e : TypeId} {A : Option Addr} {len cap : Nat} {d : DataW H} {ps : List MemPlace} {α : Type}
def Light (P : Program) (t : TypeId) (d : DataW H) : Prop := ∀ m ∈ d.weights P t, m ≤ 140737488351232
theorem light_of {ts : List TypeId} {ds : List (DataW H)} {j : Nat} (hsz : (DataW.weightsEach P ts ds).all (· ≤ reachBytes) = true) (ht : ts[j]? = some t) (hd : ds[j]? = some d) : Light P t d := fun m hm =>
  of_decide_eq_true (List.all_eq_true.1 hsz _ (DataW.weights_mem_each ht hd m hm))
theorem weightsAll_mem' {e : TypeId} : ∀ {l : List (DataW H)} {d : DataW H}, d ∈ l → ∀ n ∈ d.weights P e, n ∈ DataW.weightsAll P e l
  | d' :: r, d, hd, n, hn => by
    simp only [DataW.weightsAll, List.mem_append]
    rcases List.mem_cons.1 hd with rfl | h
    · exact Or.inl hn
    · exact Or.inr (weightsAll_mem' h n hn)
theorem rd_sliceW (K : El α) (Good : α → Prop) (hu : P.underlying t = some (.slice e)) (hc : P.cellsOf e = K.size) (hpos : 0 < K.size) (hl : Light P t d)
    (hdec : ∀ n cs y, DataW.trod enc P W base spare held n e cs = some y → ∃ a, K.enc a = cs ∧ (Light P e y.1 → Good a)) (h : DataW.Trod enc P W base spare held t (.slice A len cap) d ps) :
    ∃ l : List α, Rd W A len cap K.size (K.flat l) ∧ l.length = len ∧ ∀ x ∈ l, Good x := by
  obtain ⟨l, hr, hl', hd⟩ := rd_slice K (fun a z => Light P e z → Good a) hu hc hpos hdec h
  refine ⟨l, hr, hl', fun x hx => ?_⟩
  rcases hd with ⟨rfl, _⟩ | ⟨ds, sp, hd, hlen, hg⟩
  · cases hx
  · obtain ⟨i, hi, rfl⟩ := List.getElem_of_mem hx
    have this := hg i (by omega)
    have hi2 : i < ds.length := by omega
    have e1 : l.getD i K.dflt = l[i] := by rw [List.getD_eq_getElem?_getD, List.getElem?_eq_getElem hi]; rfl
    have e2 : ds.getD i .nil = ds[i] := by rw [List.getD_eq_getElem?_getD, List.getElem?_eq_getElem hi2]; rfl
    rw [e1, e2] at this
    refine this fun m hm => hl m ?_
    rw [hd]
    simp only [DataW.weights, hu, List.mem_cons, List.mem_append]
    exact Or.inr (Or.inl (weightsAll_mem' (List.getElem_mem hi2) m hm))
theorem len_light (hu : P.underlying t = some (.slice e)) {B : Nat} (hB : P.bytesOf e = B) (hl : Light P t d) (h : DataW.Trod enc P W base spare held t (.slice A len cap) d ps) : len * B ≤ 140737488351232 :=
  sized_any (ts := [t]) (ds := [d]) (j := 0) (List.all_eq_true.2 fun m hm => decide_eq_true (hl m (by simpa [DataW.weightsEach] using hm))) rfl rfl hu hB h
theorem light_part {fs : Array Field} {f : Field} {xs : List (DataW H × List MemPlace)} {x y : DataW H × List MemPlace} {i : Nat} (ht : P.underlying t = some (.struct fs)) (hf : fs[i]? = some f) (hx : x.1 = .agg (xs.map (·.1))) (hy : xs[i]? = some y) : ∀ m ∈ y.1.weights P f.type, m ∈ x.1.weights P t := fun m hm => by
  rw [hx]
  simp only [DataW.weights, ht]
  exact DataW.weights_mem_each (j := i) (by simp [hf]) (by simp [hy]) m hm
/-- Slices of slices of bytes, each no longer than its weight allows. -/
theorem rd_partsW {e q : TypeId} (hu : P.underlying t = some (.slice e)) (he : P.underlying e = some (.slice q)) (hq : P.underlying q = some (.int .u8)) (hc : P.cellsOf e = 1) (hcq : P.cellsOf q = 1) (hbq : P.bytesOf q = 1) (hl : Light P t d)
    (h : DataW.Trod enc P W base spare held t (.slice A len cap) d ps) :
    ∃ (vs : List Value) (ls : List (List Int)), Rd W A len cap 1 (El.val.flat vs) ∧ Parts W vs ls ∧ ls.length = len ∧ (∀ l ∈ ls, ∀ x ∈ l, 0 ≤ x ∧ x ≤ 255) ∧ ∀ l ∈ ls, l.length ≤ 140737488351232 := by
  obtain ⟨vs, hr, hlen, hd⟩ := rd_sliceW El.val (fun v => ∃ (A' : Option Addr) (n' c' : Nat) (l' : List Int), v = .slice A' n' c' ∧ Rd W A' n' c' 1 (bytesV l') ∧ (∀ x ∈ l', 0 ≤ x ∧ x ≤ 255) ∧ l'.length ≤ 140737488351232) hu hc (by decide) hl (fun n cs y hy => by
    rcases open_slice he hy with ⟨hcs, hx⟩ | ⟨a, len', cap', m, n', D, Pl, hcs, _⟩
    · subst hcs
      exact ⟨_, rfl, fun _ => ⟨none, 0, 0, [], rfl, Rd.none W 1, by simp, by simp⟩⟩
    · subst hcs
      have hT : DataW.Trod enc P W base spare held e (.slice (some a) len' cap') y.1 y.2 := ⟨n, hy⟩
      obtain ⟨l', r', ll', wf'⟩ := rd_ints he hq hcq hT
      exact ⟨_, rfl, fun hly => ⟨_, _, _, l', rfl, by rw [bytesV_flat]; exact r', fun x hx => wf_u8 (wf' x hx), by have := len_light he hbq hly hT; omega⟩⟩) h
  have mk : ∀ (vs : List Value), (∀ v ∈ vs, ∃ (A' : Option Addr) (n' c' : Nat) (l' : List Int), v = .slice A' n' c' ∧ Rd W A' n' c' 1 (bytesV l') ∧ (∀ x ∈ l', 0 ≤ x ∧ x ≤ 255) ∧ l'.length ≤ 140737488351232) →
      ∃ ls : List (List Int), Parts W vs ls ∧ ls.length = vs.length ∧ (∀ l ∈ ls, ∀ x ∈ l, 0 ≤ x ∧ x ≤ 255) ∧ ∀ l ∈ ls, l.length ≤ 140737488351232 := by
    intro vs
    induction vs with
    | nil => intro _; exact ⟨[], Parts.nil W, rfl, by simp, by simp⟩
    | cons v vs ih =>
      intro hg
      obtain ⟨ls, h1, h2, h3, h4⟩ := ih (fun x hx => hg x (List.mem_cons_of_mem _ hx))
      obtain ⟨A', n', c', l', hv, r', b', z'⟩ := hg v (by simp)
      subst hv
      refine ⟨l' :: ls, Parts.cons r' h1, by simp [h2], fun l hl => ?_, fun l hl => ?_⟩
      · rcases List.mem_cons.1 hl with rfl | hl
        · exact b'
        · exact h3 l hl
      · rcases List.mem_cons.1 hl with rfl | hl
        · exact z'
        · exact h4 l hl
  obtain ⟨ls, h1, h2, h3, h4⟩ := mk vs hd
  exact ⟨vs, ls, hr, h1, by omega, h3, h4⟩
end
end Go.Proofs.Ytipkfdeiallifaa.Lg
