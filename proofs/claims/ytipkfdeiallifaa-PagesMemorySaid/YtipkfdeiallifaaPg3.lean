/-
  Pages: Format and Open, the reference's likewise. By program (gen/pg3.py).
-/
import Derived.Test.YtipkfdeiallifaaPg2
set_option linter.unusedVariables false
set_option linter.unusedSimpArgs false
namespace Go.Proofs.Ytipkfdeiallifaa.Lg
open Go Go.RowKit Go.Proofs.Ytipkfdeiallifaa.WirePure
def DOk (d : DSt) : Prop := (∀ x ∈ d.bl, IsBytes x ∧ x.length ≤ 1024) ∧ d.bl.length ≤ 64
def ROk (r : RSt) : Prop := (∀ x ∈ r.bl, IsBytes x ∧ x.length ≤ 1024) ∧ r.bl.length ≤ 64 ∧ -1 ≤ r.left ∧ r.left ≤ 9223372036854775807
theorem Sat.rhd {B w : World} {TD TS TB b : Nat} {s : RSt} {L : List Assn} (hs : Sat B w (RefA TD TS TB b s :: L)) : ∃ (A : Option Addr) (c : Nat), w.heap[b]? = some (.cells (rcells s A c).toArray TD (0, 0)) := by
  obtain ⟨vs, A, c, _, h⟩ := hs.ropen
  exact ⟨A, c, (h.is_at 0 rfl).2⟩
theorem set_ok {bl : List (List Int)} {k : Nat} {l : List Int} {P : List Int → Prop} (h : ∀ x ∈ bl, P x) (hl : P l) : ∀ x ∈ bl.set k l, P x := fun x hx => by
  rcases List.mem_or_eq_of_mem_set hx with h1 | rfl
  · exact h x h1
  · exact hl
theorem DOk.len {d : DSt} (h : DOk d) : ∀ x ∈ d.bl, x.length ≤ 1024 := fun x hx => (h.1 x hx).2
theorem ROk.len {d : RSt} (h : ROk d) : ∀ x ∈ d.bl, x.length ≤ 1024 := fun x hx => (h.1 x hx).2
theorem DOk.rd {d : DSt} (h : DOk d) (i : Int) : DOk (dread d i).2.2 ∧ (dread d i).2.2.bl.length = d.bl.length ∧ (dread d i).2.2.down = d.down := by unfold dread; split <;> exact ⟨h, rfl, rfl⟩
theorem ROk.rd {d : RSt} (h : ROk d) (i : Int) : ROk (rread d i).2.2 ∧ (rread d i).2.2.bl.length = d.bl.length ∧ (rread d i).2.2.down = d.down := by unfold rread; split <;> exact ⟨h, rfl, rfl⟩
theorem DOk.wr {d : DSt} (h : DOk d) (i : Int) {l : List Int} (hl : IsBytes l) : DOk (dwrite d i l).2 ∧ (dwrite d i l).2.bl.length = d.bl.length := by
  unfold dwrite
  split
  · exact ⟨h, rfl⟩
  · split
    · exact ⟨h, rfl⟩
    · split
      · exact ⟨h, rfl⟩
      · exact ⟨⟨set_ok h.1 ⟨hl, by omega⟩, by simp only [List.length_set]; exact h.2⟩, by simp only [List.length_set]⟩
theorem ROk.wr {d : RSt} (h : ROk d) (i : Int) {l : List Int} (hl : IsBytes l) : ROk (rwrite d i l).2 ∧ (rwrite d i l).2.bl.length = d.bl.length := by
  unfold rwrite
  split
  · exact ⟨h, rfl⟩
  · split
    · exact ⟨h, rfl⟩
    · split
      · exact ⟨⟨h.1, h.2.1, by simp [roff], by simp [roff]⟩, rfl⟩
      · obtain ⟨h1, h2, h3, h4⟩ := h
        exact ⟨⟨set_ok h1 ⟨hl, by omega⟩, by simp only [List.length_set]; exact h2, by simp only; split <;> omega, by simp only; split <;> omega⟩, by simp only [List.length_set]⟩
theorem read_bytes {d : DSt} (h : DOk d) (i : Int) : IsBytes (dread d i).1 ∧ (dread d i).1.length ≤ 1024 := by
  unfold dread
  split
  · rename_i hc
    have := dcheck_0 hc
    exact h.1 _ (getD_mem_bl (by omega))
  · exact ⟨by simp [IsBytes], by simp⟩
theorem rcheck_0 {s : RSt} {i : Int} (h : rcheck s i = 0) : s.down = false ∧ 0 ≤ i ∧ i < (s.bl.length : Int) := by
  unfold rcheck at h
  split at h
  · simp at h
  · split at h
    · simp at h
    · rename_i h1 h2; exact ⟨by simpa using h1, by omega, by omega⟩
theorem rread_bytes {d : RSt} (h : ROk d) (i : Int) : IsBytes (rread d i).1 ∧ (rread d i).1.length ≤ 1024 := by
  unfold rread
  split
  · rename_i hc
    have := rcheck_0 hc
    exact h.1 _ (getD_mem_bl (by omega))
  · exact ⟨by simp [IsBytes], by simp⟩
section
variable {S : Type} {o : DOps S} {d d1 d2 : S} {n e1 e2 : Int}
theorem bformat_1 (h : n < 1 ∨ 8 < n) : bformat o d n = (1, none, d) := by unfold bformat; rw [if_pos h]
theorem bformat_92 (h : ¬ (n < 1 ∨ 8 < n)) (h2 : (o.nb d : Int) < 2 + 2 * n) : bformat o d n = (92, none, d) := by unfold bformat; rw [if_neg h, if_pos h2]
theorem bformat_w1 (h : ¬ (n < 1 ∨ 8 < n)) (h2 : ¬ (o.nb d : Int) < 2 + 2 * n) (hw : o.wr d 1 [] = (e1, d1)) (he : e1 ≠ 0) : bformat o d n = (e1, none, d1) := by unfold bformat; rw [if_neg h, if_neg h2, hw]; exact if_pos he
theorem bformat_w2 (h : ¬ (n < 1 ∨ 8 < n)) (h2 : ¬ (o.nb d : Int) < 2 + 2 * n) (hw : o.wr d 1 [] = (0, d1)) (hw2 : o.wr d1 0 (rbytes 1 (List.replicate n.toNat 0)) = (e2, d2)) (he : e2 ≠ 0) : bformat o d n = (e2, none, d2) := by
  unfold bformat; rw [if_neg h, if_neg h2, hw]; simp only [ne_eq, not_true_eq_false, if_false, hw2]; exact if_pos he
theorem bformat_ok (h : ¬ (n < 1 ∨ 8 < n)) (h2 : ¬ (o.nb d : Int) < 2 + 2 * n) (hw : o.wr d 1 [] = (0, d1)) (hw2 : o.wr d1 0 (rbytes 1 (List.replicate n.toNat 0)) = (0, d2)) : bformat o d n = (0, some (bnew n.toNat), d2) := by
  unfold bformat; rw [if_neg h, if_neg h2, hw]; simp only [ne_eq, not_true_eq_false, if_false, hw2]
/-- One root more. -/
def bstep (best : Option BSt) (r : Option (Int × List Int)) (i : Nat) : Option BSt := match r with
  | none => best
  | some (g, t) => match best with | none => some ⟨t, g, i, false⟩ | some s => if s.gen < g then some ⟨t, g, i, false⟩ else some s
def bst (o : DOps S) (d : S) (nb : Int) : Nat → Option BSt × S
  | 0 => (none, d)
  | k + 1 => (bstep (bst o d nb k).1 (rroot (o.rd (bst o d nb k).2 k).1 nb) k, (o.rd (bst o d nb k).2 k).2.2)
theorem bpick_step (a b : Option (Int × List Int)) : bpick a b = bstep (bstep none a 0) b 1 := by
  cases a with
  | none => cases b <;> rfl
  | some x => cases b <;> rfl
theorem bopen_down (h : o.down d = true) : bopen o d = (80, none, d) := by unfold bopen; rw [if_pos h]
theorem bopen_none (h : o.down d = false) (hb : (bst o d (o.nb d) (min 2 (o.nb d))).1 = none) (h1 : 1 ≤ o.nb d) : bopen o d = (90, none, (bst o d (o.nb d) (min 2 (o.nb d))).2) := by
  unfold bopen
  rw [if_neg (by rw [h]; simp)]
  by_cases h2 : o.nb d < 2
  · have e : min 2 (o.nb d) = 1 := by omega
    rw [e] at hb ⊢
    unfold broots
    rw [if_pos h2]
    simp only [rroot_nil, bpick_step]
    have : bstep none (rroot (o.rd d 0).1 (o.nb d)) 0 = none := hb
    rw [this]
    rfl
  · have e : min 2 (o.nb d) = 2 := by omega
    rw [e] at hb ⊢
    unfold broots
    rw [if_neg h2]
    simp only [bpick_step]
    have : bstep (bstep none (rroot (o.rd d 0).1 (o.nb d)) 0) (rroot (o.rd (o.rd d 0).2.2 1).1 (o.nb d)) 1 = none := hb
    rw [this]
    rfl
theorem bopen_some {s : BSt} (h : o.down d = false) (hb : (bst o d (o.nb d) (min 2 (o.nb d))).1 = some s) (h1 : 1 ≤ o.nb d) : bopen o d = (0, some s, (bst o d (o.nb d) (min 2 (o.nb d))).2) := by
  unfold bopen
  rw [if_neg (by rw [h]; simp)]
  by_cases h2 : o.nb d < 2
  · have e : min 2 (o.nb d) = 1 := by omega
    rw [e] at hb ⊢
    unfold broots
    rw [if_pos h2]
    simp only [rroot_nil, bpick_step]
    have : bstep none (rroot (o.rd d 0).1 (o.nb d)) 0 = some s := hb
    rw [this]
    rfl
  · have e : min 2 (o.nb d) = 2 := by omega
    rw [e] at hb ⊢
    unfold broots
    rw [if_neg h2]
    simp only [bpick_step]
    have : bstep (bstep none (rroot (o.rd d 0).1 (o.nb d)) 0) (rroot (o.rd (o.rd d 0).2.2 1).1 (o.nb d)) 1 = some s := hb
    rw [this]
    rfl
end
theorem bst_ok {d : DSt} (h : DOk d) (nb : Int) : ∀ k, DOk (bst dO d nb k).2 ∧ (bst dO d nb k).2.bl.length = d.bl.length ∧ (bst dO d nb k).2.down = d.down
  | 0 => ⟨h, rfl, rfl⟩
  | k + 1 => by
    obtain ⟨h1, h2, h3⟩ := bst_ok h nb k
    obtain ⟨h4, h5, h6⟩ := h1.rd (k : Int)
    exact ⟨h4, h5.trans h2, h6.trans h3⟩
theorem rroot_inv {l t : List Int} {g nb : Int} (h : rroot l nb = some (g, t)) : 1 ≤ g ∧ g ≤ 1099511627776 ∧ 1 ≤ t.length ∧ 2 + 2 * (t.length : Int) ≤ nb ∧ tabOk t nb := by
  unfold rroot at h
  split at h
  · cases h
  · split at h
    · cases h
    · rename_i h1 h2
      simp only [Option.some.injEq, Prod.mk.injEq] at h
      obtain ⟨rfl, rfl⟩ := h
      refine ⟨by omega, by omega, ?_, ?_, Decidable.not_not.1 fun q => h2 (.inr (.inr (.inr (.inr q))))⟩
      · exact Nat.pos_of_ne_zero fun q => h2 (.inr (.inr (.inl q)))
      · exact Int.not_lt.1 fun q => h2 (.inr (.inr (.inr (.inl q))))
theorem rroot_8 {l t : List Int} {g nb : Int} (hb : IsBytes l) (h : rroot l nb = some (g, t)) : t.length ≤ 8 := by
  unfold rroot at h
  split at h
  · cases h
  · split at h
    · cases h
    · rename_i h1 h2
      simp only [Option.some.injEq, Prod.mk.injEq] at h
      obtain ⟨rfl, rfl⟩ := h
      obtain ⟨⟨tl, ua, ue⟩, htn⟩ : ∃ q, tnum (l.drop (tk 0 0 l).2.1.toNat) 8 = q := ⟨_, rfl⟩
      rw [htn] at h2 ⊢
      have he : ue = 0 := Decidable.not_not.1 fun q => h2 (.inl q)
      subst he
      exact (tnum_at8 (fun c hc => hb c (List.mem_of_mem_drop hc)) htn).2.2
def rG (l : List Int) (nb : Int) : Int × List Int := (rroot l nb).getD (0, [])
theorem rG_zero {l : List Int} {nb : Int} : (rG l nb).1 = 0 ↔ rroot l nb = none := by
  unfold rG
  cases h : rroot l nb with
  | none => simp
  | some x => obtain ⟨g, t⟩ := x; have := rroot_inv h; simp; omega
theorem rG_some {l : List Int} {nb : Int} (h : (rG l nb).1 ≠ 0) : rroot l nb = some (rG l nb) := by
  cases h2 : rroot l nb with
  | none => exact absurd (rG_zero.2 h2) h
  | some x => unfold rG; rw [h2]; rfl
theorem pick_none {l l2 : List Int} {nb : Int} (h1 : (rG l nb).1 = 0) (h2 : (rG l2 nb).1 = 0) : bpick (rroot l nb) (rroot l2 nb) = none := by rw [rG_zero.1 h1, rG_zero.1 h2]; rfl
theorem pick_other {l l2 : List Int} {nb : Int} (h : (rG l2 nb).1 > (rG l nb).1) : bpick (rroot l nb) (rroot l2 nb) = some ⟨(rG l2 nb).2, (rG l2 nb).1, 1, false⟩ := by
  have h0 : 0 ≤ (rG l nb).1 := by
    by_cases e : (rG l nb).1 = 0
    · omega
    · have := rroot_inv (g := (rG l nb).1) (t := (rG l nb).2) (rG_some e); omega
  rw [rG_some (l := l2) (by omega)]
  by_cases e : (rG l nb).1 = 0
  · rw [rG_zero.1 e]; rfl
  · rw [rG_some e]; show (if (rG l nb).1 < (rG l2 nb).1 then _ else _) = _; rw [if_pos (by omega)]; rfl
theorem pick_first {l l2 : List Int} {nb : Int} (h : ¬ (rG l2 nb).1 > (rG l nb).1) (h1 : ¬ ((rG l nb).1 = 0 ∧ (rG l2 nb).1 = 0)) : bpick (rroot l nb) (rroot l2 nb) = some ⟨(rG l nb).2, (rG l nb).1, 0, false⟩ := by
  have h0 : 0 ≤ (rG l2 nb).1 := by
    by_cases e : (rG l2 nb).1 = 0
    · omega
    · have := rroot_inv (g := (rG l2 nb).1) (t := (rG l2 nb).2) (rG_some e); omega
  rw [rG_some (l := l) (by omega)]
  by_cases e : (rG l2 nb).1 = 0
  · rw [rG_zero.1 e]; rfl
  · rw [rG_some (l := l2) e]; show (if (rG l nb).1 < (rG l2 nb).1 then _ else _) = _; rw [if_neg (by omega)]; rfl
theorem ropen_none {S : Type} {o : DOps S} {d d2 : S} {l l2 : List Int} (h : o.down d = false) (hr : broots o d = (l, l2, d2)) (h1 : (rG l (o.nb d)).1 = 0) (h2 : (rG l2 (o.nb d)).1 = 0) : bopen o d = (90, none, d2) := by
  unfold bopen; rw [if_neg (by rw [h]; simp), hr]; simp only; rw [pick_none h1 h2]
theorem ropen_some {S : Type} {o : DOps S} {d d2 : S} {l l2 : List Int} {s : BSt} (h : o.down d = false) (hr : broots o d = (l, l2, d2)) (h1 : bpick (rroot l (o.nb d)) (rroot l2 (o.nb d)) = some s) : bopen o d = (0, some s, d2) := by
  unfold bopen; rw [if_neg (by rw [h]; simp), hr]; simp only; rw [h1]
theorem Sat.boIsNone {B w : World} {TB TI : Nat} {p dp : Option Addr} {s : Option BSt} {L : List Assn} (hs : Sat B w (BO TB TI p dp s :: L)) : p.isNone = s.isNone := by
  cases s with
  | none => rw [hs.boNone.1]; rfl
  | some j => obtain ⟨b, rfl, _⟩ := hs.boSome; rfl
theorem Sat.qoIsNone {B w : World} {TB TI : Nat} {p dp : Option Addr} {s : Option BSt} {L : List Assn} (hs : Sat B w (QO TB TI p dp s :: L)) : p.isNone = s.isNone := by
  cases s with
  | none => rw [hs.qoNone.1]; rfl
  | some j => obtain ⟨b, rfl, _⟩ := hs.qoSome; rfl
set_option maxRecDepth 100000 in
set_option maxHeartbeats 1000000 in
theorem BFormat_bad (w : World) (b : Nat) (n : Int) (h : n < 1 ∨ 8 < n) :
    Calls Try.prog 37 [.pointer (some ⟨b, 0, none⟩), .int .i64 n].toArray w (Ret (fun v' w' => w = w' ∧ v' = .tuple #[.pointer none, .int .i64 1])) := by
  refine Calls_body Try.func37 rfl rfl rfl (envE_cons (i := 0) (v := .pointer (some ⟨b, 0, none⟩)) rfl (envE_cons (i := 1) (v := .int .i64 n) rfl envE_nil)) ?_
  refine St_seq ?_
  refine St_region ?_
  refine Ls_run (run_assign rfl) rfl ?_
  refine Ls_run (run_assign rfl) rfl ?_
  refine Ls_nil ?_
  refine Jm_seq ?_
  refine St_seq ?_
  refine St_block ?_
  refine St_seq ?_
  refine St_region ?_
  refine Ls_run (run_move rfl) rfl ?_
  refine Ls_run (run_asB (c := false) (run_eql_ptr_nil Try.underlying46 rfl rfl) rfl) rfl ?_
  refine Ls_run (run_assign rfl) rfl ?_
  refine Ls_nil ?_
  refine Jm_seq ?_
  refine St_iff rfl ?_
  refine St_seq ?_
  refine St_region ?_
  refine Ls_run (run_move rfl) rfl ?_
  refine Ls_run (run_lss rfl rfl) rfl ?_
  refine Ls_run (run_move rfl) rfl ?_
  refine Ls_partP (t := 15) rfl (fun h2 => ?_) (fun h2 => ?_)
  · skip
    refine Ls_off rfl rfl rfl rfl ?_
    refine Ls_off rfl rfl rfl rfl ?_
    refine Ls_run (run_pick_t rfl rfl) rfl ?_
    refine Ls_run (run_assign rfl) rfl ?_
    refine Ls_nil ?_
    refine Jm_seq ?_
    refine St_ift rfl ?_
    refine St_seq ?_
    refine St_region ?_
    refine Ls_run (run_assign rfl) rfl ?_
    refine Ls_run (run_assign rfl) rfl ?_
    refine Ls_nil ?_
    refine Jm_seq ?_
    refine St_ret ?_
    refine Jm_block_ret (Jm_then_ret  ?_)
    refine Jm_ret2 rfl rfl rfl ?_
    exact ⟨_, rfl, rfl, rfl⟩
  · skip
    refine Ls_on rfl rfl ?_
    refine Ls_run (run_move rfl) rfl ?_
    refine Ls_on rfl rfl ?_
    refine Ls_run (run_gtr rfl rfl) rfl ?_
    refine Ls_run (run_pick_f rfl rfl) rfl ?_
    refine Ls_run (run_assign rfl) rfl ?_
    refine Ls_nil ?_
    refine Jm_seq ?_
    refine St_ifP rfl (fun h4 => ?_) (fun h4 => ?_)
    · skip
      refine St_seq ?_
      refine St_region ?_
      refine Ls_run (run_assign rfl) rfl ?_
      refine Ls_run (run_assign rfl) rfl ?_
      refine Ls_nil ?_
      refine Jm_seq ?_
      refine St_ret ?_
      refine Jm_block_ret (Jm_then_ret  ?_)
      refine Jm_ret2 rfl rfl rfl ?_
      exact ⟨_, rfl, rfl, rfl⟩
    · skip
      exfalso; omega
set_option maxRecDepth 100000 in
set_option maxHeartbeats 1000000 in
theorem BFormat_nil (w : World) (n : Int) :
    Calls Try.prog 37 [.pointer none, .int .i64 n].toArray w (Ret (fun v' w' => w = w' ∧ v' = .tuple #[.pointer none, .int .i64 2])) := by
  refine Calls_body Try.func37 rfl rfl rfl (envE_cons (i := 0) (v := .pointer none) rfl (envE_cons (i := 1) (v := .int .i64 n) rfl envE_nil)) ?_
  refine St_seq ?_
  refine St_region ?_
  refine Ls_run (run_assign rfl) rfl ?_
  refine Ls_run (run_assign rfl) rfl ?_
  refine Ls_nil ?_
  refine Jm_seq ?_
  refine St_seq ?_
  refine St_block ?_
  refine St_seq ?_
  refine St_region ?_
  refine Ls_run (run_move rfl) rfl ?_
  refine Ls_run (run_asB (c := true) (run_eql_ptr_nil Try.underlying46 rfl rfl) rfl) rfl ?_
  refine Ls_run (run_assign rfl) rfl ?_
  refine Ls_nil ?_
  refine Jm_seq ?_
  refine St_ift rfl ?_
  refine St_seq ?_
  refine St_region ?_
  refine Ls_run (run_assign rfl) rfl ?_
  refine Ls_run (run_assign rfl) rfl ?_
  refine Ls_nil ?_
  refine Jm_seq ?_
  refine St_ret ?_
  refine Jm_block_ret (Jm_then_ret  ?_)
  refine Jm_ret2 rfl rfl rfl ?_
  exact ⟨_, rfl, rfl, rfl⟩
set_option maxRecDepth 100000 in
set_option maxHeartbeats 1000000 in
theorem BOpen_nil (w : World) :
    Calls Try.prog 36 [.pointer none].toArray w (Ret (fun v' w' => w = w' ∧ v' = .tuple #[.pointer none, .int .i64 2])) := by
  refine Calls_body Try.func36 rfl rfl rfl (envE_cons (i := 0) (v := .pointer none) rfl envE_nil) ?_
  refine St_seq ?_
  refine St_region ?_
  refine Ls_run (run_assign rfl) rfl ?_
  refine Ls_run (run_assign rfl) rfl ?_
  refine Ls_nil ?_
  refine Jm_seq ?_
  refine St_seq ?_
  refine St_seq ?_
  refine St_region ?_
  refine Ls_run (run_move rfl) rfl ?_
  refine Ls_run (run_asB (c := true) (run_eql_ptr_nil Try.underlying46 rfl rfl) rfl) rfl ?_
  refine Ls_nil ?_
  refine Jm_seq ?_
  refine St_ift rfl ?_
  refine St_seq ?_
  refine St_region ?_
  refine Ls_run (run_assign rfl) rfl ?_
  refine Ls_run (run_assign rfl) rfl ?_
  refine Ls_nil ?_
  refine Jm_seq ?_
  refine St_ret ?_
  refine Jm_then_ret  ?_
  refine Jm_ret2 rfl rfl rfl ?_
  exact ⟨_, rfl, rfl, rfl⟩
set_option maxRecDepth 100000 in
set_option maxHeartbeats 1000000 in
theorem BFormat_g (B w : World) (L : List Assn) (b : Nat) (d : DSt) (hs : Sat B w (DiskA 129 28 5 b d :: L)) (hdok : DOk d) (m : Nat) (hm1 : 1 ≤ m) (hm8 : m ≤ 8) :
    Calls Try.prog 37 [.pointer (some ⟨b, 0, none⟩), .int .i64 (m : Int)].toArray w (Ret (fun v' w' => ∃ q, v' = .tuple #[.pointer q, .int .i64 (bformat dO d m).1] ∧ Sat B w' (BO 122 3 q (some ⟨b, 0, none⟩) (bformat dO d m).2.1 :: DiskA 129 28 5 b (bformat dO d m).2.2 :: L))) := by
  refine Calls_body Try.func37 rfl rfl rfl (envE_cons (i := 0) (v := .pointer (some ⟨b, 0, none⟩)) rfl (envE_cons (i := 1) (v := .int .i64 (m : Int)) rfl envE_nil)) ?_
  refine St_seq ?_
  refine St_region ?_
  refine Ls_run (run_assign rfl) rfl ?_
  refine Ls_run (run_assign rfl) rfl ?_
  refine Ls_nil ?_
  refine Jm_seq ?_
  refine St_seq ?_
  refine St_block ?_
  refine St_seq ?_
  refine St_region ?_
  refine Ls_run (run_move rfl) rfl ?_
  refine Ls_run (run_asB (c := false) (run_eql_ptr_nil Try.underlying46 rfl rfl) rfl) rfl ?_
  refine Ls_run (run_assign rfl) rfl ?_
  refine Ls_nil ?_
  refine Jm_seq ?_
  refine St_iff rfl ?_
  refine St_seq ?_
  refine St_region ?_
  refine Ls_run (run_move rfl) rfl ?_
  refine Ls_run (run_lss rfl rfl) rfl ?_
  refine Ls_run (run_move rfl) rfl ?_
  refine Ls_partP (t := 15) rfl (fun h2 => ?_) (fun h2 => ?_)
  · skip
    exfalso; omega
  · skip
    refine Ls_on rfl rfl ?_
    refine Ls_run (run_move rfl) rfl ?_
    refine Ls_on rfl rfl ?_
    refine Ls_run (run_gtr rfl rfl) rfl ?_
    refine Ls_run (run_pick_f rfl rfl) rfl ?_
    refine Ls_run (run_assign rfl) rfl ?_
    refine Ls_nil ?_
    refine Jm_seq ?_
    refine St_ifP rfl (fun h3 => ?_) (fun h3 => ?_)
    · skip
      exfalso; omega
    · skip
      refine St_seq ?_
      refine St_region ?_
      refine Ls_run (run_move rfl) rfl ?_
      obtain ⟨A0, c0, hd0⟩ := hs.dhd
      refine Ls_call Try.func94 nm94 rfl rfl (Blocks_c w b d A0 c0 hd0) rfl ?_
      rintro v4 w5 ⟨rfl, rfl⟩
      refine Ls_run (run_move rfl) rfl ?_
      refine Ls_run (run_mul rfl rfl (w64 (by omega))) rfl ?_
      refine Ls_run (run_add rfl rfl (w64 (by omega))) rfl ?_
      refine Ls_run (run_lss rfl rfl) rfl ?_
      refine Ls_run (run_assign rfl) rfl ?_
      refine Ls_nil ?_
      refine Jm_seq ?_
      refine St_ifP rfl (fun h6 => ?_) (fun h6 => ?_)
      · skip
        refine St_seq ?_
        refine St_region ?_
        refine Ls_run (run_assign rfl) rfl ?_
        refine Ls_run (run_assign rfl) rfl ?_
        refine Ls_nil ?_
        refine Jm_seq ?_
        refine St_ret ?_
        refine Jm_block_ret (Jm_then_ret  ?_)
        refine Jm_ret2 rfl rfl rfl ?_
        have e : bformat dO d m = (92, none, d) := bformat_92 (by omega) (by show (d.bl.length : Int) < _; omega)
        rw [e]
        exact ⟨_, rfl, none, rfl, hs.toBoNone⟩
      · skip
        refine St_skip ?_
        refine Jm_block_normal (Jm_seq ?_)
        refine St_seq ?_
        refine St_region ?_
        refine Ls_run (run_move rfl) rfl ?_
        refine Ls_run (run_move rfl) rfl ?_
        refine Ls_make (m := m) hs Try.underlying22 infq3 rfl rfl rfl (by omega) (by omega) rfl ?_
        intro b7 w9 hs
        refine Ls_run (run_buildO (pv := [(0, _), (1, _)]) rfl (bld120_0_1 _ _ _ _)) rfl ?_
        refine Ls_run (run_buildO (pv := [(0, _), (1, _)]) rfl (bld122_0_1 _ _ _ _ _)) rfl ?_
        refine Ls_box hs rfl rfl ?_
        intro b11 w10 hs
        refine Ls_run (run_assign rfl) rfl ?_
        refine Ls_nil ?_
        refine Jm_seq ?_
        refine St_seq ?_
        refine St_seq ?_
        refine St_region ?_
        refine Ls_run (run_move rfl) rfl ?_
        have hbyd1 : IsBytes [] := by simp [IsBytes]
        replace hs := hs.front 2 rfl
        simp only [List.cons_append, List.nil_append, List.eraseIdx_cons_zero, List.eraseIdx_cons_succ] at hs
        refine Ls_call Try.func96 nm96 rfl rfl (Write_c B w10 _ b d hs hdok.len 1 none 0 0 [] (fun w' X q => (show Rd w' none 0 0 1 (bytesV []) from Rd.none w' 1)) (by omega)) rfl ?_
        rintro v12 w13 ⟨rfl, hs⟩
        obtain ⟨⟨ed1, d1⟩, hwd1⟩ : ∃ q, dwrite d 1 [] = q := ⟨_, rfl⟩
        have hkd1 := hdok.wr 1 (l := []) hbyd1
        simp only [hwd1] at hs ⊢ hkd1
        refine Ls_run (run_assign rfl) rfl ?_
        refine Ls_nil ?_
        refine Jm_seq ?_
        refine St_seq ?_
        refine St_region ?_
        refine Ls_run (run_move rfl) rfl ?_
        refine Ls_run (run_neq rfl rfl) rfl ?_
        refine Ls_nil ?_
        refine Jm_seq ?_
        refine St_ifP rfl (fun h14 => ?_) (fun h14 => ?_)
        · skip
          refine St_seq ?_
          refine St_region ?_
          refine Ls_run (run_move rfl) rfl ?_
          refine Ls_run (run_assign rfl) rfl ?_
          refine Ls_run (run_assign rfl) rfl ?_
          refine Ls_nil ?_
          refine Jm_seq ?_
          refine St_ret ?_
          refine Jm_then_ret  ?_
          refine Jm_ret2 rfl rfl rfl ?_
          replace hs := hs.erase 1
          simp only [List.cons_append, List.nil_append, List.eraseIdx_cons_zero, List.eraseIdx_cons_succ] at hs
          replace hs := hs.erase 1
          simp only [List.cons_append, List.nil_append, List.eraseIdx_cons_zero, List.eraseIdx_cons_succ] at hs
          have e : bformat dO d m = (ed1, none, d1) := bformat_w1 (by omega) (show ¬ ((dO.nb d : Nat) : Int) < 2 + 2 * (m : Int) from (by show ¬ (d.bl.length : Int) < _; omega)) hwd1 (by assumption)
          rw [e]
          exact ⟨_, rfl, none, rfl, hs.toBoNone⟩
        · skip
          refine St_skip ?_
          refine Jm_seq ?_
          refine St_seq ?_
          refine St_seq ?_
          refine St_region ?_
          refine Ls_run (run_move rfl) rfl ?_
          refine Ls_run (run_move rfl) rfl ?_
          refine Ls_run (run_nilCheck rfl) rfl ?_
          refine Ls_run (run_as (run_field Try.underlying122 rfl inf120 (by decide) rfl) (show _ = Value.pointer (some ⟨b11, 1, none⟩) from rfl)) rfl ?_
          rw [← flatKI_rep m] at hs
          refine Ls_run (run_load_agg agg120 inf120 rfl rfl (hs.blk_cells 1 rfl 1 2)) rfl ?_
          refine Ls_call Try.func90 nm90 rfl rfl (rtbytes_c w13 1 _ _ (List.replicate m 0) m (by simp) (hs.rd_at 2 rfl) (by decide) (by simp; omega) (fun x hx => by rw [List.eq_of_mem_replicate hx]; decide)) rfl ?_
          rintro v15 w16 ⟨Ab, cb, rfl, hsB⟩
          replace hs := hs.trans hsB
          simp only [List.cons_append, List.nil_append] at hs
          have hnl := rbytes_len (gen := 1) (tb := List.replicate m 0) (by decide) (by simp; omega) (fun x hx => by rw [List.eq_of_mem_replicate hx]; decide)
          obtain ⟨nb, hnb⟩ : ∃ q, q = rbytes 1 (List.replicate m 0) := ⟨_, rfl⟩
          have hbyd2 : IsBytes nb := by rw [hnb]; exact rbytes_bytes _ _
          rw [← hnb] at hs hnl ⊢
          replace hs := hs.front 1 rfl
          simp only [List.cons_append, List.nil_append, List.eraseIdx_cons_zero, List.eraseIdx_cons_succ] at hs
          refine Ls_call Try.func96 nm96 rfl rfl (Write_c B w16 _ b d1 hs hkd1.1.len 0 Ab nb.length cb nb (fun w' X q => q.rd_at 1 rfl) (by omega)) rfl ?_
          rintro v17 w18 ⟨rfl, hs⟩
          obtain ⟨⟨ed2, d2⟩, hwd2⟩ : ∃ q, dwrite d1 0 nb = q := ⟨_, rfl⟩
          have hkd2 := hkd1.1.wr 0 (l := nb) hbyd2
          simp only [hwd2] at hs ⊢ hkd2
          refine Ls_run (run_assign rfl) rfl ?_
          refine Ls_nil ?_
          refine Jm_seq ?_
          refine St_seq ?_
          refine St_region ?_
          refine Ls_run (run_move rfl) rfl ?_
          refine Ls_run (run_neq rfl rfl) rfl ?_
          refine Ls_nil ?_
          refine Jm_seq ?_
          refine St_ifP rfl (fun h19 => ?_) (fun h19 => ?_)
          · skip
            refine St_seq ?_
            refine St_region ?_
            refine Ls_run (run_move rfl) rfl ?_
            refine Ls_run (run_assign rfl) rfl ?_
            refine Ls_run (run_assign rfl) rfl ?_
            refine Ls_nil ?_
            refine Jm_seq ?_
            refine St_ret ?_
            refine Jm_then_ret  ?_
            refine Jm_ret2 rfl rfl rfl ?_
            replace hs := hs.erase 1
            simp only [List.cons_append, List.nil_append, List.eraseIdx_cons_zero, List.eraseIdx_cons_succ] at hs
            replace hs := hs.erase 1
            simp only [List.cons_append, List.nil_append, List.eraseIdx_cons_zero, List.eraseIdx_cons_succ] at hs
            replace hs := hs.erase 1
            simp only [List.cons_append, List.nil_append, List.eraseIdx_cons_zero, List.eraseIdx_cons_succ] at hs
            have he1 : ed1 = 0 := by omega
            subst he1
            have hw2' : dwrite d1 0 (rbytes 1 (List.replicate ((m : Int).toNat) 0)) = (ed2, d2) := by rw [Int.toNat_natCast, ← hnb]; exact hwd2
            have e : bformat dO d m = (ed2, none, d2) := bformat_w2 (by omega) (show ¬ ((dO.nb d : Nat) : Int) < 2 + 2 * (m : Int) from (by show ¬ (d.bl.length : Int) < _; omega)) hwd1 hw2' (by assumption)
            rw [e]
            exact ⟨_, rfl, none, rfl, hs.toBoNone⟩
          · skip
            refine St_skip ?_
            refine Jm_seq ?_
            refine St_seq ?_
            refine St_region ?_
            refine Ls_run (run_move rfl) rfl ?_
            refine Ls_run (run_assign rfl) rfl ?_
            refine Ls_run (run_assign rfl) rfl ?_
            refine Ls_nil ?_
            refine Jm_seq ?_
            refine St_ret ?_
            refine Jm_ret2 rfl rfl rfl ?_
            replace hs := hs.erase 1
            simp only [List.cons_append, List.nil_append, List.eraseIdx_cons_zero, List.eraseIdx_cons_succ] at hs
            replace hs := hs.front 2 rfl
            simp only [List.cons_append, List.nil_append, List.eraseIdx_cons_zero, List.eraseIdx_cons_succ] at hs
            replace hs := hs.front 2 rfl
            simp only [List.cons_append, List.nil_append, List.eraseIdx_cons_zero, List.eraseIdx_cons_succ] at hs
            have he1 : ed1 = 0 := by omega
            subst he1
            have hw2' : dwrite d1 0 (rbytes 1 (List.replicate ((m : Int).toNat) 0)) = (ed2, d2) := by rw [Int.toNat_natCast, ← hnb]; exact hwd2
            have he2 : ed2 = 0 := by omega
            subst he2
            have e : bformat dO d m = (0, some (bnew m), d2) := bformat_ok (by omega) (show ¬ ((dO.nb d : Nat) : Int) < 2 + 2 * (m : Int) from (by show ¬ (d.bl.length : Int) < _; omega)) hwd1 hw2'
            rw [e]
            have e1 : (bnew m).tb.length = m := by simp [bnew]
            refine ⟨_, rfl, _, rfl, Sat.toBoSome (Sat.bshut (s := bnew m) (A := some ⟨b7, 0, none⟩) (c := m) ?_)⟩
            simp only [bcells, e1]
            exact hs
set_option maxRecDepth 100000 in
set_option maxHeartbeats 1000000 in
theorem rBFormat_bad (w : World) (b : Nat) (n : Int) (h : n < 1 ∨ 8 < n) :
    Calls Try.prog 40 [.pointer (some ⟨b, 0, none⟩), .int .i64 n].toArray w (Ret (fun v' w' => w = w' ∧ v' = .tuple #[.pointer none, .int .i64 1])) := by
  refine Calls_body Try.func40 rfl rfl rfl (envE_cons (i := 0) (v := .pointer (some ⟨b, 0, none⟩)) rfl (envE_cons (i := 1) (v := .int .i64 n) rfl envE_nil)) ?_
  refine St_seq ?_
  refine St_region ?_
  refine Ls_run (run_assign rfl) rfl ?_
  refine Ls_run (run_assign rfl) rfl ?_
  refine Ls_nil ?_
  refine Jm_seq ?_
  refine St_seq ?_
  refine St_seq ?_
  refine St_region ?_
  refine Ls_run (run_move rfl) rfl ?_
  refine Ls_run (run_asB (c := false) (run_eql_ptr_nil Try.underlying71 rfl rfl) rfl) rfl ?_
  refine Ls_nil ?_
  refine Jm_seq ?_
  refine St_iff rfl ?_
  refine St_skip ?_
  refine Jm_seq ?_
  refine St_seq ?_
  refine St_seq ?_
  refine St_region ?_
  refine Ls_run (run_move rfl) rfl ?_
  refine Ls_run (run_lss rfl rfl) rfl ?_
  refine Ls_run (run_move rfl) rfl ?_
  refine Ls_partP (t := 13) rfl (fun h2 => ?_) (fun h2 => ?_)
  · skip
    refine Ls_off rfl rfl rfl rfl ?_
    refine Ls_off rfl rfl rfl rfl ?_
    refine Ls_run (run_pick_t rfl rfl) rfl ?_
    refine Ls_nil ?_
    refine Jm_seq ?_
    refine St_ift rfl ?_
    refine St_seq ?_
    refine St_region ?_
    refine Ls_run (run_assign rfl) rfl ?_
    refine Ls_run (run_assign rfl) rfl ?_
    refine Ls_nil ?_
    refine Jm_seq ?_
    refine St_ret ?_
    refine Jm_then_ret  ?_
    refine Jm_ret2 rfl rfl rfl ?_
    exact ⟨_, rfl, rfl, rfl⟩
  · skip
    refine Ls_on rfl rfl ?_
    refine Ls_run (run_move rfl) rfl ?_
    refine Ls_on rfl rfl ?_
    refine Ls_run (run_gtr rfl rfl) rfl ?_
    refine Ls_run (run_pick_f rfl rfl) rfl ?_
    refine Ls_nil ?_
    refine Jm_seq ?_
    refine St_ifP rfl (fun h4 => ?_) (fun h4 => ?_)
    · skip
      refine St_seq ?_
      refine St_region ?_
      refine Ls_run (run_assign rfl) rfl ?_
      refine Ls_run (run_assign rfl) rfl ?_
      refine Ls_nil ?_
      refine Jm_seq ?_
      refine St_ret ?_
      refine Jm_then_ret  ?_
      refine Jm_ret2 rfl rfl rfl ?_
      exact ⟨_, rfl, rfl, rfl⟩
    · skip
      exfalso; omega
set_option maxRecDepth 100000 in
set_option maxHeartbeats 1000000 in
theorem rBFormat_nil (w : World) (n : Int) :
    Calls Try.prog 40 [.pointer none, .int .i64 n].toArray w (Ret (fun v' w' => w = w' ∧ v' = .tuple #[.pointer none, .int .i64 2])) := by
  refine Calls_body Try.func40 rfl rfl rfl (envE_cons (i := 0) (v := .pointer none) rfl (envE_cons (i := 1) (v := .int .i64 n) rfl envE_nil)) ?_
  refine St_seq ?_
  refine St_region ?_
  refine Ls_run (run_assign rfl) rfl ?_
  refine Ls_run (run_assign rfl) rfl ?_
  refine Ls_nil ?_
  refine Jm_seq ?_
  refine St_seq ?_
  refine St_seq ?_
  refine St_region ?_
  refine Ls_run (run_move rfl) rfl ?_
  refine Ls_run (run_asB (c := true) (run_eql_ptr_nil Try.underlying71 rfl rfl) rfl) rfl ?_
  refine Ls_nil ?_
  refine Jm_seq ?_
  refine St_ift rfl ?_
  refine St_seq ?_
  refine St_region ?_
  refine Ls_run (run_assign rfl) rfl ?_
  refine Ls_run (run_assign rfl) rfl ?_
  refine Ls_nil ?_
  refine Jm_seq ?_
  refine St_ret ?_
  refine Jm_then_ret  ?_
  refine Jm_ret2 rfl rfl rfl ?_
  exact ⟨_, rfl, rfl, rfl⟩
set_option maxRecDepth 100000 in
set_option maxHeartbeats 1000000 in
theorem rBOpen_nil (w : World) :
    Calls Try.prog 48 [.pointer none].toArray w (Ret (fun v' w' => w = w' ∧ v' = .tuple #[.pointer none, .int .i64 2])) := by
  refine Calls_body Try.func48 rfl rfl rfl (envE_cons (i := 0) (v := .pointer none) rfl envE_nil) ?_
  refine St_seq ?_
  refine St_region ?_
  refine Ls_run (run_assign rfl) rfl ?_
  refine Ls_run (run_assign rfl) rfl ?_
  refine Ls_nil ?_
  refine Jm_seq ?_
  refine St_seq ?_
  refine St_seq ?_
  refine St_region ?_
  refine Ls_run (run_move rfl) rfl ?_
  refine Ls_run (run_asB (c := true) (run_eql_ptr_nil Try.underlying71 rfl rfl) rfl) rfl ?_
  refine Ls_nil ?_
  refine Jm_seq ?_
  refine St_ift rfl ?_
  refine St_seq ?_
  refine St_region ?_
  refine Ls_run (run_assign rfl) rfl ?_
  refine Ls_run (run_assign rfl) rfl ?_
  refine Ls_nil ?_
  refine Jm_seq ?_
  refine St_ret ?_
  refine Jm_then_ret  ?_
  refine Jm_ret2 rfl rfl rfl ?_
  exact ⟨_, rfl, rfl, rfl⟩
set_option maxRecDepth 100000 in
set_option maxHeartbeats 1000000 in
theorem rBFormat_g (B w : World) (L : List Assn) (b : Nat) (d : RSt) (hs : Sat B w (RefA 135 28 5 b d :: L)) (hdok : ROk d) (m : Nat) (hm1 : 1 ≤ m) (hm8 : m ≤ 8) :
    Calls Try.prog 40 [.pointer (some ⟨b, 0, none⟩), .int .i64 (m : Int)].toArray w (Ret (fun v' w' => ∃ q, v' = .tuple #[.pointer q, .int .i64 (bformat rO d m).1] ∧ Sat B w' (QO 138 3 q (some ⟨b, 0, none⟩) (bformat rO d m).2.1 :: RefA 135 28 5 b (bformat rO d m).2.2 :: L))) := by
  refine Calls_body Try.func40 rfl rfl rfl (envE_cons (i := 0) (v := .pointer (some ⟨b, 0, none⟩)) rfl (envE_cons (i := 1) (v := .int .i64 (m : Int)) rfl envE_nil)) ?_
  refine St_seq ?_
  refine St_region ?_
  refine Ls_run (run_assign rfl) rfl ?_
  refine Ls_run (run_assign rfl) rfl ?_
  refine Ls_nil ?_
  refine Jm_seq ?_
  refine St_seq ?_
  refine St_seq ?_
  refine St_region ?_
  refine Ls_run (run_move rfl) rfl ?_
  refine Ls_run (run_asB (c := false) (run_eql_ptr_nil Try.underlying71 rfl rfl) rfl) rfl ?_
  refine Ls_nil ?_
  refine Jm_seq ?_
  refine St_iff rfl ?_
  refine St_skip ?_
  refine Jm_seq ?_
  refine St_seq ?_
  refine St_seq ?_
  refine St_region ?_
  refine Ls_run (run_move rfl) rfl ?_
  refine Ls_run (run_lss rfl rfl) rfl ?_
  refine Ls_run (run_move rfl) rfl ?_
  refine Ls_partP (t := 13) rfl (fun h2 => ?_) (fun h2 => ?_)
  · skip
    exfalso; omega
  · skip
    refine Ls_on rfl rfl ?_
    refine Ls_run (run_move rfl) rfl ?_
    refine Ls_on rfl rfl ?_
    refine Ls_run (run_gtr rfl rfl) rfl ?_
    refine Ls_run (run_pick_f rfl rfl) rfl ?_
    refine Ls_nil ?_
    refine Jm_seq ?_
    refine St_ifP rfl (fun h3 => ?_) (fun h3 => ?_)
    · skip
      exfalso; omega
    · skip
      refine St_skip ?_
      refine Jm_seq ?_
      refine St_seq ?_
      refine St_seq ?_
      refine St_region ?_
      refine Ls_run (run_move rfl) rfl ?_
      obtain ⟨A0, c0, hd0⟩ := hs.rhd
      refine Ls_call Try.func97 nm97 rfl rfl (rBlocks_c w b d A0 c0 hd0) rfl ?_
      rintro v4 w5 ⟨rfl, rfl⟩
      refine Ls_run (run_move rfl) rfl ?_
      refine Ls_run (run_mul rfl rfl (w64 (by omega))) rfl ?_
      refine Ls_run (run_add rfl rfl (w64 (by omega))) rfl ?_
      refine Ls_run (run_lss rfl rfl) rfl ?_
      refine Ls_nil ?_
      refine Jm_seq ?_
      refine St_ifP rfl (fun h6 => ?_) (fun h6 => ?_)
      · skip
        refine St_seq ?_
        refine St_region ?_
        refine Ls_run (run_assign rfl) rfl ?_
        refine Ls_run (run_assign rfl) rfl ?_
        refine Ls_nil ?_
        refine Jm_seq ?_
        refine St_ret ?_
        refine Jm_then_ret  ?_
        refine Jm_ret2 rfl rfl rfl ?_
        have e : bformat rO d m = (92, none, d) := bformat_92 (by omega) (by show (d.bl.length : Int) < _; omega)
        rw [e]
        exact ⟨_, rfl, none, rfl, hs.toQoNone⟩
      · skip
        refine St_skip ?_
        refine Jm_seq ?_
        refine St_seq ?_
        refine St_seq ?_
        refine St_region ?_
        refine Ls_run (run_move rfl) rfl ?_
        have hbyd1 : IsBytes [] := by simp [IsBytes]
        refine Ls_call Try.func98 nm98 rfl rfl (rWrite_c B w _ b d hs hdok.len ⟨hdok.2.2.1, hdok.2.2.2⟩ 1 none 0 0 [] (fun w' X q => (show Rd w' none 0 0 1 (bytesV []) from Rd.none w' 1)) (by omega)) rfl ?_
        rintro v7 w9 ⟨rfl, hs⟩
        obtain ⟨⟨ed1, d1⟩, hwd1⟩ : ∃ q, rwrite d 1 [] = q := ⟨_, rfl⟩
        have hkd1 := hdok.wr 1 (l := []) hbyd1
        simp only [hwd1] at hs ⊢ hkd1
        refine Ls_run (run_assign rfl) rfl ?_
        refine Ls_nil ?_
        refine Jm_seq ?_
        refine St_seq ?_
        refine St_region ?_
        refine Ls_run (run_move rfl) rfl ?_
        refine Ls_run (run_neq rfl rfl) rfl ?_
        refine Ls_nil ?_
        refine Jm_seq ?_
        refine St_ifP rfl (fun h10 => ?_) (fun h10 => ?_)
        · skip
          refine St_seq ?_
          refine St_region ?_
          refine Ls_run (run_move rfl) rfl ?_
          refine Ls_run (run_assign rfl) rfl ?_
          refine Ls_run (run_assign rfl) rfl ?_
          refine Ls_nil ?_
          refine Jm_seq ?_
          refine St_ret ?_
          refine Jm_then_ret  ?_
          refine Jm_ret2 rfl rfl rfl ?_
          have e : bformat rO d m = (ed1, none, d1) := bformat_w1 (by omega) (show ¬ ((rO.nb d : Nat) : Int) < 2 + 2 * (m : Int) from (by show ¬ (d.bl.length : Int) < _; omega)) hwd1 (by assumption)
          rw [e]
          exact ⟨_, rfl, none, rfl, hs.toQoNone⟩
        · skip
          refine St_skip ?_
          refine Jm_seq ?_
          refine St_seq ?_
          refine St_region ?_
          refine Ls_run (run_move rfl) rfl ?_
          refine Ls_make (m := m) hs Try.underlying22 infq3 rfl rfl rfl (by omega) (by omega) rfl ?_
          intro b11 w12 hs
          refine Ls_run (run_assign rfl) rfl ?_
          refine Ls_nil ?_
          refine Jm_seq ?_
          refine St_seq ?_
          refine St_seq ?_
          refine St_region ?_
          refine Ls_run (run_move rfl) rfl ?_
          refine Ls_run (run_move rfl) rfl ?_
          rw [← flatKI_rep m] at hs
          refine Ls_call Try.func99 nm99 rfl rfl (Root_c w12 1 _ _ (List.replicate m 0) m (by simp) (hs.rd_at 0 rfl) (by decide) (by simp; omega) (fun x hx => by rw [List.eq_of_mem_replicate hx]; decide)) rfl ?_
          rintro v13 w14 ⟨Ab, cb, rfl, hsB⟩
          replace hs := hs.trans hsB
          simp only [List.cons_append, List.nil_append] at hs
          have hnl := rbytes_len (gen := 1) (tb := List.replicate m 0) (by decide) (by simp; omega) (fun x hx => by rw [List.eq_of_mem_replicate hx]; decide)
          obtain ⟨nb, hnb⟩ : ∃ q, q = rbytes 1 (List.replicate m 0) := ⟨_, rfl⟩
          have hbyd2 : IsBytes nb := by rw [hnb]; exact rbytes_bytes _ _
          rw [← hnb] at hs hnl ⊢
          replace hs := hs.front 2 rfl
          simp only [List.cons_append, List.nil_append, List.eraseIdx_cons_zero, List.eraseIdx_cons_succ] at hs
          refine Ls_call Try.func98 nm98 rfl rfl (rWrite_c B w14 _ b d1 hs hkd1.1.len ⟨hkd1.1.2.2.1, hkd1.1.2.2.2⟩ 0 Ab nb.length cb nb (fun w' X q => q.rd_at 1 rfl) (by omega)) rfl ?_
          rintro v15 w16 ⟨rfl, hs⟩
          obtain ⟨⟨ed2, d2⟩, hwd2⟩ : ∃ q, rwrite d1 0 nb = q := ⟨_, rfl⟩
          have hkd2 := hkd1.1.wr 0 (l := nb) hbyd2
          simp only [hwd2] at hs ⊢ hkd2
          refine Ls_run (run_assign rfl) rfl ?_
          refine Ls_nil ?_
          refine Jm_seq ?_
          refine St_seq ?_
          refine St_region ?_
          refine Ls_run (run_move rfl) rfl ?_
          refine Ls_run (run_neq rfl rfl) rfl ?_
          refine Ls_nil ?_
          refine Jm_seq ?_
          refine St_ifP rfl (fun h17 => ?_) (fun h17 => ?_)
          · skip
            refine St_seq ?_
            refine St_region ?_
            refine Ls_run (run_move rfl) rfl ?_
            refine Ls_run (run_assign rfl) rfl ?_
            refine Ls_run (run_assign rfl) rfl ?_
            refine Ls_nil ?_
            refine Jm_seq ?_
            refine St_ret ?_
            refine Jm_then_ret  ?_
            refine Jm_ret2 rfl rfl rfl ?_
            replace hs := hs.erase 1
            simp only [List.cons_append, List.nil_append, List.eraseIdx_cons_zero, List.eraseIdx_cons_succ] at hs
            replace hs := hs.erase 1
            simp only [List.cons_append, List.nil_append, List.eraseIdx_cons_zero, List.eraseIdx_cons_succ] at hs
            have he1 : ed1 = 0 := by omega
            subst he1
            have hw2' : rwrite d1 0 (rbytes 1 (List.replicate ((m : Int).toNat) 0)) = (ed2, d2) := by rw [Int.toNat_natCast, ← hnb]; exact hwd2
            have e : bformat rO d m = (ed2, none, d2) := bformat_w2 (by omega) (show ¬ ((rO.nb d : Nat) : Int) < 2 + 2 * (m : Int) from (by show ¬ (d.bl.length : Int) < _; omega)) hwd1 hw2' (by assumption)
            rw [e]
            exact ⟨_, rfl, none, rfl, hs.toQoNone⟩
          · skip
            refine St_skip ?_
            refine Jm_seq ?_
            refine St_seq ?_
            refine St_region ?_
            refine Ls_run (run_move rfl) rfl ?_
            refine Ls_run (run_move rfl) rfl ?_
            refine Ls_run (run_buildO (pv := [(0, _), (1, _), (2, _)]) rfl (bld138_0_1_2 _ _ _ _ _)) rfl ?_
            refine Ls_box hs rfl rfl ?_
            intro b19 w18 hs
            refine Ls_run (run_assign rfl) rfl ?_
            refine Ls_run (run_assign rfl) rfl ?_
            refine Ls_nil ?_
            refine Jm_seq ?_
            refine St_ret ?_
            refine Jm_ret2 rfl rfl rfl ?_
            replace hs := hs.erase 2
            simp only [List.cons_append, List.nil_append, List.eraseIdx_cons_zero, List.eraseIdx_cons_succ] at hs
            replace hs := hs.front 1 rfl
            simp only [List.cons_append, List.nil_append, List.eraseIdx_cons_zero, List.eraseIdx_cons_succ] at hs
            replace hs := hs.front 2 rfl
            simp only [List.cons_append, List.nil_append, List.eraseIdx_cons_zero, List.eraseIdx_cons_succ] at hs
            replace hs := hs.front 2 rfl
            simp only [List.cons_append, List.nil_append, List.eraseIdx_cons_zero, List.eraseIdx_cons_succ] at hs
            have he1 : ed1 = 0 := by omega
            subst he1
            have hw2' : rwrite d1 0 (rbytes 1 (List.replicate ((m : Int).toNat) 0)) = (ed2, d2) := by rw [Int.toNat_natCast, ← hnb]; exact hwd2
            have he2 : ed2 = 0 := by omega
            subst he2
            have e : bformat rO d m = (0, some (bnew m), d2) := bformat_ok (by omega) (show ¬ ((rO.nb d : Nat) : Int) < 2 + 2 * (m : Int) from (by show ¬ (d.bl.length : Int) < _; omega)) hwd1 hw2'
            rw [e]
            have e1 : (bnew m).tb.length = m := by simp [bnew]
            refine ⟨_, rfl, _, rfl, Sat.toQoSome (Sat.qshut (s := bnew m) (A := some ⟨b11, 0, none⟩) (c := m) ?_)⟩
            simp only [qcells, e1]
            exact hs
set_option maxRecDepth 100000 in
set_option maxHeartbeats 1000000 in
theorem BOpen_g (B w : World) (L : List Assn) (b : Nat) (d : DSt) (hs : Sat B w (DiskA 129 28 5 b d :: L)) (hdok : DOk d) (hl1 : 1 ≤ d.bl.length) :
    Calls Try.prog 36 [.pointer (some ⟨b, 0, none⟩)].toArray w (Ret (fun v' w' => ∃ q, v' = .tuple #[.pointer q, .int .i64 (bopen dO d).1] ∧ Sat B w' (BO 122 3 q (some ⟨b, 0, none⟩) (bopen dO d).2.1 :: DiskA 129 28 5 b (bopen dO d).2.2 :: L))) := by
  refine Calls_body Try.func36 rfl rfl rfl (envE_cons (i := 0) (v := .pointer (some ⟨b, 0, none⟩)) rfl envE_nil) ?_
  refine St_seq ?_
  refine St_region ?_
  refine Ls_run (run_assign rfl) rfl ?_
  refine Ls_run (run_assign rfl) rfl ?_
  refine Ls_nil ?_
  refine Jm_seq ?_
  refine St_seq ?_
  refine St_seq ?_
  refine St_region ?_
  refine Ls_run (run_move rfl) rfl ?_
  refine Ls_run (run_asB (c := false) (run_eql_ptr_nil Try.underlying46 rfl rfl) rfl) rfl ?_
  refine Ls_nil ?_
  refine Jm_seq ?_
  refine St_iff rfl ?_
  refine St_skip ?_
  refine Jm_seq ?_
  refine St_seq ?_
  refine St_region ?_
  refine Ls_run (run_assign rfl) rfl ?_
  refine Ls_nil ?_
  refine Jm_seq ?_
  refine St_seq ?_
  refine St_seq ?_
  refine St_region ?_
  refine Ls_run (run_move rfl) rfl ?_
  obtain ⟨A0, c0, hd0⟩ := hs.dhd
  refine Ls_call Try.func94 nm94 rfl rfl (Blocks_c w b d A0 c0 hd0) rfl ?_
  rintro v2 w3 ⟨rfl, rfl⟩
  refine Ls_run (run_as (run_min rfl rfl) (show _ = Value.int .i64 ((min 2 d.bl.length : Nat) : Int) by congr 1; omega)) rfl ?_
  refine Ls_run (run_move rfl) rfl ?_
  refine Ls_nil ?_
  refine Jm_seq ?_
  refine St_block ?_
  replace hs := Sat.toBoNone (TB := 122) (TI := 3) (dp := some ⟨b, 0, none⟩) hs
  obtain ⟨En4, hEn4⟩ : ∃ F : Nat × Option Addr → Env, ∀ (i : Nat) (q : Option Addr), F (i, q) = [(0, .pointer (some ⟨b, 0, none⟩)), (4, .pointer q), (14, .int .i64 ((min 2 d.bl.length : Nat) : Int)), (15, .int .i64 (i : Int))] := ⟨(fun (sx0 : Nat × Option Addr) => match sx0 with | (i, q) => [(0, .pointer (some ⟨b, 0, none⟩)), (4, .pointer q), (14, .int .i64 ((min 2 d.bl.length : Nat) : Int)), (15, .int .i64 (i : Int))]), fun _ _ => rfl⟩
  obtain ⟨Iv5, hIv5⟩ : ∃ F : Nat × Option Addr → World → Prop, ∀ (i : Nat) (q : Option Addr) (wr : World), F (i, q) wr = (Sat B wr (BO 122 3 q (some ⟨b, 0, none⟩) (bst dO d (d.bl.length : Int) i).1 :: DiskA 129 28 5 b (bst dO d (d.bl.length : Int) i).2 :: L) ∧ i ≤ min 2 d.bl.length ∧ (0 < i → d.down = false)) := ⟨(fun (sx0 : Nat × Option Addr) => match sx0 with | (i, q) => fun (wr : World) => Sat B wr (BO 122 3 q (some ⟨b, 0, none⟩) (bst dO d (d.bl.length : Int) i).1 :: DiskA 129 28 5 b (bst dO d (d.bl.length : Int) i).2 :: L) ∧ i ≤ min 2 d.bl.length ∧ (0 < i → d.down = false)), fun _ _ _ => rfl⟩
  obtain ⟨ms6, hms6⟩ : ∃ F : Nat × Option Addr → Nat, ∀ (i : Nat) (q : Option Addr), F (i, q) = (min 2 d.bl.length - i) := ⟨(fun (sx0 : Nat × Option Addr) => match sx0 with | (i, q) => min 2 d.bl.length - i), fun _ _ => rfl⟩
  refine St_loop En4 Iv5 ms6 (0, none) ?_ ?_ ?_
  · skip
    rw [hIv5]
    exact ⟨hs, by omega, fun h => by omega⟩
  · rw [hEn4]; exact (subE_cons rfl (subE_cons rfl (subE_cons rfl (subE_cons rfl subE_nil))))
  rintro ⟨i, q⟩ wr hI7
  rw [hIv5] at hI7
  obtain ⟨hs, hi, hdw⟩ := hI7
  refine St_eqE (hEn4 _ _) ?_
  refine St_seq ?_
  refine St_region ?_
  refine Ls_run (run_lss rfl rfl) rfl ?_
  refine Ls_nil ?_
  refine Jm_seq ?_
  refine St_seq ?_
  refine St_ifP rfl (fun h8 => ?_) (fun h8 => ?_)
  · skip
    refine St_skip ?_
    refine Jm_seq ?_
    refine St_seq ?_
    refine St_block ?_
    refine St_seq ?_
    refine St_region ?_
    refine Ls_run (run_move rfl) rfl ?_
    refine Ls_run (run_assign rfl) rfl ?_
    refine Ls_nil ?_
    refine Jm_seq ?_
    refine St_seq ?_
    refine St_region ?_
    refine Ls_run (run_move rfl) rfl ?_
    refine Ls_run (run_move rfl) rfl ?_
    replace hs := hs.front 1 rfl
    simp only [List.cons_append, List.nil_append, List.eraseIdx_cons_zero, List.eraseIdx_cons_succ] at hs
    obtain ⟨hb1, hb2, hb3⟩ := bst_ok hdok (d.bl.length : Int) i
    refine Ls_call Try.func92 nm92 rfl rfl (Read_c B wr _ b (bst dO d (d.bl.length : Int) i).2 hs hb1.len (i : Int)) rfl ?_
    rintro v9 w10 ⟨Ar, cr, rfl, hs⟩
    have hrb := read_bytes hb1 (i : Int)
    have hre : (dread (bst dO d (d.bl.length : Int) i).2 (i : Int)).2.1 = dcheck (bst dO d (d.bl.length : Int) i).2 (i : Int) := by unfold dread; split <;> simp_all
    obtain ⟨⟨rl, re, rdk⟩, hrd⟩ : ∃ q, dread (bst dO d (d.bl.length : Int) i).2 (i : Int) = q := ⟨_, rfl⟩
    simp only [hrd] at hs hrb hre ⊢
    refine Ls_run (run_move rfl) rfl ?_
    refine Ls_run (run_extract rfl rfl) rfl ?_
    refine Ls_run (run_extract rfl rfl) rfl ?_
    refine Ls_run (run_assign rfl) rfl ?_
    refine Ls_run (run_assign rfl) rfl ?_
    refine Ls_nil ?_
    refine Jm_seq ?_
    refine St_seq ?_
    refine St_seq ?_
    refine St_region ?_
    refine Ls_run (run_move rfl) rfl ?_
    refine Ls_run (run_neq rfl rfl) rfl ?_
    refine Ls_nil ?_
    refine Jm_seq ?_
    refine St_ifP rfl (fun h11 => ?_) (fun h11 => ?_)
    · skip
      refine St_seq ?_
      refine St_region ?_
      refine Ls_run (run_move rfl) rfl ?_
      refine Ls_run (run_assign rfl) rfl ?_
      refine Ls_run (run_assign rfl) rfl ?_
      refine Ls_nil ?_
      refine Jm_seq ?_
      refine St_ret ?_
      refine Jm_then_ret (Jm_block_ret (Jm_then_ret (Jm_then_ret (Jm_block_ret (Jm_then_ret  ?_)))))
      refine Jm_ret2 rfl rfl rfl ?_
      replace hs := hs.erase 1
      simp only [List.cons_append, List.nil_append, List.eraseIdx_cons_zero, List.eraseIdx_cons_succ] at hs
      replace hs := hs.erase 1
      simp only [List.cons_append, List.nil_append, List.eraseIdx_cons_zero, List.eraseIdx_cons_succ] at hs
      have hsZ := hs
      have hi0 : i = 0 := by
        rcases Nat.eq_zero_or_pos i with h | h
        · exact h
        · exfalso; have := hdw h; unfold dcheck at hre; rw [hb3, this, hb2, if_neg (by simp), if_neg (by omega)] at hre; omega
      subst hi0
      have hdn : d.down = true := by
        cases hz : d.down with
        | true => rfl
        | false => exfalso; unfold dcheck at hre; rw [hb3, hz, hb2, if_neg (by simp), if_neg (by omega)] at hre; omega
      have hr80 : re = 80 ∧ rdk = d := by
        have : dread d 0 = ([], 80, d) := by unfold dread dcheck; rw [hdn]; simp
        have h8 : dread d 0 = (rl, re, rdk) := hrd
        rw [this] at h8; simp only [Prod.mk.injEq] at h8; exact ⟨h8.2.1.symm, h8.2.2.symm⟩
      obtain ⟨rfl, rfl⟩ := hr80
      rw [bopen_down (o := dO) hdn]
      exact ⟨_, rfl, none, rfl, hsZ.toBoNone⟩
    · skip
      have hdn : d.down = false := by
        cases hz : d.down with
        | false => rfl
        | true => exfalso; unfold dcheck at hre; rw [hb3, hz] at hre; simp at hre; omega
      refine St_skip ?_
      refine Jm_seq ?_
      refine St_seq ?_
      refine St_region ?_
      refine Ls_run (run_move rfl) rfl ?_
      refine Ls_run (run_move rfl) rfl ?_
      obtain ⟨A0, c0, hd0⟩ := hs.dhd
      refine Ls_call Try.func94 nm94 rfl rfl (Blocks_c w10 b rdk A0 c0 hd0) rfl ?_
      rintro v12 w13 ⟨rfl, rfl⟩
      have hrl2 : rdk.bl.length = d.bl.length := by have := (hb1.rd (i : Int)).2.1; rw [hrd] at this; exact this.trans hb2
      rw [hrl2]
      refine Ls_call Try.func95 nm95 rfl rfl (readRoot_c w10 _ _ _ rl (d.bl.length : Int) (hs.rd_at 1 rfl) hrb.1 (by omega) (by have := hdok.2; omega)) rfl ?_
      rintro v14 w15 ⟨Ag, cg, rfl, hsG⟩
      replace hs := hs.trans hsG
      simp only [List.cons_append, List.nil_append] at hs
      obtain ⟨⟨g, tg⟩, hg⟩ : ∃ q, (rroot rl (d.bl.length : Int)).getD (0, []) = q := ⟨_, rfl⟩
      simp only [hg] at hs ⊢
      refine Ls_run (run_move rfl) rfl ?_
      refine Ls_run (run_extract rfl rfl) rfl ?_
      refine Ls_run (run_extract rfl rfl) rfl ?_
      refine Ls_alloc hs inf120 rfl ?_
      intro b17 w16 hs
      refine Ls_storeAgg hs inf120 rfl rfl rfl rfl (by simp [Value.oneCell', Value.cells, bcells, qcells]) ?_
      intro w18 hs
      refine Ls_run (run_assign rfl) rfl ?_
      refine Ls_nil ?_
      refine Jm_seq ?_
      refine St_seq ?_
      refine St_draw (fun x => Below w18.heap.size w18 x) mixed ?_
      intro w19 q20
      have hH := q20.below
      replace hs := hs.quiet q20
      refine An_grow hH ?_
      replace hH := Below.refl w19.heap.size w19
      refine An_take 0 rfl (by kernel_rfl) (by kernel_rfl) (by kernel_rfl) (fun _ _ _ h => h) hH (fun x hx => run_move rfl) rfl ?_
      refine An_take 1 rfl (by kernel_rfl) (by kernel_rfl) (by kernel_rfl) (fun _ _ _ h => h) hH (fun x hx => run_move rfl) rfl ?_
      refine An_part (t := 35) rfl (fun h21 => ?_) (fun h21 => ?_)
      · skip
        refine An_take_on 2 rfl (by kernel_rfl) (by kernel_rfl) (by kernel_rfl) rfl rfl (fun _ _ _ h => h) hH (fun x hx => run_move rfl) rfl ?_
        refine An_take_on 3 rfl (by kernel_rfl) (by kernel_rfl) (by kernel_rfl) rfl rfl (fun _ _ _ h => h) hH (fun x hx => run_eql_ptr_nil Try.underlying47 rfl rfl) rfl ?_
        refine An_take_on 4 rfl (by kernel_rfl) (by kernel_rfl) (by kernel_rfl) rfl rfl (fun _ _ _ h => h) hH (fun x hx => run_move rfl) rfl ?_
        refine An_part (t := 38) rfl (fun h22 => ?_) (fun h22 => ?_)
        · skip
          replace hs := hs.front 4 rfl
          simp only [List.cons_append, List.nil_append, List.eraseIdx_cons_zero, List.eraseIdx_cons_succ] at hs
          have hn1 : (bst dO d (d.bl.length : Int) i).1 = none := by have := hs.boIsNone; cases hz : (bst dO d (d.bl.length : Int) i).1 with | none => rfl | some _ => rw [hz] at this; simp_all
          rw [hn1] at hs
          obtain ⟨hq0, h9⟩ := hs.boNone
          replace hs := h9
          refine An_take_off 5 rfl (by kernel_rfl) (by kernel_rfl) (by kernel_rfl) rfl rfl rfl (fun _ _ _ h => h) hH rfl ?_
          refine An_take_off 6 rfl (by kernel_rfl) (by kernel_rfl) (by kernel_rfl) rfl rfl rfl (fun _ _ _ h => h) hH rfl ?_
          refine An_take_off 7 rfl (by kernel_rfl) (by kernel_rfl) (by kernel_rfl) rfl rfl rfl (fun _ _ _ h => h) hH rfl ?_
          refine An_take_off 8 rfl (by kernel_rfl) (by kernel_rfl) (by kernel_rfl) rfl rfl rfl (fun _ _ _ h => h) hH rfl ?_
          refine An_take_off 9 rfl (by kernel_rfl) (by kernel_rfl) (by kernel_rfl) rfl rfl rfl (fun _ _ _ h => h) hH rfl ?_
          refine An_take_off 10 rfl (by kernel_rfl) (by kernel_rfl) (by kernel_rfl) rfl rfl rfl (fun _ _ _ h => h) hH rfl ?_
          refine An_take_off 11 rfl (by kernel_rfl) (by kernel_rfl) (by kernel_rfl) rfl rfl rfl (fun _ _ _ h => h) hH rfl ?_
          refine An_take_off 12 rfl (by kernel_rfl) (by kernel_rfl) (by kernel_rfl) rfl rfl rfl (fun _ _ _ h => h) hH rfl ?_
          refine An_take_on 13 rfl (by kernel_rfl) (by kernel_rfl) (by kernel_rfl) rfl rfl (fun _ _ _ h => h) hH (fun x hx => run_pick_t rfl rfl) rfl ?_
          refine An_take 14 rfl (by kernel_rfl) (by kernel_rfl) (by kernel_rfl) (fun _ _ _ h => h) hH (fun x hx => run_pick_t rfl rfl) rfl ?_
          refine An_done (by kernel_rfl) ?_
          refine Jm_seq ?_
          refine St_ift rfl ?_
          refine St_region ?_
          refine Ls_run (run_move rfl) rfl ?_
          refine Ls_run (run_load_agg agg120 inf120 rfl rfl (hs.blk_cells 0 rfl 0 2)) rfl ?_
          refine Ls_run (run_move rfl) rfl ?_
          refine Ls_run (run_buildO (pv := [(0, _), (1, _), (2, _)]) rfl (bld122_0_1_2 _ _ _ _ _ _)) rfl ?_
          refine Ls_box hs rfl rfl ?_
          intro b25 w24 hs
          refine Ls_run (run_assign rfl) rfl ?_
          refine Ls_nil ?_
          refine Jm_block_normal (Jm_seq ?_)
          refine St_region ?_
          refine Ls_run (run_add rfl rfl (w64 (by omega))) rfl ?_
          refine Ls_run (run_move rfl) rfl ?_
          refine Ls_nil ?_
          replace hs := hs.erase 1
          simp only [List.cons_append, List.nil_append, List.eraseIdx_cons_zero, List.eraseIdx_cons_succ] at hs
          replace hs := hs.erase 3
          simp only [List.cons_append, List.nil_append, List.eraseIdx_cons_zero, List.eraseIdx_cons_succ] at hs
          replace hs := hs.front 2 rfl
          simp only [List.cons_append, List.nil_append, List.eraseIdx_cons_zero, List.eraseIdx_cons_succ] at hs
          replace hs := hs.front 2 rfl
          simp only [List.cons_append, List.nil_append, List.eraseIdx_cons_zero, List.eraseIdx_cons_succ] at hs
          replace hs := hs.front 2 rfl
          simp only [List.cons_append, List.nil_append, List.eraseIdx_cons_zero, List.eraseIdx_cons_succ] at hs
          refine Jm_round (i + 1, (some ⟨b25, 0, none⟩)) ?_ ?_ ?_
          · rw [hEn4]; exact (subE_cons rfl (subE_cons rfl (subE_cons rfl (subE_cons rfl subE_nil))))
          · skip
            rw [hIv5]
            have e9 : bst dO d (d.bl.length : Int) (i + 1) = (some ⟨tg, g, i, false⟩, rdk) := by
              rw [(show bst dO d (d.bl.length : Int) (i + 1) = (bstep (bst dO d (d.bl.length : Int) i).1 (rroot rl (d.bl.length : Int)) i, rdk) by show (bstep _ (rroot (dread _ _).1 _) i, (dread _ _).2.2) = _; rw [hrd])]; have h6 : rroot rl (d.bl.length : Int) = some (g, tg) := by cases hz : rroot rl (d.bl.length : Int) with | none => simp_all | some x => rw [hz] at hg; simpa using hg
              rw [h6]; (first | rw [hn1] | rw [hs1]); first | rfl | (show (if s1.gen < g then _ else _, rdk) = _; rw [if_pos (by omega)])
            rw [e9]
            exact ⟨Sat.toBoSome (Sat.bshut (s := ⟨tg, g, i, false⟩) hs), by omega, fun _ => hdn⟩
          · skip
            rw [hms6, hms6]
            omega
        · skip
          replace hs := hs.front 4 rfl
          simp only [List.cons_append, List.nil_append, List.eraseIdx_cons_zero, List.eraseIdx_cons_succ] at hs
          obtain ⟨s1, hs1⟩ : ∃ s1, (bst dO d (d.bl.length : Int) i).1 = some s1 := Option.isSome_iff_exists.1 (by have := hs.boIsNone; cases hz : (bst dO d (d.bl.length : Int) i).1 with | some _ => rfl | none => rw [hz] at this; simp_all)
          rw [hs1] at hs
          obtain ⟨bj, hq1, h9⟩ := hs.boSome
          subst hq1
          replace hs := h9
          obtain ⟨Ab, cb, hs⟩ := hs.bopen
          refine An_take_on 5 rfl (by kernel_rfl) (by kernel_rfl) (by kernel_rfl) rfl rfl (fun _ _ _ h => h) hH (fun x hx => run_as (run_field Try.underlying120 rfl inf3 (by decide) rfl) (show _ = Value.pointer (some ⟨b17, 0, none⟩) from rfl)) rfl ?_
          refine An_take_on 6 rfl (by kernel_rfl) (by kernel_rfl) (by kernel_rfl) rfl rfl (fun _ _ _ h => h) hH (fun x hx => run_load sc3 rfl ((hs.grow hx).blk_at 2 rfl 0 rfl)) rfl ?_
          refine An_take_on 7 rfl (by kernel_rfl) (by kernel_rfl) (by kernel_rfl) rfl rfl (fun _ _ _ h => h) hH (fun x hx => run_move rfl) rfl ?_
          refine An_take_on 8 rfl (by kernel_rfl) (by kernel_rfl) (by kernel_rfl) rfl rfl (fun _ _ _ h => h) hH (fun x hx => run_nilCheck rfl) rfl ?_
          refine An_take_on 9 rfl (by kernel_rfl) (by kernel_rfl) (by kernel_rfl) rfl rfl (fun _ _ _ h => h) hH (fun x hx => run_as (run_field Try.underlying122 rfl inf120 (by decide) rfl) (show _ = Value.pointer (some ⟨bj, 1, none⟩) from rfl)) rfl ?_
          refine An_take_on 10 rfl (by kernel_rfl) (by kernel_rfl) (by kernel_rfl) rfl rfl (fun _ _ _ h => h) hH (fun x hx => run_as (run_field Try.underlying120 rfl inf3 (by decide) rfl) (show _ = Value.pointer (some ⟨bj, 1, none⟩) from rfl)) rfl ?_
          refine An_take_on 11 rfl (by kernel_rfl) (by kernel_rfl) (by kernel_rfl) rfl rfl (fun _ _ _ h => h) hH (fun x hx => run_load sc3 rfl ((hs.grow hx).blk_at 0 rfl 1 rfl)) rfl ?_
          refine An_take_on 12 rfl (by kernel_rfl) (by kernel_rfl) (by kernel_rfl) rfl rfl (fun _ _ _ h => h) hH (fun x hx => run_gtr rfl rfl) rfl ?_
          refine An_take_on 13 rfl (by kernel_rfl) (by kernel_rfl) (by kernel_rfl) rfl rfl (fun _ _ _ h => h) hH (fun x hx => run_pick_f rfl rfl) rfl ?_
          refine An_take 14 rfl (by kernel_rfl) (by kernel_rfl) (by kernel_rfl) (fun _ _ _ h => h) hH (fun x hx => run_pick_t rfl rfl) rfl ?_
          refine An_done (by kernel_rfl) ?_
          refine Jm_seq ?_
          refine St_ifP rfl (fun h26 => ?_) (fun h26 => ?_)
          · skip
            refine St_region ?_
            refine Ls_run (run_move rfl) rfl ?_
            refine Ls_run (run_load_agg agg120 inf120 rfl rfl (hs.blk_cells 2 rfl 0 2)) rfl ?_
            refine Ls_run (run_move rfl) rfl ?_
            refine Ls_run (run_buildO (pv := [(0, _), (1, _), (2, _)]) rfl (bld122_0_1_2 _ _ _ _ _ _)) rfl ?_
            refine Ls_box hs rfl rfl ?_
            intro b28 w27 hs
            refine Ls_run (run_assign rfl) rfl ?_
            refine Ls_nil ?_
            refine Jm_block_normal (Jm_seq ?_)
            refine St_region ?_
            refine Ls_run (run_add rfl rfl (w64 (by omega))) rfl ?_
            refine Ls_run (run_move rfl) rfl ?_
            refine Ls_nil ?_
            replace hs := hs.erase 3
            simp only [List.cons_append, List.nil_append, List.eraseIdx_cons_zero, List.eraseIdx_cons_succ] at hs
            replace hs := hs.erase 5
            simp only [List.cons_append, List.nil_append, List.eraseIdx_cons_zero, List.eraseIdx_cons_succ] at hs
            replace hs := hs.erase 1
            simp only [List.cons_append, List.nil_append, List.eraseIdx_cons_zero, List.eraseIdx_cons_succ] at hs
            replace hs := hs.erase 1
            simp only [List.cons_append, List.nil_append, List.eraseIdx_cons_zero, List.eraseIdx_cons_succ] at hs
            replace hs := hs.front 2 rfl
            simp only [List.cons_append, List.nil_append, List.eraseIdx_cons_zero, List.eraseIdx_cons_succ] at hs
            replace hs := hs.front 2 rfl
            simp only [List.cons_append, List.nil_append, List.eraseIdx_cons_zero, List.eraseIdx_cons_succ] at hs
            replace hs := hs.front 2 rfl
            simp only [List.cons_append, List.nil_append, List.eraseIdx_cons_zero, List.eraseIdx_cons_succ] at hs
            refine Jm_round (i + 1, (some ⟨b28, 0, none⟩)) ?_ ?_ ?_
            · rw [hEn4]; exact (subE_cons rfl (subE_cons rfl (subE_cons rfl (subE_cons rfl subE_nil))))
            · skip
              rw [hIv5]
              have e9 : bst dO d (d.bl.length : Int) (i + 1) = (some ⟨tg, g, i, false⟩, rdk) := by
                rw [(show bst dO d (d.bl.length : Int) (i + 1) = (bstep (bst dO d (d.bl.length : Int) i).1 (rroot rl (d.bl.length : Int)) i, rdk) by show (bstep _ (rroot (dread _ _).1 _) i, (dread _ _).2.2) = _; rw [hrd])]; have h6 : rroot rl (d.bl.length : Int) = some (g, tg) := by cases hz : rroot rl (d.bl.length : Int) with | none => simp_all | some x => rw [hz] at hg; simpa using hg
                rw [h6]; (first | rw [hn1] | rw [hs1]); first | rfl | (show (if s1.gen < g then _ else _, rdk) = _; rw [if_pos (by omega)])
              rw [e9]
              exact ⟨Sat.toBoSome (Sat.bshut (s := ⟨tg, g, i, false⟩) hs), by omega, fun _ => hdn⟩
            · skip
              rw [hms6, hms6]
              omega
          · skip
            refine St_skip ?_
            refine Jm_block_normal (Jm_seq ?_)
            refine St_region ?_
            refine Ls_run (run_add rfl rfl (w64 (by omega))) rfl ?_
            refine Ls_run (run_move rfl) rfl ?_
            refine Ls_nil ?_
            replace hs := hs.erase 2
            simp only [List.cons_append, List.nil_append, List.eraseIdx_cons_zero, List.eraseIdx_cons_succ] at hs
            replace hs := hs.erase 4
            simp only [List.cons_append, List.nil_append, List.eraseIdx_cons_zero, List.eraseIdx_cons_succ] at hs
            replace hs := hs.erase 2
            simp only [List.cons_append, List.nil_append, List.eraseIdx_cons_zero, List.eraseIdx_cons_succ] at hs
            replace hs := hs.front 2 rfl
            simp only [List.cons_append, List.nil_append, List.eraseIdx_cons_zero, List.eraseIdx_cons_succ] at hs
            replace hs := hs.front 2 rfl
            simp only [List.cons_append, List.nil_append, List.eraseIdx_cons_zero, List.eraseIdx_cons_succ] at hs
            replace hs := hs.front 2 rfl
            simp only [List.cons_append, List.nil_append, List.eraseIdx_cons_zero, List.eraseIdx_cons_succ] at hs
            refine Jm_round (i + 1, (some ⟨bj, 0, none⟩)) ?_ ?_ ?_
            · rw [hEn4]; exact (subE_cons rfl (subE_cons rfl (subE_cons rfl (subE_cons rfl subE_nil))))
            · skip
              rw [hIv5]
              have e9 : bst dO d (d.bl.length : Int) (i + 1) = (some s1, rdk) := by
                rw [(show bst dO d (d.bl.length : Int) (i + 1) = (bstep (bst dO d (d.bl.length : Int) i).1 (rroot rl (d.bl.length : Int)) i, rdk) by show (bstep _ (rroot (dread _ _).1 _) i, (dread _ _).2.2) = _; rw [hrd])]; have h6 : rroot rl (d.bl.length : Int) = some (g, tg) := by cases hz : rroot rl (d.bl.length : Int) with | none => simp_all | some x => rw [hz] at hg; simpa using hg
                rw [h6, hs1]; show (if s1.gen < g then _ else _, rdk) = _; rw [if_neg (by omega)]
              rw [e9]
              exact ⟨Sat.toBoSome (Sat.bshut (s := s1) hs), by omega, fun _ => hdn⟩
            · skip
              rw [hms6, hms6]
              omega
      · skip
        refine An_take_off 2 rfl (by kernel_rfl) (by kernel_rfl) (by kernel_rfl) rfl rfl rfl (fun _ _ _ h => h) hH rfl ?_
        refine An_take_off 3 rfl (by kernel_rfl) (by kernel_rfl) (by kernel_rfl) rfl rfl rfl (fun _ _ _ h => h) hH rfl ?_
        refine An_take_off 4 rfl (by kernel_rfl) (by kernel_rfl) (by kernel_rfl) rfl rfl rfl (fun _ _ _ h => h) hH rfl ?_
        refine An_take_off' 5 rfl (by kernel_rfl) (by kernel_rfl) (by kernel_rfl) rfl rfl (fun _ _ _ h => h) hH rfl ?_
        refine An_take_off' 6 rfl (by kernel_rfl) (by kernel_rfl) (by kernel_rfl) rfl rfl (fun _ _ _ h => h) hH rfl ?_
        refine An_take_off' 7 rfl (by kernel_rfl) (by kernel_rfl) (by kernel_rfl) rfl rfl (fun _ _ _ h => h) hH rfl ?_
        refine An_take_off' 8 rfl (by kernel_rfl) (by kernel_rfl) (by kernel_rfl) rfl rfl (fun _ _ _ h => h) hH rfl ?_
        refine An_take_off' 9 rfl (by kernel_rfl) (by kernel_rfl) (by kernel_rfl) rfl rfl (fun _ _ _ h => h) hH rfl ?_
        refine An_take_off' 10 rfl (by kernel_rfl) (by kernel_rfl) (by kernel_rfl) rfl rfl (fun _ _ _ h => h) hH rfl ?_
        refine An_take_off' 11 rfl (by kernel_rfl) (by kernel_rfl) (by kernel_rfl) rfl rfl (fun _ _ _ h => h) hH rfl ?_
        refine An_take_off' 12 rfl (by kernel_rfl) (by kernel_rfl) (by kernel_rfl) rfl rfl (fun _ _ _ h => h) hH rfl ?_
        refine An_take_off 13 rfl (by kernel_rfl) (by kernel_rfl) (by kernel_rfl) rfl rfl rfl (fun _ _ _ h => h) hH rfl ?_
        refine An_take 14 rfl (by kernel_rfl) (by kernel_rfl) (by kernel_rfl) (fun _ _ _ h => h) hH (fun x hx => run_pick_f rfl rfl) rfl ?_
        refine An_done (by kernel_rfl) ?_
        refine Jm_seq ?_
        refine St_iff rfl ?_
        refine St_skip ?_
        refine Jm_block_normal (Jm_seq ?_)
        refine St_region ?_
        refine Ls_run (run_add rfl rfl (w64 (by omega))) rfl ?_
        refine Ls_run (run_move rfl) rfl ?_
        refine Ls_nil ?_
        replace hs := hs.erase 0
        simp only [List.cons_append, List.nil_append, List.eraseIdx_cons_zero, List.eraseIdx_cons_succ] at hs
        replace hs := hs.erase 2
        simp only [List.cons_append, List.nil_append, List.eraseIdx_cons_zero, List.eraseIdx_cons_succ] at hs
        replace hs := hs.erase 0
        simp only [List.cons_append, List.nil_append, List.eraseIdx_cons_zero, List.eraseIdx_cons_succ] at hs
        replace hs := hs.front 1 rfl
        simp only [List.cons_append, List.nil_append, List.eraseIdx_cons_zero, List.eraseIdx_cons_succ] at hs
        refine Jm_round (i + 1, q) ?_ ?_ ?_
        · rw [hEn4]; exact (subE_cons rfl (subE_cons rfl (subE_cons rfl (subE_cons rfl subE_nil))))
        · skip
          rw [hIv5]
          have e9 : bst dO d (d.bl.length : Int) (i + 1) = ((bst dO d (d.bl.length : Int) i).1, rdk) := by
            rw [(show bst dO d (d.bl.length : Int) (i + 1) = (bstep (bst dO d (d.bl.length : Int) i).1 (rroot rl (d.bl.length : Int)) i, rdk) by show (bstep _ (rroot (dread _ _).1 _) i, (dread _ _).2.2) = _; rw [hrd])]; have h6 : rroot rl (d.bl.length : Int) = none := by cases hz : rroot rl (d.bl.length : Int) with | none => rfl | some x => simp_all
            rw [h6]; rfl
          rw [e9]
          exact ⟨hs, by omega, fun _ => hdn⟩
        · skip
          rw [hms6, hms6]
          omega
  · skip
    refine St_exit ?_
    refine Jm_then_exit (Jm_then_exit (Jm_block_same (Jm_seq ?_)))
    refine St_seq ?_
    refine St_seq ?_
    refine St_region ?_
    refine Ls_run (run_move rfl) rfl ?_
    refine Ls_run (run_eql_ptr_nil Try.underlying47 rfl rfl) rfl ?_
    refine Ls_nil ?_
    refine Jm_seq ?_
    refine St_if rfl (fun h30 => ?_) (fun h30 => ?_)
    · skip
      refine St_seq ?_
      refine St_region ?_
      refine Ls_run (run_assign rfl) rfl ?_
      refine Ls_run (run_assign rfl) rfl ?_
      refine Ls_nil ?_
      refine Jm_seq ?_
      refine St_ret ?_
      refine Jm_then_ret  ?_
      refine Jm_ret2 rfl rfl rfl ?_
      have hsZ := hs
      have hi9 : i = min 2 d.bl.length := by omega
      have hdn2 : d.down = false := hdw (by omega)
      subst hi9
      rw [bopen_none (o := dO) (d := d) hdn2 (by have := hs.boIsNone; cases hz : (bst dO d (d.bl.length : Int) (min 2 d.bl.length)).1 with | none => exact hz | some _ => rw [hz] at this; simp_all) hl1]
      exact ⟨_, rfl, none, rfl, hsZ.tail.toBoNone⟩
    · skip
      refine St_skip ?_
      refine Jm_seq ?_
      refine St_seq ?_
      refine St_region ?_
      refine Ls_run (run_move rfl) rfl ?_
      refine Ls_run (run_assign rfl) rfl ?_
      refine Ls_run (run_assign rfl) rfl ?_
      refine Ls_nil ?_
      refine Jm_seq ?_
      refine St_ret ?_
      refine Jm_ret2 rfl rfl rfl ?_
      have hsZ := hs
      have hi9 : i = min 2 d.bl.length := by omega
      have hdn2 : d.down = false := hdw (by omega)
      subst hi9
      obtain ⟨s1, hs1⟩ : ∃ s1, (bst dO d (d.bl.length : Int) (min 2 d.bl.length)).1 = some s1 := Option.isSome_iff_exists.1 (by have := hs.boIsNone; cases hz : (bst dO d (d.bl.length : Int) (min 2 d.bl.length)).1 with | some _ => rfl | none => rw [hz] at this; simp_all)
      rw [hs1] at hs
      rw [bopen_some (o := dO) (d := d) hdn2 hs1 hl1]
      exact ⟨_, rfl, q, rfl, hs⟩
end Go.Proofs.Ytipkfdeiallifaa.Lg
