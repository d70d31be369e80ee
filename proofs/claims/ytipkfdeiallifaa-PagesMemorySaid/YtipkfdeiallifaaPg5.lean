/-
  Pages: Put. By program (gen/pg5.py).
-/
import Derived.Test.YtipkfdeiallifaaPg4
set_option linter.unusedVariables false
set_option linter.unusedSimpArgs false
namespace Go.Proofs.Ytipkfdeiallifaa.Lg
open Go Go.RowKit Go.Proofs.Ytipkfdeiallifaa.WirePure
theorem nodup_len : ∀ (n : Nat) (l : List Int), l.Nodup → (∀ x ∈ l, 0 ≤ x ∧ x < (n : Int)) → l.length ≤ n
  | 0, l, _, h => by
    cases l with
    | nil => exact Nat.le_refl _
    | cons x l => have := h x (by simp); omega
  | n + 1, l, hn, h => by
    by_cases hm : (n : Int) ∈ l
    · have h1 := nodup_len n (l.erase n) (hn.erase _) (fun x hx => by
        have h2 := (hn.mem_erase_iff).1 hx
        have := h x h2.2
        omega)
      rw [List.length_erase_of_mem hm] at h1
      have := List.length_pos_of_mem hm
      omega
    · have h1 := nodup_len n l hn (fun x hx => by
        have := h x hx
        have : x ≠ n := fun e => hm (e ▸ hx)
        omega)
      omega
theorem bfaultF_0 {n : Nat} : ∀ (l : List Wr) (seen : List Int), bfaultF n seen l = 0 → (∀ x ∈ l, (0 ≤ x.1 ∧ x.1 < (n : Int)) ∧ x.2.length ≤ 1024 ∧ x.1 ∉ seen) ∧ (l.map Prod.fst).Nodup
  | [], _, _ => ⟨by simp, by simp⟩
  | (p, x) :: r, seen, h => by
    by_cases h1 : p < 0 ∨ (n : Int) ≤ p
    · rw [bf_91 h1] at h; simp at h
    · by_cases h2 : p ∈ seen
      · rw [bf_93 h1 h2] at h; simp at h
      · by_cases h3 : 1024 < x.length
        · rw [bf_6 h1 h2 h3] at h; simp at h
        · rw [bf_go h1 h2 h3] at h
          obtain ⟨h4, h5⟩ := bfaultF_0 r (seen ++ [p]) h
          refine ⟨fun y hy => ?_, ?_⟩
          · rcases List.mem_cons.1 hy with rfl | hy
            · exact ⟨⟨by simp only; omega, by simp only; omega⟩, by simp only; omega, h2⟩
            · have := h4 y hy
              exact ⟨this.1, this.2.1, fun q => this.2.2 (List.mem_append_left _ q)⟩
          · rw [List.map_cons, List.nodup_cons]
            refine ⟨fun q => ?_, h5⟩
            obtain ⟨y, hy, e⟩ := List.mem_map.1 q
            exact (h4 y hy).2.2 (by rw [e]; simp)
theorem bfault_ok {n : Nat} {l : List Wr} (h : bfault n l = 0) : (∀ x ∈ l, (0 ≤ x.1 ∧ x.1 < (n : Int)) ∧ x.2.length ≤ 1024) ∧ l.length ≤ n := by
  obtain ⟨h1, h2⟩ := bfaultF_0 l [] h
  refine ⟨fun x hx => ⟨(h1 x hx).1, (h1 x hx).2.1⟩, ?_⟩
  have := nodup_len n _ h2 (fun y hy => by
    obtain ⟨x, hx, rfl⟩ := List.mem_map.1 hy
    exact (h1 x hx).1)
  simpa using this
section
variable {S : Type} {o : DOps S} {s : BSt} {d d2 d3 : S} {fx : Int → Int} {l r : List Wr} {tb tb2 tk : List Int} {p e : Int} {x : List Int}
theorem putL_nil : putL o [] tb tk d = (0, tb, d) := rfl
theorem putL_skip (h : x.length = 0) : putL o ((p, x) :: r) tb tk d = putL o r (tb.set p.toNat 0) tk d := by conv => lhs; unfold putL; rw [if_pos (List.length_eq_zero_iff.1 h)]
theorem putL_fail (h : ¬ x.length = 0) (hw : o.wr d (free tk) x = (e, d2)) (he : e ≠ 0) : putL o ((p, x) :: r) tb tk d = (e, tb, d2) := by unfold putL; rw [if_neg (fun q => h (by rw [q]; rfl)), hw]; exact if_pos he
theorem putL_go (h : ¬ x.length = 0) (hw : o.wr d (free tk) x = (0, d2)) : putL o ((p, x) :: r) tb tk d = putL o r (tb.set p.toNat (free tk)) (tk ++ [free tk]) d2 := by conv => lhs; unfold putL; rw [if_neg (fun q => h (by rw [q]; rfl)), hw]; simp
theorem bput_80 (h : (bend o s d).ended = true) : bput o fx s d l = (80, bend o s d, d) := by unfold bput; rw [if_pos h]
theorem bput_e (h : ¬ (bend o s d).ended = true) (h2 : bfault s.tb.length l ≠ 0 ∨ l = []) : bput o fx s d l = (bfault s.tb.length l, bend o s d, d) := by unfold bput; rw [if_neg h, if_pos h2]
theorem bput_92 (h : ¬ (bend o s d).ended = true) (h2 : ¬ (bfault s.tb.length l ≠ 0 ∨ l = [])) (h3 : 1099511627776 ≤ s.gen) : bput o fx s d l = (92, bend o s d, d) := by unfold bput; rw [if_neg h, if_neg h2, if_pos h3]
theorem bput_f1 (h : ¬ (bend o s d).ended = true) (h2 : ¬ (bfault s.tb.length l ≠ 0 ∨ l = [])) (h3 : ¬ 1099511627776 ≤ s.gen) (hp : putL o l s.tb s.tb d = (e, tb2, d2)) (he : e ≠ 0) : bput o fx s d l = (fx e, { bend o s d with ended := true }, d2) := by
  unfold bput; rw [if_neg h, if_neg h2, if_neg h3, hp]; exact if_pos he
theorem bput_f2 (h : ¬ (bend o s d).ended = true) (h2 : ¬ (bfault s.tb.length l ≠ 0 ∨ l = [])) (h3 : ¬ 1099511627776 ≤ s.gen) (hp : putL o l s.tb s.tb d = (0, tb2, d2)) (hw : o.wr d2 (1 - s.slot) (rbytes (s.gen + 1) tb2) = (e, d3)) (he : e ≠ 0) : bput o fx s d l = (fx e, { bend o s d with ended := true }, d3) := by
  unfold bput; rw [if_neg h, if_neg h2, if_neg h3, hp]; simp only [ne_eq, not_true_eq_false, if_false, hw]; exact if_pos he
theorem bput_ok (h : ¬ (bend o s d).ended = true) (h2 : ¬ (bfault s.tb.length l ≠ 0 ∨ l = [])) (h3 : ¬ 1099511627776 ≤ s.gen) (hp : putL o l s.tb s.tb d = (0, tb2, d2)) (hw : o.wr d2 (1 - s.slot) (rbytes (s.gen + 1) tb2) = (0, d3)) : bput o fx s d l = (0, { bend o s d with tb := tb2, gen := s.gen + 1, slot := 1 - s.slot }, d3) := by
  unfold bput; rw [if_neg h, if_neg h2, if_neg h3, hp]; simp only [ne_eq, not_true_eq_false, if_false, hw]
end
theorem leaves_put {P : Program} {fn : Func} {t1 t2 : Array Value} {R : Ending → World → Prop} (h : results fn t1 = results fn t2) : ∀ (ds : List Deferred) (u : FrameMode) (w : World), Leaves P fn t1 R ds u w → Leaves P fn t2 R ds u w
  | [], .returning, w, hl => by obtain ⟨v, h1, h2⟩ := hl; exact ⟨v, by rw [← h]; exact h1, h2⟩
  | [], .panicking chain, w, hl => hl
  | [], .run, w, hl => hl
  | d :: ds, u, w, hl => by
    obtain ⟨hu, fv, cap, f, args, ht, hi, hc⟩ := hl
    refine ⟨hu, fv, cap, f, args, ht, hi, hc.mono ?_⟩
    intro e u' w' he
    cases e with
    | returned v => exact leaves_put h ds _ _ he
    | panicked chain => exact leaves_put h ds _ _ he
    | outgrown => exact he
theorem results_cell_put {fn : Func} {t d : Tmp} {ty : TypeId} {a : Act} {v : Value} (hr : fn.results = #[.cell t ty]) (hd : Nat.beq d t = false) : results fn (a.put (some d) v).tmps = results fn a.tmps := by
  have hne : d ≠ t := fun e => by subst e; simp at hd
  simp [results, hr, Act.put, Array.getElem?_setIfInBounds_ne hne]
theorem res_C {P : Program} {fn : Func} {t : Tmp} {ty c n : Nat} {D : List Deferred} {E : Env} {w : World} {y : Value} (hr : fn.results = #[.cell t ty]) (h2 : Scalar P ty) (hy : w.cell? ⟨c, 0, none⟩ = some y) {a : Act} (ha : Good n D E a) (hx : look E t = some (.pointer (some ⟨c, 0, none⟩))) : (results fn a.tmps).run P w = .ok y w := by
  have h1 : a.tmps[t]?.getD undef = .pointer (some ⟨c, 0, none⟩) := by have := ha.tmp hx; simpa using this
  have h5 : (loadVar ty ⟨c, 0, none⟩).run P w = .ok y w := by have h6 := h2.isAgg (P := P) w; simp [loadVar, h6, hy]
  simp [results, hr, h1, h5, asAddr]
theorem flatKI_set (l : List Int) (i : Nat) (x : Int) : (KI.flat l).set i (.int .i64 x) = KI.flat (l.set i x) := by rw [El.int_flat, El.int_flat, List.map_set]
theorem set_bd {l : List Int} {i : Nat} {x : Int} (h : ∀ y ∈ l, 0 ≤ y ∧ y ≤ 64) (hx : 0 ≤ x ∧ x ≤ 64) : ∀ y ∈ l.set i x, 0 ≤ y ∧ y ≤ 64 := fun y hy => by
  rcases List.mem_or_eq_of_mem_set hy with h1 | rfl
  · exact h y h1
  · exact hx
set_option maxRecDepth 100000 in
set_option maxHeartbeats 1000000 in
theorem BPut_g (B w : World) (L : List Assn) (bj b : Nat) (s : BSt) (d : DSt) (hs : Sat B w (BA 122 3 bj (some ⟨b, 0, none⟩) s :: DiskA 129 28 5 b d :: L)) (hdok : DOk d) (hbi : BInv s d.bl.length) (A : Option Addr) (n c : Nat) (vs : List KWt) (ws : List Wr) (hr : ∀ w' X, Sat B w' (X :: L) → PWs w' A n c vs ws) (hok : PWok ws) (hn : n ≤ 9223372036854775806) :
    Calls Try.prog 26 [.pointer (some ⟨bj, 0, none⟩), .slice A n c].toArray w (Ret (fun v' w' => v' = .int .i64 (bput dO (fun _ => 80) s d ws).1 ∧ Sat B w' (BA 122 3 bj (some ⟨b, 0, none⟩) (bput dO (fun _ => 80) s d ws).2.1 :: DiskA 129 28 5 b (bput dO (fun _ => 80) s d ws).2.2 :: L))) := by
  have hwn := (Sat.rdL0 (pre := [_, _]) hr hs).n
  obtain ⟨Ab, cb, hs⟩ := hs.bopen
  have hl8 := hbi.l8
  have hl1 := hbi.l1
  have hrm := hbi.room
  have hd64 := hdok.2
  have hg1 := hbi.g1
  have hpos : ∀ x ∈ s.tb, 0 ≤ x ∧ x ≤ 64 := fun x hx => by have := tabOk_pos hbi.tab (by omega) x hx; omega
  have ebt : (bend dO s d).tb = s.tb := rfl
  have ebn : (bend dO s d).tb.length = s.tb.length := rfl
  have ebg : (bend dO s d).gen = s.gen := rfl
  have ebs : (bend dO s d).slot = s.slot := rfl
  have hslt := hbi.slot
  refine Calls_bodyD Try.func26 rfl rfl rfl (envE_cons (i := 0) (v := .pointer (some ⟨bj, 0, none⟩)) rfl (envE_cons (i := 1) (v := .slice A n c) rfl envE_nil)) ?_
  refine St_seq ?_
  refine St_region ?_
  refine Ls_box hs rfl rfl ?_
  intro b2 w1 hs
  refine Ls_alloc hs inf29 rfl ?_
  intro b4 w3 hs
  refine Ls_nil ?_
  refine Jm_seq ?_
  refine St_seq ?_
  refine St_seq ?_
  refine St_region ?_
  refine Ls_run (run_load sc47 rfl (hs.blk_at 1 rfl 0 rfl)) rfl ?_
  replace hs := hs.front 4 rfl
  simp only [List.cons_append, List.nil_append, List.eraseIdx_cons_zero, List.eraseIdx_cons_succ] at hs
  replace hs := hs.front 3 rfl
  simp only [List.cons_append, List.nil_append, List.eraseIdx_cons_zero, List.eraseIdx_cons_succ] at hs
  refine Ls_call Try.func84 nm84 rfl rfl (bcheck_c B w3 _ bj b s d Ab cb hs) rfl ?_
  rintro v5 w6 ⟨rfl, hs⟩
  have hce : ∀ x : Int, x = (if (bend dO s d).ended = true then (80 : Int) else 0) → (x ≠ 0 ↔ (bend dO s d).ended = true) := fun x hx => by rw [hx]; split <;> simp_all
  refine Ls_run (run_assign rfl) rfl ?_
  refine Ls_nil ?_
  refine Jm_seq ?_
  refine St_seq ?_
  refine St_region ?_
  refine Ls_run (run_move rfl) rfl ?_
  refine Ls_run (run_neq rfl rfl) rfl ?_
  refine Ls_nil ?_
  refine Jm_seq ?_
  refine St_ifP rfl (fun h7 => ?_) (fun h7 => ?_)
  · skip
    have hen : (bend dO s d).ended = true := (hce _ rfl).1 h7
    refine St_seq ?_
    refine St_region ?_
    refine Ls_run (run_move rfl) rfl ?_
    replace hs := hs.front 2 rfl
    simp only [List.cons_append, List.nil_append, List.eraseIdx_cons_zero, List.eraseIdx_cons_succ] at hs
    refine Ls_store hs inf29 rfl rfl rfl rfl ?_
    intro w9 hs
    try simp only [List.set_cons_zero, List.set_cons_succ] at hs
    refine Ls_nil ?_
    refine Jm_seq ?_
    refine St_ret ?_
    refine Jm_then_ret  ?_
    refine Jm_retD1c rfl sc29 rfl (hs.blk_at 0 rfl 0 rfl) ?_
    replace hs := hs.erase 0
    simp only [List.cons_append, List.nil_append, List.eraseIdx_cons_zero, List.eraseIdx_cons_succ] at hs
    replace hs := hs.erase 2
    simp only [List.cons_append, List.nil_append, List.eraseIdx_cons_zero, List.eraseIdx_cons_succ] at hs
    replace hs := hs.front 1 rfl
    simp only [List.cons_append, List.nil_append, List.eraseIdx_cons_zero, List.eraseIdx_cons_succ] at hs
    replace hs := hs.front 2 rfl
    simp only [List.cons_append, List.nil_append, List.eraseIdx_cons_zero, List.eraseIdx_cons_succ] at hs
    replace hs := hs.front 2 rfl
    simp only [List.cons_append, List.nil_append, List.eraseIdx_cons_zero, List.eraseIdx_cons_succ] at hs
    rw [bput_80 hen]
    exact ⟨_, rfl, by rw [if_pos hen], Sat.bshut (s := bend dO s d) hs⟩
  · skip
    have hen : ¬ (bend dO s d).ended = true := fun q => h7 ((hce _ rfl).2 q)
    refine St_skip ?_
    refine Jm_seq ?_
    refine St_seq ?_
    refine St_seq ?_
    refine St_region ?_
    refine Ls_run (run_load sc47 rfl (hs.blk_at 3 rfl 0 rfl)) rfl ?_
    refine Ls_run (run_move rfl) rfl ?_
    refine Ls_call Try.func85 nm85 rfl rfl (fault_c B w6 _ bj (some ⟨b, 0, none⟩) (bend dO s d) Ab cb hs A n c vs ws (fun w' X q => Sat.rdL0 (pre := [X, _, _, _, _]) hr q) hok hn) rfl ?_
    rintro v10 w11 ⟨rfl, hs⟩
    rw [ebn]
    refine Ls_run (run_assign rfl) rfl ?_
    refine Ls_nil ?_
    refine Jm_seq ?_
    refine St_seq ?_
    refine St_region ?_
    refine Ls_run (run_move rfl) rfl ?_
    refine Ls_run (run_neq rfl rfl) rfl ?_
    refine Ls_run (run_move rfl) rfl ?_
    refine Ls_partP (t := 22) rfl (fun h12 => ?_) (fun h12 => ?_)
    · skip
      refine Ls_off rfl rfl rfl rfl ?_
      refine Ls_off rfl rfl rfl rfl ?_
      refine Ls_off rfl rfl rfl rfl ?_
      refine Ls_run (run_pick_t rfl rfl) rfl ?_
      refine Ls_nil ?_
      refine Jm_seq ?_
      refine St_ift rfl ?_
      refine St_seq ?_
      refine St_region ?_
      refine Ls_run (run_move rfl) rfl ?_
      replace hs := hs.front 2 rfl
      simp only [List.cons_append, List.nil_append, List.eraseIdx_cons_zero, List.eraseIdx_cons_succ] at hs
      refine Ls_store hs inf29 rfl rfl rfl rfl ?_
      intro w14 hs
      try simp only [List.set_cons_zero, List.set_cons_succ] at hs
      refine Ls_nil ?_
      refine Jm_seq ?_
      refine St_ret ?_
      refine Jm_then_ret  ?_
      refine Jm_retD1c rfl sc29 rfl (hs.blk_at 0 rfl 0 rfl) ?_
      replace hs := hs.erase 0
      simp only [List.cons_append, List.nil_append, List.eraseIdx_cons_zero, List.eraseIdx_cons_succ] at hs
      replace hs := hs.erase 2
      simp only [List.cons_append, List.nil_append, List.eraseIdx_cons_zero, List.eraseIdx_cons_succ] at hs
      replace hs := hs.front 1 rfl
      simp only [List.cons_append, List.nil_append, List.eraseIdx_cons_zero, List.eraseIdx_cons_succ] at hs
      replace hs := hs.front 2 rfl
      simp only [List.cons_append, List.nil_append, List.eraseIdx_cons_zero, List.eraseIdx_cons_succ] at hs
      replace hs := hs.front 2 rfl
      simp only [List.cons_append, List.nil_append, List.eraseIdx_cons_zero, List.eraseIdx_cons_succ] at hs
      rw [bput_e hen (by first | exact .inl (by assumption) | exact .inr (List.eq_nil_of_length_eq_zero (by omega)))]
      exact ⟨_, rfl, rfl, Sat.bshut (s := bend dO s d) hs⟩
    · skip
      refine Ls_on rfl rfl ?_
      refine Ls_run (run_move rfl) rfl ?_
      refine Ls_on rfl rfl ?_
      refine Ls_run (run_len Try.underlying51 rfl) rfl ?_
      refine Ls_on rfl rfl ?_
      refine Ls_run (run_eql rfl rfl) rfl ?_
      refine Ls_run (run_pick_f rfl rfl) rfl ?_
      refine Ls_nil ?_
      refine Jm_seq ?_
      refine St_ifP rfl (fun h15 => ?_) (fun h15 => ?_)
      · skip
        refine St_seq ?_
        refine St_region ?_
        refine Ls_run (run_move rfl) rfl ?_
        replace hs := hs.front 2 rfl
        simp only [List.cons_append, List.nil_append, List.eraseIdx_cons_zero, List.eraseIdx_cons_succ] at hs
        refine Ls_store hs inf29 rfl rfl rfl rfl ?_
        intro w16 hs
        try simp only [List.set_cons_zero, List.set_cons_succ] at hs
        refine Ls_nil ?_
        refine Jm_seq ?_
        refine St_ret ?_
        refine Jm_then_ret  ?_
        refine Jm_retD1c rfl sc29 rfl (hs.blk_at 0 rfl 0 rfl) ?_
        replace hs := hs.erase 0
        simp only [List.cons_append, List.nil_append, List.eraseIdx_cons_zero, List.eraseIdx_cons_succ] at hs
        replace hs := hs.erase 2
        simp only [List.cons_append, List.nil_append, List.eraseIdx_cons_zero, List.eraseIdx_cons_succ] at hs
        replace hs := hs.front 1 rfl
        simp only [List.cons_append, List.nil_append, List.eraseIdx_cons_zero, List.eraseIdx_cons_succ] at hs
        replace hs := hs.front 2 rfl
        simp only [List.cons_append, List.nil_append, List.eraseIdx_cons_zero, List.eraseIdx_cons_succ] at hs
        replace hs := hs.front 2 rfl
        simp only [List.cons_append, List.nil_append, List.eraseIdx_cons_zero, List.eraseIdx_cons_succ] at hs
        rw [bput_e hen (by first | exact .inl (by assumption) | exact .inr (List.eq_nil_of_length_eq_zero (by omega)))]
        exact ⟨_, rfl, rfl, Sat.bshut (s := bend dO s d) hs⟩
      · skip
        refine St_skip ?_
        refine Jm_seq ?_
        refine St_seq ?_
        refine St_seq ?_
        refine St_region ?_
        refine Ls_run (run_load sc47 rfl (hs.blk_at 3 rfl 0 rfl)) rfl ?_
        refine Ls_run (run_nilCheck rfl) rfl ?_
        refine Ls_run (run_as (run_field Try.underlying122 rfl inf120 (by decide) rfl) (show _ = Value.pointer (some ⟨bj, 1, none⟩) from rfl)) rfl ?_
        refine Ls_run (run_as (run_field Try.underlying120 rfl inf3 (by decide) rfl) (show _ = Value.pointer (some ⟨bj, 1, none⟩) from rfl)) rfl ?_
        refine Ls_run (run_load sc3 rfl (hs.blk_at 0 rfl 1 rfl)) rfl ?_
        refine Ls_run (run_geq rfl rfl) rfl ?_
        refine Ls_nil ?_
        refine Jm_seq ?_
        refine St_ifP rfl (fun h17 => ?_) (fun h17 => ?_)
        · skip
          refine St_seq ?_
          refine St_region ?_
          replace hs := hs.front 2 rfl
          simp only [List.cons_append, List.nil_append, List.eraseIdx_cons_zero, List.eraseIdx_cons_succ] at hs
          refine Ls_store hs inf29 rfl rfl rfl rfl ?_
          intro w18 hs
          try simp only [List.set_cons_zero, List.set_cons_succ] at hs
          refine Ls_nil ?_
          refine Jm_seq ?_
          refine St_ret ?_
          refine Jm_then_ret  ?_
          refine Jm_retD1c rfl sc29 rfl (hs.blk_at 0 rfl 0 rfl) ?_
          replace hs := hs.erase 0
          simp only [List.cons_append, List.nil_append, List.eraseIdx_cons_zero, List.eraseIdx_cons_succ] at hs
          replace hs := hs.erase 2
          simp only [List.cons_append, List.nil_append, List.eraseIdx_cons_zero, List.eraseIdx_cons_succ] at hs
          replace hs := hs.front 1 rfl
          simp only [List.cons_append, List.nil_append, List.eraseIdx_cons_zero, List.eraseIdx_cons_succ] at hs
          replace hs := hs.front 2 rfl
          simp only [List.cons_append, List.nil_append, List.eraseIdx_cons_zero, List.eraseIdx_cons_succ] at hs
          replace hs := hs.front 2 rfl
          simp only [List.cons_append, List.nil_append, List.eraseIdx_cons_zero, List.eraseIdx_cons_succ] at hs
          have hf0 : bfault s.tb.length ws = 0 := by omega
          rw [bput_92 hen (fun q => by rcases q with q | q; exact absurd hf0 q; rw [q] at hwn; simp at hwn; omega) (by omega)]
          exact ⟨_, rfl, rfl, Sat.bshut (s := bend dO s d) hs⟩
        · skip
          have hf0 : bfault s.tb.length ws = 0 := by omega
          have hfo := bfault_ok hf0
          have hg2 : s.gen < 1099511627776 := by omega
          refine St_skip ?_
          refine Jm_seq ?_
          refine St_seq ?_
          refine St_region ?_
          refine Ls_run (run_func (cap := [_, _]) rfl) rfl ?_
          refine Ls_defer (cap := [_, _]) rfl ?_
          refine Ls_nil ?_
          refine Jm_seq ?_
          refine St_seq ?_
          obtain ⟨En19, hEn19⟩ : ∃ F : Nat × Option Addr × Nat → Env, ∀ (g7 : Nat) (An : Option Addr) (cn : Nat), F (g7, An, cn) = [(1, .slice A n c), (2, .pointer (some ⟨b2, 0, none⟩)), (4, .pointer (some ⟨b4, 0, none⟩)), (7, .pointer (some ⟨g7, 0, none⟩))] := ⟨(fun (sx0 : Nat × Option Addr × Nat) => match sx0 with | (g7, An, cn) => [(1, .slice A n c), (2, .pointer (some ⟨b2, 0, none⟩)), (4, .pointer (some ⟨b4, 0, none⟩)), (7, .pointer (some ⟨g7, 0, none⟩))]), fun _ _ _ => rfl⟩
          obtain ⟨Iv20, hIv20⟩ : ∃ F : Nat × Option Addr × Nat → World → Prop, ∀ (g7 : Nat) (An : Option Addr) (cn : Nat) (w21 : World), F (g7, An, cn) w21 = (Sat B w21 (Blk g7 [.int .i64 (s.gen + 1), .slice An s.tb.length cn] 120 :: Own 3 1 (.slice An s.tb.length cn) s.tb.length (KI.flat s.tb) :: Blk bj (bcells (some ⟨b, 0, none⟩) (bend dO s d) Ab cb) 122 :: Own 3 1 (.slice Ab s.tb.length cb) s.tb.length (KI.flat s.tb) :: DiskA 129 28 5 b d :: Blk b2 [.pointer (some ⟨bj, 0, none⟩)] 47 :: Blk b4 [.int .i64 0] 29 :: L)) := ⟨(fun (sx0 : Nat × Option Addr × Nat) => match sx0 with | (g7, An, cn) => fun (w21 : World) => Sat B w21 (Blk g7 [.int .i64 (s.gen + 1), .slice An s.tb.length cn] 120 :: Own 3 1 (.slice An s.tb.length cn) s.tb.length (KI.flat s.tb) :: Blk bj (bcells (some ⟨b, 0, none⟩) (bend dO s d) Ab cb) 122 :: Own 3 1 (.slice Ab s.tb.length cb) s.tb.length (KI.flat s.tb) :: DiskA 129 28 5 b d :: Blk b2 [.pointer (some ⟨bj, 0, none⟩)] 47 :: Blk b4 [.int .i64 0] 29 :: L)), fun _ _ _ _ => rfl⟩
          refine St_join En19 Iv20 ?_ ?_
          · skip
            replace hs := hs.front 4 rfl
            simp only [List.cons_append, List.nil_append, List.eraseIdx_cons_zero, List.eraseIdx_cons_succ] at hs
            replace hs := hs.front 4 rfl
            simp only [List.cons_append, List.nil_append, List.eraseIdx_cons_zero, List.eraseIdx_cons_succ] at hs
            replace hs := hs.front 2 rfl
            simp only [List.cons_append, List.nil_append, List.eraseIdx_cons_zero, List.eraseIdx_cons_succ] at hs
            refine St_hold (Hold.of (Ls := [_, _, _]) hs) mixed ?_
            intro w22 q23
            replace hs := hs.quiet q23
            have hH := Hold.of (Ls := [_, _, _]) hs
            refine An_take 0 rfl (by kernel_rfl) (by kernel_rfl) (by kernel_rfl) (fun _ _ _ h => leaves_put (results_cell_put rfl rfl) _ _ _ h) hH (fun x hx => run_load sc47 rfl (hx.choose_spec.blk_at 1 rfl 0 rfl)) rfl ?_
            refine An_take 1 rfl (by kernel_rfl) (by kernel_rfl) (by kernel_rfl) (fun _ _ _ h => leaves_put (results_cell_put rfl rfl) _ _ _ h) hH (fun x hx => run_nilCheck rfl) rfl ?_
            refine An_take 2 rfl (by kernel_rfl) (by kernel_rfl) (by kernel_rfl) (fun _ _ _ h => leaves_put (results_cell_put rfl rfl) _ _ _ h) hH (fun x hx => run_as (run_field Try.underlying122 rfl inf120 (by decide) rfl) (show _ = Value.pointer (some ⟨bj, 1, none⟩) from rfl)) rfl ?_
            refine An_take 3 rfl (by kernel_rfl) (by kernel_rfl) (by kernel_rfl) (fun _ _ _ h => leaves_put (results_cell_put rfl rfl) _ _ _ h) hH (fun x hx => run_as (run_field Try.underlying120 rfl inf3 (by decide) rfl) (show _ = Value.pointer (some ⟨bj, 1, none⟩) from rfl)) rfl ?_
            refine An_take 4 rfl (by kernel_rfl) (by kernel_rfl) (by kernel_rfl) (fun _ _ _ h => leaves_put (results_cell_put rfl rfl) _ _ _ h) hH (fun x hx => run_load sc3 rfl (hx.choose_spec.blk_at 0 rfl 1 rfl)) rfl ?_
            refine An_take 5 rfl (by kernel_rfl) (by kernel_rfl) (by kernel_rfl) (fun _ _ _ h => leaves_put (results_cell_put rfl rfl) _ _ _ h) hH (fun x hx => run_add rfl rfl (show _ = s.gen + 1 by rw [ebg, w64 (by omega)])) rfl ?_
            refine An_take 6 rfl (by kernel_rfl) (by kernel_rfl) (by kernel_rfl) (fun _ _ _ h => leaves_put (results_cell_put rfl rfl) _ _ _ h) hH (fun x hx => run_load sc47 rfl (hx.choose_spec.blk_at 1 rfl 0 rfl)) rfl ?_
            refine An_take 7 rfl (by kernel_rfl) (by kernel_rfl) (by kernel_rfl) (fun _ _ _ h => leaves_put (results_cell_put rfl rfl) _ _ _ h) hH (fun x hx => run_nilCheck rfl) rfl ?_
            refine An_take 8 rfl (by kernel_rfl) (by kernel_rfl) (by kernel_rfl) (fun _ _ _ h => leaves_put (results_cell_put rfl rfl) _ _ _ h) hH (fun x hx => run_as (run_field Try.underlying122 rfl inf120 (by decide) rfl) (show _ = Value.pointer (some ⟨bj, 1, none⟩) from rfl)) rfl ?_
            refine An_take 9 rfl (by kernel_rfl) (by kernel_rfl) (by kernel_rfl) (fun _ _ _ h => leaves_put (results_cell_put rfl rfl) _ _ _ h) hH (fun x hx => run_as (run_field Try.underlying120 rfl inf22 (by decide) rfl) (show _ = Value.pointer (some ⟨bj, 2, none⟩) from rfl)) rfl ?_
            refine An_take 10 rfl (by kernel_rfl) (by kernel_rfl) (by kernel_rfl) (fun _ _ _ h => leaves_put (results_cell_put rfl rfl) _ _ _ h) hH (fun x hx => run_load sc22 rfl (hx.choose_spec.blk_at 0 rfl 2 rfl)) rfl ?_
            refine An_two 11 13 (by kernel_rfl) rfl rfl ?_ ?_
            · skip
              refine Ls_call Try.func87 nm87 rfl rfl (CloneI_c w22 _ _ _ s.tb (hs.rd_at 2 rfl) (by omega)) rfl ?_
              rintro v24 w25 ⟨Ac27, cc28, rfl, hsC26⟩
              replace hs := hs.trans hsC26
              simp only [List.cons_append, List.nil_append] at hs
              replace hs := hs.front 3 rfl
              simp only [List.cons_append, List.nil_append, List.eraseIdx_cons_zero, List.eraseIdx_cons_succ] at hs
              replace hs := hs.front 3 rfl
              simp only [List.cons_append, List.nil_append, List.eraseIdx_cons_zero, List.eraseIdx_cons_succ] at hs
              replace hs := hs.front 3 rfl
              simp only [List.cons_append, List.nil_append, List.eraseIdx_cons_zero, List.eraseIdx_cons_succ] at hs
              replace hH := Hold.of (Ls := [_, _, _]) hs
              refine Ls_nil (Jm_An hH ?_)
              refine An_take 12 rfl (by kernel_rfl) (by kernel_rfl) (by kernel_rfl) (fun _ _ _ h => leaves_put (results_cell_put rfl rfl) _ _ _ h) hH (fun x hx => run_buildO (pv := [(0, _), (1, _)]) rfl (bld120_0_1 _ _ _ _)) rfl ?_
              refine An_only 13 (by kernel_rfl) rfl ?_
              refine Ls_alloc hs inf120 rfl ?_
              intro b30 w29 hs
              replace hs := hs.front 3 rfl
              simp only [List.cons_append, List.nil_append, List.eraseIdx_cons_zero, List.eraseIdx_cons_succ] at hs
              replace hs := hs.front 3 rfl
              simp only [List.cons_append, List.nil_append, List.eraseIdx_cons_zero, List.eraseIdx_cons_succ] at hs
              replace hs := hs.front 3 rfl
              simp only [List.cons_append, List.nil_append, List.eraseIdx_cons_zero, List.eraseIdx_cons_succ] at hs
              replace hH := Hold.of (Ls := [_, _, _]) hs
              refine Ls_nil (Jm_An hH ?_)
              refine An_only 14 (by kernel_rfl) rfl ?_
              replace hs := hs.front 3 rfl
              simp only [List.cons_append, List.nil_append, List.eraseIdx_cons_zero, List.eraseIdx_cons_succ] at hs
              refine Ls_storeAgg hs inf120 rfl rfl rfl rfl (by simp [Value.oneCell', Value.cells, bcells, qcells, KW]) ?_
              intro w31 hs
              replace hs := hs.front 3 rfl
              simp only [List.cons_append, List.nil_append, List.eraseIdx_cons_zero, List.eraseIdx_cons_succ] at hs
              replace hs := hs.front 3 rfl
              simp only [List.cons_append, List.nil_append, List.eraseIdx_cons_zero, List.eraseIdx_cons_succ] at hs
              replace hs := hs.front 3 rfl
              simp only [List.cons_append, List.nil_append, List.eraseIdx_cons_zero, List.eraseIdx_cons_succ] at hs
              replace hH := Hold.of (Ls := [_, _, _]) hs
              refine Ls_nil (Jm_An hH ?_)
              refine An_done (by kernel_rfl) ?_
              replace hs := hs.front 6 rfl
              simp only [List.cons_append, List.nil_append, List.eraseIdx_cons_zero, List.eraseIdx_cons_succ] at hs
              replace hs := hs.front 2 rfl
              simp only [List.cons_append, List.nil_append, List.eraseIdx_cons_zero, List.eraseIdx_cons_succ] at hs
              replace hs := hs.front 6 rfl
              simp only [List.cons_append, List.nil_append, List.eraseIdx_cons_zero, List.eraseIdx_cons_succ] at hs
              replace hs := hs.front 4 rfl
              simp only [List.cons_append, List.nil_append, List.eraseIdx_cons_zero, List.eraseIdx_cons_succ] at hs
              replace hs := hs.front 4 rfl
              simp only [List.cons_append, List.nil_append, List.eraseIdx_cons_zero, List.eraseIdx_cons_succ] at hs
              replace hs := hs.front 6 rfl
              simp only [List.cons_append, List.nil_append, List.eraseIdx_cons_zero, List.eraseIdx_cons_succ] at hs
              replace hs := hs.front 6 rfl
              simp only [List.cons_append, List.nil_append, List.eraseIdx_cons_zero, List.eraseIdx_cons_succ] at hs
              refine Jm_join (b30, Ac27, cc28) ?_ ?_
              · rw [hEn19]; exact (subE_cons rfl (subE_cons rfl (subE_cons rfl (subE_cons rfl subE_nil))))
              · skip
                rw [hIv20]
                exact hs
            · skip
              refine Ls_alloc hs inf120 rfl ?_
              intro b33 w32 hs
              replace hs := hs.front 3 rfl
              simp only [List.cons_append, List.nil_append, List.eraseIdx_cons_zero, List.eraseIdx_cons_succ] at hs
              replace hs := hs.front 3 rfl
              simp only [List.cons_append, List.nil_append, List.eraseIdx_cons_zero, List.eraseIdx_cons_succ] at hs
              replace hs := hs.front 3 rfl
              simp only [List.cons_append, List.nil_append, List.eraseIdx_cons_zero, List.eraseIdx_cons_succ] at hs
              replace hH := Hold.of (Ls := [_, _, _]) hs
              refine Ls_nil (Jm_An hH ?_)
              refine An_only 11 (by kernel_rfl) rfl ?_
              refine Ls_call Try.func87 nm87 rfl rfl (CloneI_c w32 _ _ _ s.tb (hs.rd_at 2 rfl) (by omega)) rfl ?_
              rintro v34 w35 ⟨Ac37, cc38, rfl, hsC36⟩
              replace hs := hs.trans hsC36
              simp only [List.cons_append, List.nil_append] at hs
              replace hs := hs.front 3 rfl
              simp only [List.cons_append, List.nil_append, List.eraseIdx_cons_zero, List.eraseIdx_cons_succ] at hs
              replace hs := hs.front 3 rfl
              simp only [List.cons_append, List.nil_append, List.eraseIdx_cons_zero, List.eraseIdx_cons_succ] at hs
              replace hs := hs.front 3 rfl
              simp only [List.cons_append, List.nil_append, List.eraseIdx_cons_zero, List.eraseIdx_cons_succ] at hs
              replace hH := Hold.of (Ls := [_, _, _]) hs
              refine Ls_nil (Jm_An hH ?_)
              refine An_take 12 rfl (by kernel_rfl) (by kernel_rfl) (by kernel_rfl) (fun _ _ _ h => leaves_put (results_cell_put rfl rfl) _ _ _ h) hH (fun x hx => run_buildO (pv := [(0, _), (1, _)]) rfl (bld120_0_1 _ _ _ _)) rfl ?_
              refine An_only 14 (by kernel_rfl) rfl ?_
              replace hs := hs.front 4 rfl
              simp only [List.cons_append, List.nil_append, List.eraseIdx_cons_zero, List.eraseIdx_cons_succ] at hs
              refine Ls_storeAgg hs inf120 rfl rfl rfl rfl (by simp [Value.oneCell', Value.cells, bcells, qcells, KW]) ?_
              intro w39 hs
              replace hs := hs.front 3 rfl
              simp only [List.cons_append, List.nil_append, List.eraseIdx_cons_zero, List.eraseIdx_cons_succ] at hs
              replace hs := hs.front 3 rfl
              simp only [List.cons_append, List.nil_append, List.eraseIdx_cons_zero, List.eraseIdx_cons_succ] at hs
              replace hs := hs.front 3 rfl
              simp only [List.cons_append, List.nil_append, List.eraseIdx_cons_zero, List.eraseIdx_cons_succ] at hs
              replace hH := Hold.of (Ls := [_, _, _]) hs
              refine Ls_nil (Jm_An hH ?_)
              refine An_done (by kernel_rfl) ?_
              replace hs := hs.front 6 rfl
              simp only [List.cons_append, List.nil_append, List.eraseIdx_cons_zero, List.eraseIdx_cons_succ] at hs
              replace hs := hs.front 2 rfl
              simp only [List.cons_append, List.nil_append, List.eraseIdx_cons_zero, List.eraseIdx_cons_succ] at hs
              replace hs := hs.front 6 rfl
              simp only [List.cons_append, List.nil_append, List.eraseIdx_cons_zero, List.eraseIdx_cons_succ] at hs
              replace hs := hs.front 4 rfl
              simp only [List.cons_append, List.nil_append, List.eraseIdx_cons_zero, List.eraseIdx_cons_succ] at hs
              replace hs := hs.front 4 rfl
              simp only [List.cons_append, List.nil_append, List.eraseIdx_cons_zero, List.eraseIdx_cons_succ] at hs
              replace hs := hs.front 6 rfl
              simp only [List.cons_append, List.nil_append, List.eraseIdx_cons_zero, List.eraseIdx_cons_succ] at hs
              replace hs := hs.front 6 rfl
              simp only [List.cons_append, List.nil_append, List.eraseIdx_cons_zero, List.eraseIdx_cons_succ] at hs
              refine Jm_join (b33, Ac37, cc38) ?_ ?_
              · rw [hEn19]; exact (subE_cons rfl (subE_cons rfl (subE_cons rfl (subE_cons rfl subE_nil))))
              · skip
                rw [hIv20]
                exact hs
          · skip
            rintro ⟨g7, An, cn⟩ w21 hI40
            rw [hIv20] at hI40
            replace hs := hI40
            refine Jm_eqE (hEn19 _ _ _) ?_
            obtain ⟨gn, hgn⟩ := (hs.front 1 rfl).own_addr (by omega)
            subst hgn
            refine Jm_seq ?_
            refine St_seq ?_
            refine St_region ?_
            refine Ls_run (run_load sc47 rfl (hs.blk_at 5 rfl 0 rfl)) rfl ?_
            refine Ls_run (run_nilCheck rfl) rfl ?_
            refine Ls_run (run_as (run_field Try.underlying122 rfl inf120 (by decide) rfl) (show _ = Value.pointer (some ⟨bj, 1, none⟩) from rfl)) rfl ?_
            refine Ls_run (run_as (run_field Try.underlying120 rfl inf22 (by decide) rfl) (show _ = Value.pointer (some ⟨bj, 2, none⟩) from rfl)) rfl ?_
            refine Ls_run (run_load sc22 rfl (hs.blk_at 2 rfl 2 rfl)) rfl ?_
            refine Ls_call Try.func87 nm87 rfl rfl (CloneI_c w21 _ _ _ s.tb (hs.rd_at 3 rfl) (by omega)) rfl ?_
            rintro v41 w42 ⟨Ac44, cc45, rfl, hsC43⟩
            replace hs := hs.trans hsC43
            simp only [List.cons_append, List.nil_append] at hs
            refine Ls_run (run_assign rfl) rfl ?_
            refine Ls_nil ?_
            refine Jm_seq ?_
            refine St_seq ?_
            refine St_seq ?_
            refine St_region ?_
            refine Ls_run (run_move rfl) rfl ?_
            refine Ls_run (run_len Try.underlying51 rfl) rfl ?_
            refine Ls_run (run_move rfl) rfl ?_
            refine Ls_nil ?_
            refine Jm_seq ?_
            refine St_block ?_
            replace hs := hs.front 5 rfl
            simp only [List.cons_append, List.nil_append, List.eraseIdx_cons_zero, List.eraseIdx_cons_succ] at hs
            replace hs := hs.front 5 rfl
            simp only [List.cons_append, List.nil_append, List.eraseIdx_cons_zero, List.eraseIdx_cons_succ] at hs
            replace hs := hs.front 5 rfl
            simp only [List.cons_append, List.nil_append, List.eraseIdx_cons_zero, List.eraseIdx_cons_succ] at hs
            replace hs := hs.front 3 rfl
            simp only [List.cons_append, List.nil_append, List.eraseIdx_cons_zero, List.eraseIdx_cons_succ] at hs
            replace hs := hs.front 5 rfl
            simp only [List.cons_append, List.nil_append, List.eraseIdx_cons_zero, List.eraseIdx_cons_succ] at hs
            replace hs := hs.front 5 rfl
            simp only [List.cons_append, List.nil_append, List.eraseIdx_cons_zero, List.eraseIdx_cons_succ] at hs
            replace hs := hs.front 7 rfl
            simp only [List.cons_append, List.nil_append, List.eraseIdx_cons_zero, List.eraseIdx_cons_succ] at hs
            replace hs := hs.front 7 rfl
            simp only [List.cons_append, List.nil_append, List.eraseIdx_cons_zero, List.eraseIdx_cons_succ] at hs
            replace hs := hs.front 7 rfl
            simp only [List.cons_append, List.nil_append, List.eraseIdx_cons_zero, List.eraseIdx_cons_succ] at hs
            replace hs := hs.front 7 rfl
            simp only [List.cons_append, List.nil_append, List.eraseIdx_cons_zero, List.eraseIdx_cons_succ] at hs
            replace hs := hs.front 7 rfl
            simp only [List.cons_append, List.nil_append, List.eraseIdx_cons_zero, List.eraseIdx_cons_succ] at hs
            replace hs := hs.front 7 rfl
            simp only [List.cons_append, List.nil_append, List.eraseIdx_cons_zero, List.eraseIdx_cons_succ] at hs
            replace hs := hs.front 7 rfl
            simp only [List.cons_append, List.nil_append, List.eraseIdx_cons_zero, List.eraseIdx_cons_succ] at hs
            replace hs := hs.front 7 rfl
            simp only [List.cons_append, List.nil_append, List.eraseIdx_cons_zero, List.eraseIdx_cons_succ] at hs
            replace hs := hs.front 7 rfl
            simp only [List.cons_append, List.nil_append, List.eraseIdx_cons_zero, List.eraseIdx_cons_succ] at hs
            replace hs := hs.front 7 rfl
            simp only [List.cons_append, List.nil_append, List.eraseIdx_cons_zero, List.eraseIdx_cons_succ] at hs
            obtain ⟨En46, hEn46⟩ : ∃ F : Nat × Option Addr × Nat × Nat × List Int × List Int × DSt → Env, ∀ (i : Nat) (At : Option Addr) (kt : Nat) (ct : Nat) (tk : List Int) (tb2 : List Int) (d2 : DSt), F (i, At, kt, ct, tk, tb2, d2) = [(2, .pointer (some ⟨b2, 0, none⟩)), (4, .pointer (some ⟨b4, 0, none⟩)), (7, .pointer (some ⟨g7, 0, none⟩)), (8, .slice At kt ct), (54, .slice A n c), (55, .int .i64 (n : Int)), (56, .int .i64 (i : Int))] := ⟨(fun (sx0 : Nat × Option Addr × Nat × Nat × List Int × List Int × DSt) => match sx0 with | (i, At, kt, ct, tk, tb2, d2) => [(2, .pointer (some ⟨b2, 0, none⟩)), (4, .pointer (some ⟨b4, 0, none⟩)), (7, .pointer (some ⟨g7, 0, none⟩)), (8, .slice At kt ct), (54, .slice A n c), (55, .int .i64 (n : Int)), (56, .int .i64 (i : Int))]), fun _ _ _ _ _ _ _ => rfl⟩
            obtain ⟨Iv47, hIv47⟩ : ∃ F : Nat × Option Addr × Nat × Nat × List Int × List Int × DSt → World → Prop, ∀ (i : Nat) (At : Option Addr) (kt : Nat) (ct : Nat) (tk : List Int) (tb2 : List Int) (d2 : DSt) (wr : World), F (i, At, kt, ct, tk, tb2, d2) wr = (Sat B wr (Blk b2 [.pointer (some ⟨bj, 0, none⟩)] 47 :: Blk b4 [.int .i64 0] 29 :: Blk g7 [.int .i64 (s.gen + 1), .slice (some ⟨gn, 0, none⟩) s.tb.length cn] 120 :: Own 3 1 (.slice (some ⟨gn, 0, none⟩) s.tb.length cn) s.tb.length (KI.flat tb2) :: Own 3 1 (.slice At kt ct) kt (KI.flat tk) :: Blk bj (bcells (some ⟨b, 0, none⟩) (bend dO s d) Ab cb) 122 :: Own 3 1 (.slice Ab s.tb.length cb) s.tb.length (KI.flat s.tb) :: DiskA 129 28 5 b d2 :: L) ∧ i ≤ n ∧ tb2.length = s.tb.length ∧ putL dO (ws.drop i) tb2 tk d2 = putL dO ws s.tb s.tb d ∧ DOk d2 ∧ d2.bl.length = d.bl.length ∧ (tk.length = kt ∧ kt ≤ s.tb.length + i) ∧ ∀ x ∈ tb2, 0 ≤ x ∧ x ≤ 64) := ⟨(fun (sx0 : Nat × Option Addr × Nat × Nat × List Int × List Int × DSt) => match sx0 with | (i, At, kt, ct, tk, tb2, d2) => fun (wr : World) => Sat B wr (Blk b2 [.pointer (some ⟨bj, 0, none⟩)] 47 :: Blk b4 [.int .i64 0] 29 :: Blk g7 [.int .i64 (s.gen + 1), .slice (some ⟨gn, 0, none⟩) s.tb.length cn] 120 :: Own 3 1 (.slice (some ⟨gn, 0, none⟩) s.tb.length cn) s.tb.length (KI.flat tb2) :: Own 3 1 (.slice At kt ct) kt (KI.flat tk) :: Blk bj (bcells (some ⟨b, 0, none⟩) (bend dO s d) Ab cb) 122 :: Own 3 1 (.slice Ab s.tb.length cb) s.tb.length (KI.flat s.tb) :: DiskA 129 28 5 b d2 :: L) ∧ i ≤ n ∧ tb2.length = s.tb.length ∧ putL dO (ws.drop i) tb2 tk d2 = putL dO ws s.tb s.tb d ∧ DOk d2 ∧ d2.bl.length = d.bl.length ∧ (tk.length = kt ∧ kt ≤ s.tb.length + i) ∧ ∀ x ∈ tb2, 0 ≤ x ∧ x ≤ 64), fun _ _ _ _ _ _ _ _ => rfl⟩
            obtain ⟨ms48, hms48⟩ : ∃ F : Nat × Option Addr × Nat × Nat × List Int × List Int × DSt → Nat, ∀ (i : Nat) (At : Option Addr) (kt : Nat) (ct : Nat) (tk : List Int) (tb2 : List Int) (d2 : DSt), F (i, At, kt, ct, tk, tb2, d2) = (n - i) := ⟨(fun (sx0 : Nat × Option Addr × Nat × Nat × List Int × List Int × DSt) => match sx0 with | (i, At, kt, ct, tk, tb2, d2) => n - i), fun _ _ _ _ _ _ _ => rfl⟩
            refine St_loop En46 Iv47 ms48 (0, Ac44, s.tb.length, cc45, s.tb, s.tb, d) ?_ ?_ ?_
            · skip
              rw [hIv47]
              exact ⟨hs, by omega, rfl, rfl, hdok, rfl, ⟨rfl, by omega⟩, hpos⟩
            · rw [hEn46]; exact (subE_cons rfl (subE_cons rfl (subE_cons rfl (subE_cons rfl (subE_cons rfl (subE_cons rfl (subE_cons rfl subE_nil)))))))
            rintro ⟨i, At, kt, ct, tk, tb2, d2⟩ wr hI49
            rw [hIv47] at hI49
            obtain ⟨hs, hi, htl, hput, hd2, hdl2, ⟨htk, htk2⟩, hp64⟩ := hI49
            refine St_eqE (hEn46 _ _ _ _ _ _ _) ?_
            refine St_seq ?_
            refine St_region ?_
            refine Ls_run (run_lss rfl rfl) rfl ?_
            refine Ls_nil ?_
            refine Jm_seq ?_
            refine St_seq ?_
            refine St_ifP rfl (fun h50 => ?_) (fun h50 => ?_)
            · skip
              refine St_skip ?_
              refine Jm_seq ?_
              refine St_seq ?_
              refine St_block ?_
              refine St_seq ?_
              refine St_region ?_
              obtain ⟨⟨pg, Aw, nw, cw⟩, ho⟩ : ∃ o, vs.getD i (0, none, 0, 0) = o := ⟨_, rfl⟩
              obtain ⟨⟨q, x⟩, hq⟩ : ∃ o, ws.getD i (0, []) = o := ⟨_, rfl⟩
              obtain ⟨hpg, hrw⟩ := (Sat.rdL0 (pre := [_, _, _, _, _, _, _, _]) hr hs).at_ i (by omega)
              rw [ho, hq] at hpg
              rw [ho, hq] at hrw
              simp only at hpg hrw
              subst hpg
              have hxl := rdB_len hrw
              have hwq := hok _ (wmem (ws := ws) (i := i) (by omega))
              have hwf := hfo.1 _ (wmem (ws := ws) (i := i) (by omega))
              rw [hq] at hwq hwf
              simp only at hwq hwf
              obtain ⟨k, rfl⟩ : ∃ k : Nat, pg = (k : Int) := ⟨pg.toNat, by omega⟩
              rw [wdrop (by omega) hq] at hput
              have hfs := free_spec tk
              refine Ls_index (KW) ((Sat.rdL0 (pre := [_, _, _, _, _, _, _, _]) hr hs).rd) Try.underlying51 inf45 rfl rfl (by omega) (by omega) ho rfl ?_
              intro b51 o52 hc53
              refine Ls_run (run_as (run_load_agg agg45 inf45 rfl rfl hc53) (show _ = Value.agg #[.int .i64 (k : Int), .slice Aw nw cw] from rfl)) rfl ?_
              refine Ls_alloc hs inf45 rfl ?_
              intro b55 w54 hs
              refine Ls_storeAgg hs inf45 rfl rfl rfl rfl (by simp [Value.oneCell', Value.cells, bcells, qcells, KW]) ?_
              intro w56 hs
              refine Ls_nil ?_
              refine Jm_seq ?_
              refine St_seq ?_
              refine St_region ?_
              refine Ls_run (run_as (run_field Try.underlying120 rfl inf22 (by decide) rfl) (show _ = Value.pointer (some ⟨g7, 1, none⟩) from rfl)) rfl ?_
              refine Ls_run (run_load sc22 rfl (hs.blk_at 3 rfl 1 rfl)) rfl ?_
              refine Ls_run (run_as (run_field Try.underlying45 rfl inf3 (by decide) rfl) (show _ = Value.pointer (some ⟨b55, 0, none⟩) from rfl)) rfl ?_
              refine Ls_run (run_load sc3 rfl (hs.blk_at 0 rfl 0 rfl)) rfl ?_
              refine Ls_run (run_as (run_index Try.underlying22 inf3 rfl rfl rfl (by omega) (by omega)) (show _ = Value.pointer (some ⟨gn, k, none⟩) from by simp)) rfl ?_
              replace hs := hs.front 4 rfl
              simp only [List.cons_append, List.nil_append, List.eraseIdx_cons_zero, List.eraseIdx_cons_succ] at hs
              refine Ls_storeOwn hs inf3 rfl rfl rfl (by omega) ?_
              intro w57 hs
              rw [flatKI_set] at hs
              refine Ls_nil ?_
              refine Jm_seq ?_
              refine St_seq ?_
              refine St_seq ?_
              refine St_region ?_
              refine Ls_run (run_as (run_field Try.underlying45 rfl inf28 (by decide) rfl) (show _ = Value.pointer (some ⟨b55, 1, none⟩) from rfl)) rfl ?_
              refine Ls_run (run_load sc28 rfl (hs.blk_at 1 rfl 1 rfl)) rfl ?_
              refine Ls_run (run_len Try.underlying28 rfl) rfl ?_
              refine Ls_run (run_eql rfl rfl) rfl ?_
              refine Ls_nil ?_
              refine Jm_seq ?_
              refine St_ifP rfl (fun h58 => ?_) (fun h58 => ?_)
              · skip
                refine St_exit ?_
                refine Jm_then_exit (Jm_block_same (Jm_seq ?_))
                refine St_region ?_
                refine Ls_run (run_add rfl rfl (w64 (by omega))) rfl ?_
                refine Ls_run (run_move rfl) rfl ?_
                refine Ls_nil ?_
                replace hs := hs.erase 1
                simp only [List.cons_append, List.nil_append, List.eraseIdx_cons_zero, List.eraseIdx_cons_succ] at hs
                replace hs := hs.front 7 rfl
                simp only [List.cons_append, List.nil_append, List.eraseIdx_cons_zero, List.eraseIdx_cons_succ] at hs
                replace hs := hs.front 7 rfl
                simp only [List.cons_append, List.nil_append, List.eraseIdx_cons_zero, List.eraseIdx_cons_succ] at hs
                replace hs := hs.front 7 rfl
                simp only [List.cons_append, List.nil_append, List.eraseIdx_cons_zero, List.eraseIdx_cons_succ] at hs
                replace hs := hs.front 7 rfl
                simp only [List.cons_append, List.nil_append, List.eraseIdx_cons_zero, List.eraseIdx_cons_succ] at hs
                replace hs := hs.front 4 rfl
                simp only [List.cons_append, List.nil_append, List.eraseIdx_cons_zero, List.eraseIdx_cons_succ] at hs
                replace hs := hs.front 7 rfl
                simp only [List.cons_append, List.nil_append, List.eraseIdx_cons_zero, List.eraseIdx_cons_succ] at hs
                replace hs := hs.front 7 rfl
                simp only [List.cons_append, List.nil_append, List.eraseIdx_cons_zero, List.eraseIdx_cons_succ] at hs
                replace hs := hs.front 7 rfl
                simp only [List.cons_append, List.nil_append, List.eraseIdx_cons_zero, List.eraseIdx_cons_succ] at hs
                refine Jm_round (i + 1, At, kt, ct, tk, (tb2.set k 0), d2) ?_ ?_ ?_
                · rw [hEn46]; exact (subE_cons rfl (subE_cons rfl (subE_cons rfl (subE_cons rfl (subE_cons rfl (subE_cons rfl (subE_cons rfl subE_nil)))))))
                · skip
                  rw [hIv47]
                  rw [putL_skip (by omega)] at hput
                  exact ⟨hs, by omega, by rw [List.length_set]; exact htl, hput, hd2, hdl2, ⟨htk, by omega⟩, set_bd hp64 (by decide)⟩
                · skip
                  rw [hms48, hms48]
                  omega
              · skip
                refine St_skip ?_
                refine Jm_seq ?_
                refine St_seq ?_
                refine St_region ?_
                refine Ls_run (run_assign rfl) rfl ?_
                refine Ls_nil ?_
                refine Jm_seq ?_
                refine St_seq ?_
                refine St_block ?_
                replace hs := hs.front 8 rfl
                simp only [List.cons_append, List.nil_append, List.eraseIdx_cons_zero, List.eraseIdx_cons_succ] at hs
                replace hs := hs.front 8 rfl
                simp only [List.cons_append, List.nil_append, List.eraseIdx_cons_zero, List.eraseIdx_cons_succ] at hs
                replace hs := hs.front 8 rfl
                simp only [List.cons_append, List.nil_append, List.eraseIdx_cons_zero, List.eraseIdx_cons_succ] at hs
                replace hs := hs.front 8 rfl
                simp only [List.cons_append, List.nil_append, List.eraseIdx_cons_zero, List.eraseIdx_cons_succ] at hs
                replace hs := hs.front 4 rfl
                simp only [List.cons_append, List.nil_append, List.eraseIdx_cons_zero, List.eraseIdx_cons_succ] at hs
                replace hs := hs.front 8 rfl
                simp only [List.cons_append, List.nil_append, List.eraseIdx_cons_zero, List.eraseIdx_cons_succ] at hs
                replace hs := hs.front 8 rfl
                simp only [List.cons_append, List.nil_append, List.eraseIdx_cons_zero, List.eraseIdx_cons_succ] at hs
                replace hs := hs.front 8 rfl
                simp only [List.cons_append, List.nil_append, List.eraseIdx_cons_zero, List.eraseIdx_cons_succ] at hs
                replace hs := hs.front 8 rfl
                simp only [List.cons_append, List.nil_append, List.eraseIdx_cons_zero, List.eraseIdx_cons_succ] at hs
                obtain ⟨En59, hEn59⟩ : ∃ F : Int → Env, ∀ (a : Int), F a = [(2, .pointer (some ⟨b2, 0, none⟩)), (4, .pointer (some ⟨b4, 0, none⟩)), (7, .pointer (some ⟨g7, 0, none⟩)), (8, .slice At kt ct), (54, .slice A n c), (55, .int .i64 (n : Int)), (56, .int .i64 (i : Int)), (10, .pointer (some ⟨b55, 0, none⟩)), (11, .int .i64 a)] := ⟨(fun (a : Int) => [(2, .pointer (some ⟨b2, 0, none⟩)), (4, .pointer (some ⟨b4, 0, none⟩)), (7, .pointer (some ⟨g7, 0, none⟩)), (8, .slice At kt ct), (54, .slice A n c), (55, .int .i64 (n : Int)), (56, .int .i64 (i : Int)), (10, .pointer (some ⟨b55, 0, none⟩)), (11, .int .i64 a)]), fun _ => rfl⟩
                obtain ⟨Iv60, hIv60⟩ : ∃ F : Int → World → Prop, ∀ (a : Int) (wk : World), F a wk = (Sat B wk (Blk b55 [.int .i64 (k : Int), .slice Aw nw cw] 45 :: Blk b2 [.pointer (some ⟨bj, 0, none⟩)] 47 :: Blk b4 [.int .i64 0] 29 :: Blk g7 [.int .i64 (s.gen + 1), .slice (some ⟨gn, 0, none⟩) s.tb.length cn] 120 :: Own 3 1 (.slice (some ⟨gn, 0, none⟩) s.tb.length cn) s.tb.length (KI.flat (tb2.set k 0)) :: Own 3 1 (.slice At kt ct) kt (KI.flat tk) :: Blk bj (bcells (some ⟨b, 0, none⟩) (bend dO s d) Ab cb) 122 :: Own 3 1 (.slice Ab s.tb.length cb) s.tb.length (KI.flat s.tb) :: DiskA 129 28 5 b d2 :: L) ∧ 2 ≤ a ∧ a ≤ free tk) := ⟨(fun (a : Int) => fun (wk : World) => Sat B wk (Blk b55 [.int .i64 (k : Int), .slice Aw nw cw] 45 :: Blk b2 [.pointer (some ⟨bj, 0, none⟩)] 47 :: Blk b4 [.int .i64 0] 29 :: Blk g7 [.int .i64 (s.gen + 1), .slice (some ⟨gn, 0, none⟩) s.tb.length cn] 120 :: Own 3 1 (.slice (some ⟨gn, 0, none⟩) s.tb.length cn) s.tb.length (KI.flat (tb2.set k 0)) :: Own 3 1 (.slice At kt ct) kt (KI.flat tk) :: Blk bj (bcells (some ⟨b, 0, none⟩) (bend dO s d) Ab cb) 122 :: Own 3 1 (.slice Ab s.tb.length cb) s.tb.length (KI.flat s.tb) :: DiskA 129 28 5 b d2 :: L) ∧ 2 ≤ a ∧ a ≤ free tk), fun _ _ => rfl⟩
                obtain ⟨ms61, hms61⟩ : ∃ F : Int → Nat, ∀ (a : Int), F a = ((free tk - a).toNat) := ⟨(fun (a : Int) => (free tk - a).toNat), fun _ => rfl⟩
                refine St_loop En59 Iv60 ms61 (2) ?_ ?_ ?_
                · skip
                  rw [hIv60]
                  exact ⟨hs, by omega, by omega⟩
                · rw [hEn59]; exact (subE_cons rfl (subE_cons rfl (subE_cons rfl (subE_cons rfl (subE_cons rfl (subE_cons rfl (subE_cons rfl (subE_cons rfl (subE_cons rfl subE_nil)))))))))
                rintro a wk hI62
                rw [hIv60] at hI62
                obtain ⟨hs, ha, hb⟩ := hI62
                refine St_eqE (hEn59 _) ?_
                refine St_seq ?_
                refine St_seq ?_
                refine St_region ?_
                refine Ls_run (run_move rfl) rfl ?_
                refine Ls_run (run_move rfl) rfl ?_
                refine Ls_call Try.func88 nm88 rfl rfl (ContainsI_c wk At kt ct tk (hs.rd_at 5 rfl) (by omega) a) rfl ?_
                rintro v63 w65 ⟨rfl, hsK66⟩
                replace hs := hs.trans hsK66
                simp only [List.nil_append, List.cons_append] at hs
                refine Ls_nil ?_
                refine Jm_seq ?_
                refine St_ifP rfl (fun h67 => ?_) (fun h67 => ?_)
                · skip
                  refine St_skip ?_
                  refine Jm_seq ?_
                  refine St_block ?_
                  refine St_region ?_
                  refine Ls_run (run_move rfl) rfl ?_
                  refine Ls_run (run_add rfl rfl (w64 (by omega))) rfl ?_
                  refine Ls_run (run_assign rfl) rfl ?_
                  refine Ls_nil ?_
                  refine Jm_block_normal ?_
                  have hne : a ≠ free tk := fun q => hfs.2.2.1 (q ▸ (by assumption))
                  refine Jm_round (a + 1) ?_ ?_ ?_
                  · rw [hEn59]; exact (subE_cons rfl (subE_cons rfl (subE_cons rfl (subE_cons rfl (subE_cons rfl (subE_cons rfl (subE_cons rfl (subE_cons rfl (subE_cons rfl subE_nil)))))))))
                  · skip
                    rw [hIv60]
                    exact ⟨hs, by omega, by omega⟩
                  · skip
                    rw [hms61, hms61]
                    omega
                · skip
                  have hae : a = free tk := free_eq ha (by assumption) (fun q h1 h2 => hfs.2.2.2 q h1 (by omega))
                  subst hae
                  refine St_exit ?_
                  refine Jm_then_exit (Jm_then_exit (Jm_block_same (Jm_seq ?_)))
                  refine St_seq ?_
                  refine St_region ?_
                  refine Ls_run (run_load sc47 rfl (hs.blk_at 1 rfl 0 rfl)) rfl ?_
                  refine Ls_run (run_move rfl) rfl ?_
                  refine Ls_run (run_as (run_field Try.underlying45 rfl inf28 (by decide) rfl) (show _ = Value.pointer (some ⟨b55, 1, none⟩) from rfl)) rfl ?_
                  refine Ls_run (run_load sc28 rfl (hs.blk_at 0 rfl 1 rfl)) rfl ?_
                  replace hs := hs.front 8 rfl
                  simp only [List.cons_append, List.nil_append, List.eraseIdx_cons_zero, List.eraseIdx_cons_succ] at hs
                  replace hs := hs.front 7 rfl
                  simp only [List.cons_append, List.nil_append, List.eraseIdx_cons_zero, List.eraseIdx_cons_succ] at hs
                  refine Ls_callP Try.func89 nm89 rfl rfl (bwrite_c B w65 _ bj b (bend dO s d) d2 Ab cb hs hd2 (free tk) Aw nw cw x (fun w' X q => by have q2 : Sat B w' ([X, _, _, _, _, _, _, _] ++ L) := q; have h9 := (Sat.rdL0 (pre := [X, _, _, _, _, _, _, _]) hr q2).at_ i (by omega); rw [ho, hq] at h9; exact h9.2) (by omega)) rfl ?_ ?_
                  rotate_left
                  · skip
                    rintro ch70 w71 ⟨e9, rfl, he9, hne9, hs⟩
                    repeat (first | refine Jm_then_panic ?_ | refine Jm_block_panic ?_)
                    replace hs := hs.erase 2
                    simp only [List.cons_append, List.nil_append, List.eraseIdx_cons_zero, List.eraseIdx_cons_succ] at hs
                    replace hs := hs.erase 4
                    simp only [List.cons_append, List.nil_append, List.eraseIdx_cons_zero, List.eraseIdx_cons_succ] at hs
                    replace hs := hs.erase 4
                    simp only [List.cons_append, List.nil_append, List.eraseIdx_cons_zero, List.eraseIdx_cons_succ] at hs
                    replace hs := hs.erase 4
                    simp only [List.cons_append, List.nil_append, List.eraseIdx_cons_zero, List.eraseIdx_cons_succ] at hs
                    replace hs := hs.front 1 rfl
                    simp only [List.cons_append, List.nil_append, List.eraseIdx_cons_zero, List.eraseIdx_cons_succ] at hs
                    replace hs := hs.front 4 rfl
                    simp only [List.cons_append, List.nil_append, List.eraseIdx_cons_zero, List.eraseIdx_cons_succ] at hs
                    replace hs := hs.front 2 rfl
                    simp only [List.cons_append, List.nil_append, List.eraseIdx_cons_zero, List.eraseIdx_cons_succ] at hs
                    replace hs := hs.front 4 rfl
                    simp only [List.cons_append, List.nil_append, List.eraseIdx_cons_zero, List.eraseIdx_cons_succ] at hs
                    replace hs := hs.front 4 rfl
                    simp only [List.cons_append, List.nil_append, List.eraseIdx_cons_zero, List.eraseIdx_cons_succ] at hs
                    obtain ⟨⟨e8, d9⟩, hw9⟩ : ∃ q, dwrite d2 (free tk) (x) = q := ⟨_, rfl⟩
                    rw [hw9] at hs he9
                    simp only at hs he9
                    subst he9
                    refine Jm_leaveP (Φ := fun w' => Sat B w' (Blk b2 [.pointer (some ⟨bj, 0, none⟩)] 47 :: Blk b4 [.int .i64 80] 29 :: Blk bj (bcells (some ⟨b, 0, none⟩) { bend dO s d with ended := true } Ab cb) 122 :: Own 3 1 (.slice Ab s.tb.length cb) s.tb.length (KI.flat s.tb) :: DiskA 129 28 5 b d9 :: L)) Try.func86 nm86 rfl ((bcatch_c B _ _ b2 b4 bj _ (bend dO s d) Ab cb _ _ hs).mono ?_) ?_
                    · rintro e' u' w' ⟨rfl, v9, rfl, rfl, hs9⟩; exact ⟨rfl, rfl, hs9⟩
                    · intro w' hs9 a ha
                      refine ⟨_, res_C rfl sc29 (hs9.blk_at 1 rfl 0 rfl) ha rfl, _, rfl, ?_⟩
                      rw [bput_f1 (fx := fun _ => 80) hen (fun q => by rcases q with q | q; exact absurd hf0 q; rw [q] at hwn; simp at hwn; omega) (by omega) (by rw [← hput]; exact putL_fail (by omega) hw9 hne9) hne9]
                      replace hs9 := (hs9.erase 1).erase 0
                      simp only [List.cons_append, List.nil_append, List.eraseIdx_cons_zero, List.eraseIdx_cons_succ] at hs9
                      exact ⟨rfl, Sat.bshut (s := { bend dO s d with ended := true }) hs9⟩
                  rintro v68 w69 ⟨rfl, hedw, hs⟩
                  obtain ⟨⟨edw, dw⟩, hwdw⟩ : ∃ q, dwrite d2 (free tk) (x) = q := ⟨_, rfl⟩
                  have hkdw := hd2.wr (free tk) (l := x) hwq.2.1
                  rw [hwdw] at hs hedw hkdw
                  simp only at hs hedw hkdw
                  subst hedw
                  refine Ls_nil ?_
                  refine Jm_seq ?_
                  refine St_seq ?_
                  refine St_region ?_
                  refine Ls_run (run_move rfl) rfl ?_
                  refine Ls_run (run_move rfl) rfl ?_
                  refine Ls_literal [_] hs Try.underlying22 inf3 rfl rfl rfl rfl rfl rfl ?_
                  intro b72 w73 hs
                  simp only [List.flatMap_cons, List.flatMap_nil, Value.cells, List.cons_append, List.nil_append] at hs
                  replace hs := hs.front 8 rfl
                  simp only [List.cons_append, List.nil_append, List.eraseIdx_cons_zero, List.eraseIdx_cons_succ] at hs
                  refine Ls_append hs Try.underlying22 inf3 rfl (by decide) (by decide) rfl rfl (rd_block (hs.is_at 1 rfl).2 1 1 rfl) (by simp [Value.oneCell']) (by omega) rfl ?_
                  intro A74 c75 w76 hs
                  replace hs := hs.erase 1
                  simp only [List.cons_append, List.nil_append, List.eraseIdx_cons_zero, List.eraseIdx_cons_succ] at hs
                  refine Ls_run (run_assign rfl) rfl ?_
                  refine Ls_nil ?_
                  refine Jm_seq ?_
                  refine St_region ?_
                  refine Ls_run (run_as (run_field Try.underlying120 rfl inf22 (by decide) rfl) (show _ = Value.pointer (some ⟨g7, 1, none⟩) from rfl)) rfl ?_
                  refine Ls_run (run_load sc22 rfl (hs.blk_at 6 rfl 1 rfl)) rfl ?_
                  refine Ls_run (run_as (run_field Try.underlying45 rfl inf3 (by decide) rfl) (show _ = Value.pointer (some ⟨b55, 0, none⟩) from rfl)) rfl ?_
                  refine Ls_run (run_load sc3 rfl (hs.blk_at 3 rfl 0 rfl)) rfl ?_
                  refine Ls_run (run_move rfl) rfl ?_
                  refine Ls_run (run_as (run_index Try.underlying22 inf3 rfl rfl rfl (by omega) (by omega)) (show _ = Value.pointer (some ⟨gn, k, none⟩) from by simp)) rfl ?_
                  replace hs := hs.front 7 rfl
                  simp only [List.cons_append, List.nil_append, List.eraseIdx_cons_zero, List.eraseIdx_cons_succ] at hs
                  refine Ls_storeOwn hs inf3 rfl rfl rfl (by omega) ?_
                  intro w77 hs
                  rw [flatKI_set] at hs
                  refine Ls_nil ?_
                  refine Jm_block_normal (Jm_seq ?_)
                  refine St_region ?_
                  refine Ls_run (run_add rfl rfl (w64 (by omega))) rfl ?_
                  refine Ls_run (run_move rfl) rfl ?_
                  refine Ls_nil ?_
                  replace hs := hs.erase 4
                  simp only [List.cons_append, List.nil_append, List.eraseIdx_cons_zero, List.eraseIdx_cons_succ] at hs
                  replace hs := hs.front 3 rfl
                  simp only [List.cons_append, List.nil_append, List.eraseIdx_cons_zero, List.eraseIdx_cons_succ] at hs
                  replace hs := hs.front 7 rfl
                  simp only [List.cons_append, List.nil_append, List.eraseIdx_cons_zero, List.eraseIdx_cons_succ] at hs
                  replace hs := hs.front 4 rfl
                  simp only [List.cons_append, List.nil_append, List.eraseIdx_cons_zero, List.eraseIdx_cons_succ] at hs
                  replace hs := hs.front 4 rfl
                  simp only [List.cons_append, List.nil_append, List.eraseIdx_cons_zero, List.eraseIdx_cons_succ] at hs
                  replace hs := hs.front 4 rfl
                  simp only [List.cons_append, List.nil_append, List.eraseIdx_cons_zero, List.eraseIdx_cons_succ] at hs
                  replace hs := hs.front 7 rfl
                  simp only [List.cons_append, List.nil_append, List.eraseIdx_cons_zero, List.eraseIdx_cons_succ] at hs
                  replace hs := hs.front 7 rfl
                  simp only [List.cons_append, List.nil_append, List.eraseIdx_cons_zero, List.eraseIdx_cons_succ] at hs
                  replace hs := hs.front 7 rfl
                  simp only [List.cons_append, List.nil_append, List.eraseIdx_cons_zero, List.eraseIdx_cons_succ] at hs
                  have eks : KI.flat tk ++ [Value.int .i64 (free tk)] = KI.flat (tk ++ [free tk]) := by rw [El.int_flat, El.int_flat]; simp
                  rw [eks] at hs
                  refine Jm_round (i + 1, A74, (kt + 1), c75, (tk ++ [free tk]), ((tb2.set k 0).set k (free tk)), dw) ?_ ?_ ?_
                  · rw [hEn46]; exact (subE_cons rfl (subE_cons rfl (subE_cons rfl (subE_cons rfl (subE_cons rfl (subE_cons rfl (subE_cons rfl subE_nil)))))))
                  · skip
                    rw [hIv47]
                    rw [putL_go (by omega) hwdw] at hput
                    refine ⟨hs, by omega, by rw [List.length_set, List.length_set]; exact htl, by rw [List.set_set]; exact hput, hkdw.1, by rw [hkdw.2]; exact hdl2, ⟨by simp; omega, by omega⟩, set_bd (set_bd hp64 (by decide)) (by omega)⟩
                  · skip
                    rw [hms48, hms48]
                    omega
            · skip
              refine St_exit ?_
              refine Jm_then_exit (Jm_then_exit (Jm_block_same (Jm_seq ?_)))
              refine St_seq ?_
              refine St_drawC 8 (fun x => Below wr.heap.size wr x) mixed ?_
              intro w78 q79
              have hH := q79.below
              replace hs := hs.quiet q79
              refine AnC_grow hH ?_
              replace hH := Below.refl w78.heap.size w78
              have hi9 : i = n := by omega
              rw [show ws.drop i = [] from List.drop_of_length_le (by omega), putL_nil] at hput
              refine AnC_take 0 [8, 0] rfl (by kernel_rfl) (by kernel_rfl) (by kernel_rfl) (by kernel_rfl) (fun _ _ _ h => leaves_put (results_cell_put rfl rfl) _ _ _ h) hH (fun x hx => run_load sc47 rfl ((hs.grow hx).blk_at 0 rfl 0 rfl)) rfl ?_
              refine AnC_take 1 [8, 5, 4, 3, 2, 1] rfl (by kernel_rfl) (by kernel_rfl) (by kernel_rfl) (by kernel_rfl) (fun _ _ _ h => leaves_put (results_cell_put rfl rfl) _ _ _ h) hH (fun x hx => run_load sc47 rfl ((hs.grow hx).blk_at 0 rfl 0 rfl)) rfl ?_
              refine AnC_takeP 2 (by kernel_rfl) rfl (by kernel_rfl) (by kernel_rfl) (by kernel_rfl) (fun _ _ _ h => leaves_put (results_cell_put rfl rfl) _ _ _ h) (fun _ => hH) (fun x => run_nilCheck rfl) rfl ?_
              refine AnC_takeP 3 (by kernel_rfl) rfl (by kernel_rfl) (by kernel_rfl) (by kernel_rfl) (fun _ _ _ h => leaves_put (results_cell_put rfl rfl) _ _ _ h) (fun _ => hH) (fun x => run_as (run_field Try.underlying122 rfl inf3 (by decide) rfl) (show _ = Value.pointer (some ⟨bj, 3, none⟩) from rfl)) rfl ?_
              refine AnC_take 4 [8, 5, 4] rfl (by kernel_rfl) (by kernel_rfl) (by kernel_rfl) (by kernel_rfl) (fun _ _ _ h => leaves_put (results_cell_put rfl rfl) _ _ _ h) hH (fun x hx => run_load sc3 rfl ((hs.grow hx).blk_at 5 rfl 3 rfl)) rfl ?_
              refine AnC_takeP 5 (by kernel_rfl) rfl (by kernel_rfl) (by kernel_rfl) (by kernel_rfl) (fun _ _ _ h => leaves_put (results_cell_put rfl rfl) _ _ _ h) (fun _ => hH) (fun x => run_sub rfl rfl (show _ = 1 - s.slot by rw [ebs, w64 (by omega)])) rfl ?_
              refine AnC_take 6 [8, 7, 6] rfl (by kernel_rfl) (by kernel_rfl) (by kernel_rfl) (by kernel_rfl) (fun _ _ _ h => leaves_put (results_cell_put rfl rfl) _ _ _ h) hH (fun x hx => run_load_agg agg120 inf120 rfl rfl ((hs.grow hx).blk_cells 2 rfl 0 2)) rfl ?_
              refine AnC_only 7 (by kernel_rfl) rfl ?_
              refine Ls_call Try.func90 nm90 rfl rfl (rtbytes_c w78 (s.gen + 1) _ _ tb2 _ htl (hs.rd_at 3 rfl) (by omega) (by omega) hp64) rfl ?_
              rintro v80 w81 ⟨Arb, crb, rfl, hsB⟩
              replace hs := hs.trans hsB
              simp only [List.cons_append, List.nil_append] at hs
              have hnl := rbytes_len (gen := s.gen + 1) (tb := tb2) (by omega) (by omega) hp64
              obtain ⟨rb, hrb⟩ : ∃ q, q = rbytes (s.gen + 1) tb2 := ⟨_, rfl⟩
              have hrbb : IsBytes rb := by rw [hrb]; exact rbytes_bytes _ _
              rw [← hrb] at hs hnl ⊢
              replace hH := (hsB.below : Below w78.heap.size w78 w81)
              refine Ls_nil (Jm_AnC (fun _ => hH) ?_)
              refine AnC_grow hH ?_
              replace hH := Below.refl w81.heap.size w81
              refine AnC_only 8 (by kernel_rfl) rfl ?_
              replace hs := hs.front 8 rfl
              simp only [List.cons_append, List.nil_append, List.eraseIdx_cons_zero, List.eraseIdx_cons_succ] at hs
              replace hs := hs.front 7 rfl
              simp only [List.cons_append, List.nil_append, List.eraseIdx_cons_zero, List.eraseIdx_cons_succ] at hs
              refine Ls_callP Try.func89 nm89 rfl rfl (bwrite_c B w81 _ bj b (bend dO s d) d2 Ab cb hs hd2 (1 - s.slot) Arb rb.length crb rb (fun w' X q => q.rd_at 1 rfl) (by omega)) rfl ?_ ?_
              rotate_left
              · skip
                rintro ch84 w85 ⟨e9, rfl, he9, hne9, hs⟩
                repeat (first | refine Jm_then_panic ?_ | refine Jm_block_panic ?_)
                replace hs := hs.erase 2
                simp only [List.cons_append, List.nil_append, List.eraseIdx_cons_zero, List.eraseIdx_cons_succ] at hs
                replace hs := hs.erase 4
                simp only [List.cons_append, List.nil_append, List.eraseIdx_cons_zero, List.eraseIdx_cons_succ] at hs
                replace hs := hs.erase 4
                simp only [List.cons_append, List.nil_append, List.eraseIdx_cons_zero, List.eraseIdx_cons_succ] at hs
                replace hs := hs.erase 4
                simp only [List.cons_append, List.nil_append, List.eraseIdx_cons_zero, List.eraseIdx_cons_succ] at hs
                replace hs := hs.front 1 rfl
                simp only [List.cons_append, List.nil_append, List.eraseIdx_cons_zero, List.eraseIdx_cons_succ] at hs
                replace hs := hs.front 4 rfl
                simp only [List.cons_append, List.nil_append, List.eraseIdx_cons_zero, List.eraseIdx_cons_succ] at hs
                replace hs := hs.front 2 rfl
                simp only [List.cons_append, List.nil_append, List.eraseIdx_cons_zero, List.eraseIdx_cons_succ] at hs
                replace hs := hs.front 4 rfl
                simp only [List.cons_append, List.nil_append, List.eraseIdx_cons_zero, List.eraseIdx_cons_succ] at hs
                replace hs := hs.front 4 rfl
                simp only [List.cons_append, List.nil_append, List.eraseIdx_cons_zero, List.eraseIdx_cons_succ] at hs
                obtain ⟨⟨e8, d9⟩, hw9⟩ : ∃ q, dwrite d2 (1 - s.slot) (rb) = q := ⟨_, rfl⟩
                rw [hw9] at hs he9
                simp only at hs he9
                subst he9
                refine Jm_leaveP (Φ := fun w' => Sat B w' (Blk b2 [.pointer (some ⟨bj, 0, none⟩)] 47 :: Blk b4 [.int .i64 80] 29 :: Blk bj (bcells (some ⟨b, 0, none⟩) { bend dO s d with ended := true } Ab cb) 122 :: Own 3 1 (.slice Ab s.tb.length cb) s.tb.length (KI.flat s.tb) :: DiskA 129 28 5 b d9 :: L)) Try.func86 nm86 rfl ((bcatch_c B _ _ b2 b4 bj _ (bend dO s d) Ab cb _ _ hs).mono ?_) ?_
                · rintro e' u' w' ⟨rfl, v9, rfl, rfl, hs9⟩; exact ⟨rfl, rfl, hs9⟩
                · intro w' hs9 a ha
                  refine ⟨_, res_C rfl sc29 (hs9.blk_at 1 rfl 0 rfl) ha rfl, _, rfl, ?_⟩
                  rw [bput_f2 (fx := fun _ => 80) hen (fun q => by rcases q with q | q; exact absurd hf0 q; rw [q] at hwn; simp at hwn; omega) (by omega) hput.symm (by rw [← hrb]; exact hw9) hne9]
                  replace hs9 := (hs9.erase 1).erase 0
                  simp only [List.cons_append, List.nil_append, List.eraseIdx_cons_zero, List.eraseIdx_cons_succ] at hs9
                  exact ⟨rfl, Sat.bshut (s := { bend dO s d with ended := true }) hs9⟩
              rintro v82 w83 ⟨rfl, hed3, hs⟩
              obtain ⟨⟨ed3, d3⟩, hwd3⟩ : ∃ q, dwrite d2 (1 - s.slot) (rb) = q := ⟨_, rfl⟩
              have hkd3 := hd2.wr (1 - s.slot) (l := rb) hrbb
              rw [hwd3] at hs hed3 hkd3
              simp only at hs hed3 hkd3
              subst hed3
              refine Ls_nil (Jm_AnC_closed (by kernel_rfl) ?_)
              refine AnC_switch (H' := fun x => Below w83.heap.size w83 x) 9 (by kernel_rfl) ?_
              replace hH := Below.refl w83.heap.size w83
              refine AnC_done (by kernel_rfl) ?_
              refine Jm_seq ?_
              refine St_seq ?_
              replace hs := hs.front 5 rfl
              simp only [List.cons_append, List.nil_append, List.eraseIdx_cons_zero, List.eraseIdx_cons_succ] at hs
              replace hs := hs.front 4 rfl
              simp only [List.cons_append, List.nil_append, List.eraseIdx_cons_zero, List.eraseIdx_cons_succ] at hs
              replace hs := hs.front 2 rfl
              simp only [List.cons_append, List.nil_append, List.eraseIdx_cons_zero, List.eraseIdx_cons_succ] at hs
              refine St_holdAt 13 (HoldAt.of (Ls := [_, _]) (i := 3) (v := .int .i64 s.slot) rfl hs) mixed ?_
              intro w86 q87
              replace hs := hs.quiet q87
              have hH := HoldAt.of (Ls := [_, _]) (i := 3) (v := .int .i64 s.slot) rfl hs
              refine AnC_take 0 [13, 0] rfl (by kernel_rfl) (by kernel_rfl) (by kernel_rfl) (by kernel_rfl) (fun _ _ _ h => leaves_put (results_cell_put rfl rfl) _ _ _ h) hH (fun x hx => run_load sc47 rfl (hx.hold.choose_spec.blk_at 0 rfl 0 rfl)) rfl ?_
              refine AnC_take 1 [13, 1] rfl (by kernel_rfl) (by kernel_rfl) (by kernel_rfl) (by kernel_rfl) (fun _ _ _ h => leaves_put (results_cell_put rfl rfl) _ _ _ h) hH (fun x hx => run_load sc47 rfl (hx.hold.choose_spec.blk_at 0 rfl 0 rfl)) rfl ?_
              refine AnC_take 2 [13, 2] rfl (by kernel_rfl) (by kernel_rfl) (by kernel_rfl) (by kernel_rfl) (fun _ _ _ h => leaves_put (results_cell_put rfl rfl) _ _ _ h) hH (fun x hx => run_load_agg agg120 inf120 rfl rfl (hx.hold.choose_spec.blk_cells 1 rfl 0 2)) rfl ?_
              refine AnC_take 3 [13, 3] rfl (by kernel_rfl) (by kernel_rfl) (by kernel_rfl) (by kernel_rfl) (fun _ _ _ h => leaves_put (results_cell_put rfl rfl) _ _ _ h) hH (fun x hx => run_load sc47 rfl (hx.hold.choose_spec.blk_at 0 rfl 0 rfl)) rfl ?_
              refine AnC_takeP 4 (by kernel_rfl) rfl (by kernel_rfl) (by kernel_rfl) (by kernel_rfl) (fun _ _ _ h => leaves_put (results_cell_put rfl rfl) _ _ _ h) (fun _ => hH) (fun x => run_nilCheck rfl) rfl ?_
              refine AnC_takeP 5 (by kernel_rfl) rfl (by kernel_rfl) (by kernel_rfl) (by kernel_rfl) (fun _ _ _ h => leaves_put (results_cell_put rfl rfl) _ _ _ h) (fun _ => hH) (fun x => run_as (run_field Try.underlying122 rfl inf3 (by decide) rfl) (show _ = Value.pointer (some ⟨bj, 3, none⟩) from rfl)) rfl ?_
              refine AnC_take 6 [13, 6] rfl (by kernel_rfl) (by kernel_rfl) (by kernel_rfl) (by kernel_rfl) (fun _ _ _ h => leaves_put (results_cell_put rfl rfl) _ _ _ h) hH (fun x hx => run_load sc3 rfl hx.cell) rfl ?_
              refine AnC_takeP 7 (by kernel_rfl) rfl (by kernel_rfl) (by kernel_rfl) (by kernel_rfl) (fun _ _ _ h => leaves_put (results_cell_put rfl rfl) _ _ _ h) (fun _ => hH) (fun x => run_sub rfl rfl (show _ = 1 - s.slot by rw [w64 (by omega)])) rfl ?_
              refine AnC_takeP 8 (by kernel_rfl) rfl (by kernel_rfl) (by kernel_rfl) (by kernel_rfl) (fun _ _ _ h => leaves_put (results_cell_put rfl rfl) _ _ _ h) (fun _ => hH) (fun x => run_nilCheck rfl) rfl ?_
              refine AnC_takeP 9 (by kernel_rfl) rfl (by kernel_rfl) (by kernel_rfl) (by kernel_rfl) (fun _ _ _ h => leaves_put (results_cell_put rfl rfl) _ _ _ h) (fun _ => hH) (fun x => run_as (run_field Try.underlying122 rfl inf120 (by decide) rfl) (show _ = Value.pointer (some ⟨bj, 1, none⟩) from rfl)) rfl ?_
              refine AnC_only 10 (by kernel_rfl) rfl ?_
              refine Ls_storeAggAt hs inf120 rfl rfl rfl (by first | decide | exact Nat.le_of_ble_eq_true rfl) (by simp [Value.oneCell', Value.cells, bcells, qcells, KW]) ?_
              intro w88 hs
              simp only [bcells, bend, dO, Nat.reduceAdd, Nat.zero_add, List.take_succ_cons, List.take_zero, List.drop_succ_cons, List.drop_zero, List.cons_append, List.nil_append] at hs
              replace hs := hs.front 2 rfl
              simp only [List.cons_append, List.nil_append, List.eraseIdx_cons_zero, List.eraseIdx_cons_succ] at hs
              replace hs := hs.front 2 rfl
              simp only [List.cons_append, List.nil_append, List.eraseIdx_cons_zero, List.eraseIdx_cons_succ] at hs
              replace hs := hs.front 2 rfl
              simp only [List.cons_append, List.nil_append, List.eraseIdx_cons_zero, List.eraseIdx_cons_succ] at hs
              replace hH := HoldAt.of (Ls := [_, _]) (i := 3) (v := .int .i64 s.slot) rfl hs
              refine Ls_nil (Jm_AnC (fun _ => hH) ?_)
              refine AnC_takeP 11 (by kernel_rfl) rfl (by kernel_rfl) (by kernel_rfl) (by kernel_rfl) (fun _ _ _ h => leaves_put (results_cell_put rfl rfl) _ _ _ h) (fun _ => hH) (fun x => run_nilCheck rfl) rfl ?_
              refine AnC_takeP 12 (by kernel_rfl) rfl (by kernel_rfl) (by kernel_rfl) (by kernel_rfl) (fun _ _ _ h => leaves_put (results_cell_put rfl rfl) _ _ _ h) (fun _ => hH) (fun x => run_as (run_field Try.underlying122 rfl inf3 (by decide) rfl) (show _ = Value.pointer (some ⟨bj, 3, none⟩) from rfl)) rfl ?_
              refine AnC_only 13 (by kernel_rfl) rfl ?_
              refine Ls_store hs inf3 rfl rfl rfl rfl ?_
              intro w89 hs
              try simp only [List.set_cons_zero, List.set_cons_succ] at hs
              refine Ls_nil (Jm_AnC_closed (by kernel_rfl) ?_)
              refine AnC_done (by kernel_rfl) ?_
              refine Jm_seq ?_
              refine St_seq ?_
              refine St_region ?_
              replace hs := hs.front 5 rfl
              simp only [List.cons_append, List.nil_append, List.eraseIdx_cons_zero, List.eraseIdx_cons_succ] at hs
              refine Ls_store hs inf29 rfl rfl rfl rfl ?_
              intro w90 hs
              try simp only [List.set_cons_zero, List.set_cons_succ] at hs
              refine Ls_nil ?_
              refine Jm_seq ?_
              refine St_ret ?_
              replace hs := hs.erase 3
              simp only [List.cons_append, List.nil_append, List.eraseIdx_cons_zero, List.eraseIdx_cons_succ] at hs
              replace hs := hs.erase 4
              simp only [List.cons_append, List.nil_append, List.eraseIdx_cons_zero, List.eraseIdx_cons_succ] at hs
              replace hs := hs.erase 5
              simp only [List.cons_append, List.nil_append, List.eraseIdx_cons_zero, List.eraseIdx_cons_succ] at hs
              replace hs := hs.erase 5
              simp only [List.cons_append, List.nil_append, List.eraseIdx_cons_zero, List.eraseIdx_cons_succ] at hs
              replace hs := hs.front 3 rfl
              simp only [List.cons_append, List.nil_append, List.eraseIdx_cons_zero, List.eraseIdx_cons_succ] at hs
              replace hs := hs.front 4 rfl
              simp only [List.cons_append, List.nil_append, List.eraseIdx_cons_zero, List.eraseIdx_cons_succ] at hs
              replace hs := hs.front 3 rfl
              simp only [List.cons_append, List.nil_append, List.eraseIdx_cons_zero, List.eraseIdx_cons_succ] at hs
              replace hs := hs.front 3 rfl
              simp only [List.cons_append, List.nil_append, List.eraseIdx_cons_zero, List.eraseIdx_cons_succ] at hs
              replace hs := hs.front 4 rfl
              simp only [List.cons_append, List.nil_append, List.eraseIdx_cons_zero, List.eraseIdx_cons_succ] at hs
              have hsF : Sat B w90 (Blk b2 [.pointer (some ⟨bj, 0, none⟩)] 47 :: Blk b4 [.int .i64 0] 29 :: Blk bj (bcells (some ⟨b, 0, none⟩) { bend dO s d with tb := tb2, gen := s.gen + 1, slot := 1 - s.slot } (some ⟨gn, 0, none⟩) cn) 122 :: Own 3 1 (.slice (some ⟨gn, 0, none⟩) tb2.length cn) tb2.length (KI.flat tb2) :: DiskA 129 28 5 b d3 :: L) := by simp only [bcells, htl]; exact hs
              refine Jm_leave (Φ := fun w' => Sat B w' (Blk b2 [.pointer (some ⟨bj, 0, none⟩)] 47 :: Blk b4 [.int .i64 0] 29 :: Blk bj (bcells (some ⟨b, 0, none⟩) { bend dO s d with tb := tb2, gen := s.gen + 1, slot := 1 - s.slot } (some ⟨gn, 0, none⟩) cn) 122 :: Own 3 1 (.slice (some ⟨gn, 0, none⟩) tb2.length cn) tb2.length (KI.flat tb2) :: DiskA 129 28 5 b d3 :: L)) Try.func86 nm86 rfl ((bidle_c B _ _ _ _ hsF).mono ?_) ?_
              · rintro e' u' w' ⟨rfl, v9, rfl, rfl, hs9⟩; exact ⟨rfl, rfl, hs9⟩
              · intro w' hs9 a ha
                refine ⟨_, res_C rfl sc29 (hs9.blk_at 1 rfl 0 rfl) ha rfl, _, rfl, ?_⟩
                rw [bput_ok (fx := fun _ => 80) hen (fun q => by rcases q with q | q; exact absurd hf0 q; rw [q] at hwn; simp at hwn; omega) (by omega) hput.symm (by rw [← hrb]; exact hwd3)]
                replace hs9 := (hs9.erase 1).erase 0
                simp only [List.cons_append, List.nil_append, List.eraseIdx_cons_zero, List.eraseIdx_cons_succ] at hs9
                exact ⟨rfl, Sat.bshut (s := { bend dO s d with tb := tb2, gen := s.gen + 1, slot := 1 - s.slot }) hs9⟩
end Go.Proofs.Ytipkfdeiallifaa.Lg
