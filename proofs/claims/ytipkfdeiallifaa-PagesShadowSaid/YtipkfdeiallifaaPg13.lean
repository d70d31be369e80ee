/-
  The law PagesShadow, walked. By program (gen/pg13.py).
-/
import Derived.Test.YtipkfdeiallifaaPgL
set_option linter.unusedVariables false
set_option linter.unusedSimpArgs false
namespace Go.Proofs.Ytipkfdeiallifaa.Lg
open Go Go.RowKit Go.Proofs.Ytipkfdeiallifaa.WirePure
theorem set_self {l : List (List Int)} {k : Nat} (h : k < l.length) : l.set k (l.getD k []) = l := by
  apply List.ext_getElem?
  intro i
  rw [List.getElem?_set]
  by_cases e : k = i
  · subst e; simp [h]
  · rw [if_neg e]
/-- One root's block as it was ahead of the Put. -/
theorem PGb.mixed {d dQ : DSt} {s sQ : BSt} {W W2 : List (List Int)} {k : Nat} (h : PGb d.bl s W) (hQ : PGb dQ.bl sQ W2) (hs : sQ.slot = 1 - s.slot) (hk : k < 2)
    (hsh : ∀ q : Int, 0 ≤ q → (q = s.slot ∨ (2 ≤ q ∧ q ∈ s.tb)) → dQ.bl.getD q.toNat [] = d.bl.getD q.toNat []) :
    (PGb (dQ.bl.set k (d.bl.getD k [])) sQ W2 ∧ dQ.bl.getD k [] = d.bl.getD k []) ∨ PGb (dQ.bl.set k (d.bl.getD k [])) s W := by
  have hsl := h.inv.slot
  have hn := h.n
  have hnQ := hQ.n
  by_cases hk0 : (k : Int) = s.slot
  · left
    have e := hsh s.slot (by omega) (.inl rfl)
    have e2 : s.slot.toNat = k := by omega
    rw [e2] at e
    rw [← e, set_self (by omega)]
    exact ⟨hQ, rfl⟩
  · right
    have hk1 : k = (1 - s.slot).toNat := by omega
    refine h.keep (by rw [List.length_set]; exact hnQ) (set_ok hQ.rows (h.rows _ (getD_mem_bl (by omega)))) fun q h0 hq => ?_
    rw [getD_setB]
    by_cases e : q.toNat = k
    · rw [if_pos ⟨e, by omega⟩, e]
    · rw [if_neg (fun x => e x.1)]
      rcases hq with hq | hq
      · exact hsh q h0 (.inl (by omega))
      · by_cases q2 : 2 ≤ q
        · exact hsh q h0 (.inr ⟨q2, hq⟩)
        · exact hsh q h0 (.inl (by omega))
theorem PartsK.at_ {w : World} {vs : List Value} {xss : List (List Int)} {k n c : Nat} {A : Option Addr} (h : PartsK (El.int .u8) w vs xss) (hk : k < xss.length) (e : vs.getD k nilV = .slice A n c) : Rd w A n c 1 (bytesV (xss.getD k [])) := by
  obtain ⟨A', n', c', h1, h2⟩ := h.2 k hk
  rw [e] at h1; cases h1; rw [bytesV_flat]; exact h2
theorem flatV_one {w : World} {vs : List Value} {xss : List (List Int)} (h : PartsK (El.int .u8) w vs xss) : ∀ u ∈ El.val.flat vs, u.oneCell' = true := by
  intro u hu
  rw [El.val_flat] at hu
  obtain ⟨i, hi, e⟩ := List.getElem_of_mem hu
  obtain ⟨A, n, c, h1, _⟩ := h.2 i (by rw [← h.1]; exact hi)
  have : vs.getD i nilV = u := by rw [List.getD_eq_getElem?_getD, List.getElem?_eq_getElem hi]; exact e
  rw [this] at h1; subst h1; rfl
theorem PGb.nolong {bl : List (List Int)} {s : BSt} {W : List (List Int)} (h : PGb bl s W) : dlong bl = false := List.any_eq_false.2 fun r hr => by have := (h.rows r hr).2; simp; omega
set_option maxRecDepth 100000 in
set_option maxHeartbeats 1000000 in
theorem PagesShadow_c (w : World) (A : Option Addr) (n c : Nat) (ls : List Value) (hr : Rd w A n c 1 (El.val.flat ls)) (hll : ∀ x ∈ ls, LL w x) (hn : n ≤ 9223372036854775806) :
    Calls Try.prog 14 [.slice A n c].toArray w (Ret (fun v' w' => v' = .bool true ∧ Below w.heap.size w w')) := by
  have hs := Sat.start w
  have hln : ls.length = n := by have := hr.len; rw [El.flat_length] at this; simpa [El.val] using this
  refine Calls_body Try.func14 rfl rfl rfl (envE_cons (i := 0) (v := .slice A n c) rfl envE_nil) ?_
  refine St_seq ?_
  refine St_region ?_
  refine Ls_run (run_assign rfl) rfl ?_
  refine Ls_nil ?_
  refine Jm_seq ?_
  refine St_seq ?_
  refine St_seq ?_
  refine St_region ?_
  refine Ls_call Try.func23 nm23 rfl rfl (awake9_c w) rfl ?_
  rintro v1 w2 ⟨rfl, hsA⟩
  replace hs := hs.trans hsA
  simp only [List.nil_append] at hs
  refine Ls_run (run_not rfl) rfl ?_
  refine Ls_nil ?_
  refine Jm_seq ?_
  refine St_iff rfl ?_
  refine St_skip ?_
  refine Jm_seq ?_
  refine St_seq ?_
  refine St_region ?_
  refine Ls_call Try.func24 nm24 rfl rfl (room_c w2) rfl ?_
  rintro v4 w5 ⟨b0, bj, d0, rfl, hsR, hpg0, hdn0, har0⟩
  replace hs := hs.trans hsR
  simp only [List.cons_append, List.nil_append] at hs
  refine Ls_run (run_move rfl) rfl ?_
  refine Ls_run (run_extract rfl rfl) rfl ?_
  refine Ls_run (run_extract rfl rfl) rfl ?_
  refine Ls_run (run_assign rfl) rfl ?_
  refine Ls_run (run_assign rfl) rfl ?_
  refine Ls_nil ?_
  refine Jm_seq ?_
  refine St_seq ?_
  refine St_seq ?_
  refine St_region ?_
  refine Ls_run (run_move rfl) rfl ?_
  refine Ls_run (run_asB (c := false) (run_eql_ptr_nil Try.underlying47 rfl rfl) rfl) rfl ?_
  refine Ls_nil ?_
  refine Jm_seq ?_
  refine St_iff rfl ?_
  refine St_skip ?_
  refine Jm_seq ?_
  refine St_seq ?_
  refine St_region ?_
  refine Ls_alloc hs inf50 rfl ?_
  intro b8 w7 hs
  refine Ls_nil ?_
  refine Jm_seq ?_
  refine St_seq ?_
  refine St_seq ?_
  refine St_region ?_
  refine Ls_run (run_assign rfl) rfl ?_
  refine Ls_nil ?_
  refine Jm_seq ?_
  refine St_block ?_
  replace hs := hs.front 2 rfl
  simp only [List.cons_append, List.nil_append, List.eraseIdx_cons_zero, List.eraseIdx_cons_succ] at hs
  replace hs := hs.front 2 rfl
  simp only [List.cons_append, List.nil_append, List.eraseIdx_cons_zero, List.eraseIdx_cons_succ] at hs
  obtain ⟨En9, hEn9⟩ : ∃ F : Nat × BSt × DSt × List (List Int) → Env, ∀ (i : Nat) (s : BSt) (d : DSt) (W : List (List Int)), F (i, s, d, W) = [(0, .slice A n c), (3, .pointer (some ⟨b0, 0, none⟩)), (4, .pointer (some ⟨bj, 0, none⟩)), (5, .pointer (some ⟨b8, 0, none⟩)), (6, .int .i64 (i : Int))] := ⟨(fun (sx0 : Nat × BSt × DSt × List (List Int)) => match sx0 with | (i, s, d, W) => [(0, .slice A n c), (3, .pointer (some ⟨b0, 0, none⟩)), (4, .pointer (some ⟨bj, 0, none⟩)), (5, .pointer (some ⟨b8, 0, none⟩)), (6, .int .i64 (i : Int))]), fun _ _ _ _ => rfl⟩
  obtain ⟨Iv10, hIv10⟩ : ∃ F : Nat × BSt × DSt × List (List Int) → World → Prop, ∀ (i : Nat) (s : BSt) (d : DSt) (W : List (List Int)) (wr : World), F (i, s, d, W) wr = (Sat w wr [BA 122 3 bj (some ⟨b0, 0, none⟩) s, DiskA 129 28 5 b0 d, Blk b8 (SW W) 50] ∧ (PGb d.bl s W ∧ d.down = false ∧ d.armed = false ∧ s.ended = false ∧ s.gen ≤ 1 + i) ∧ i ≤ 64 ∧ (∀ x ∈ W, IsBytes x)) := ⟨(fun (sx0 : Nat × BSt × DSt × List (List Int)) => match sx0 with | (i, s, d, W) => fun (wr : World) => Sat w wr [BA 122 3 bj (some ⟨b0, 0, none⟩) s, DiskA 129 28 5 b0 d, Blk b8 (SW W) 50] ∧ (PGb d.bl s W ∧ d.down = false ∧ d.armed = false ∧ s.ended = false ∧ s.gen ≤ 1 + i) ∧ i ≤ 64 ∧ (∀ x ∈ W, IsBytes x)), fun _ _ _ _ _ => rfl⟩
  obtain ⟨ms11, hms11⟩ : ∃ F : Nat × BSt × DSt × List (List Int) → Nat, ∀ (i : Nat) (s : BSt) (d : DSt) (W : List (List Int)), F (i, s, d, W) = (n - i) := ⟨(fun (sx0 : Nat × BSt × DSt × List (List Int)) => match sx0 with | (i, s, d, W) => n - i), fun _ _ _ _ => rfl⟩
  refine St_loop En9 Iv10 ms11 (0, (bnew 8), d0, (List.replicate 8 [])) ?_ ?_ ?_
  · skip
    rw [hIv10]
    exact ⟨hs, ⟨hpg0, hdn0, har0, rfl, by decide⟩, by omega, rep_bytes⟩
  · rw [hEn9]; exact (subE_cons rfl (subE_cons rfl (subE_cons rfl (subE_cons rfl (subE_cons rfl subE_nil)))))
  rintro ⟨i, s, d, W⟩ wr hI12
  rw [hIv10] at hI12
  obtain ⟨hs, ⟨hpg, hdn, har, hen, hgn⟩, hi64, hWb⟩ := hI12
  refine St_eqE (hEn9 _ _ _ _) ?_
  have hWl := hpg.wl
  refine St_seq ?_
  refine St_seq ?_
  refine St_region ?_
  refine Ls_run (run_move rfl) rfl ?_
  refine Ls_run (run_move rfl) rfl ?_
  refine Ls_run (run_len Try.underlying43 rfl) rfl ?_
  refine Ls_run (run_lss rfl rfl) rfl ?_
  refine Ls_run (run_move rfl) rfl ?_
  refine Ls_partP (t := 28) rfl (fun h13 => ?_) (fun h13 => ?_)
  · skip
    refine Ls_on rfl rfl ?_
    refine Ls_run (run_move rfl) rfl ?_
    refine Ls_on rfl rfl ?_
    refine Ls_run (run_lss rfl rfl) rfl ?_
    refine Ls_run (run_pick_t rfl rfl) rfl ?_
    refine Ls_nil ?_
    refine Jm_seq ?_
    refine St_ifP rfl (fun h14 => ?_) (fun h14 => ?_)
    · skip
      refine St_skip ?_
      refine Jm_seq ?_
      refine St_seq ?_
      refine St_block ?_
      refine St_seq ?_
      refine St_region ?_
      refine Ls_run (run_move rfl) rfl ?_
      refine Ls_run (run_move rfl) rfl ?_
      obtain ⟨Al, nl, cl, vl, wl, hlv, hwl, hokl, hnl⟩ := hll (ls.getD i El.val.dflt) (getElem_mem3 (by omega))
      refine Ls_index (El.val) (hr.inB hs) Try.underlying43 inf51 rfl rfl (by omega) (by omega) hlv rfl ?_
      intro b15 o16 hc17
      refine Ls_run (run_load sc51 rfl (hc17 0 _ rfl)) rfl ?_
      refine Ls_call Try.func25 nm25 rfl rfl (fit_c w wr hs.forget Al nl cl vl wl hwl hokl hnl) rfl ?_
      rintro v18 w19 ⟨AF, cF, vF, rfl, hsF, hpF⟩
      have hgF := fitL_good hokl
      obtain ⟨lF, hlF⟩ : ∃ q, fitL wl = q := ⟨_, rfl⟩
      rw [hlF] at hsF hpF hgF ⊢
      replace hs := hs.trans hsF
      simp only [List.cons_append, List.nil_append] at hs
      have hnF := hgF.len
      refine Ls_run (run_assign rfl) rfl ?_
      refine Ls_nil ?_
      refine Jm_seq ?_
      refine St_seq ?_
      refine St_region ?_
      refine Ls_run (run_move rfl) rfl ?_
      replace hs := hs.front 2 rfl
      simp only [List.cons_append, List.nil_append, List.eraseIdx_cons_zero, List.eraseIdx_cons_succ] at hs
      refine Ls_call Try.func28 nm28 rfl rfl (Image_c w w19 _ b0 d hs (fun r hr => (hpg.rows r hr).2) (by rw [hpg.n]; decide)) rfl ?_
      rintro v20 w21 ⟨Ia, ia, va, rfl, hva, hs⟩
      replace hs := Sat.toKeep (F := fun w => Rd w Ia d.bl.length ia 1 (El.val.flat va) ∧ PartsK (El.int .u8) w va d.bl) (fun B w z => ⟨z.rd_at 0 rfl, Sat.parts (pre := [_]) z hva⟩) hs
      refine Ls_run (run_assign rfl) rfl ?_
      refine Ls_nil ?_
      refine Jm_seq ?_
      refine St_seq ?_
      refine St_seq ?_
      refine St_region ?_
      refine Ls_run (run_move rfl) rfl ?_
      refine Ls_run (run_move rfl) rfl ?_
      replace hs := hs.front 1 rfl
      simp only [List.cons_append, List.nil_append, List.eraseIdx_cons_zero, List.eraseIdx_cons_succ] at hs
      replace hs := hs.front 3 rfl
      simp only [List.cons_append, List.nil_append, List.eraseIdx_cons_zero, List.eraseIdx_cons_succ] at hs
      obtain ⟨sQ, dQ, hbQ, hpgQ, hdnQ, harQ, henQ, hgnQ, hnlQ, hshQ⟩ := (PGb.put hpg hdn hen (by omega) hgF.fit).resolve_right (fun ⟨_, _, _, _, _, h9, _⟩ => by rw [har] at h9; cases h9)
      refine Ls_call Try.func26 nm26 rfl rfl (BPut_g w w21 _ bj b0 s d hs ⟨hpg.rows, by rw [hpg.n]; decide⟩ (by rw [hpg.n]; exact hpg.inv) AF lF.length cF vF lF (fun w' X q => ((hpF.inB q).with_ (q.rd_at 2 rfl))) hgF.ok (by omega)) rfl ?_
      rintro v22 w23 ⟨rfl, hs⟩
      simp only [hbQ] at hs ⊢
      refine Ls_run (run_asB (c := false) (run_neq rfl rfl) (by decide)) rfl ?_
      refine Ls_run (run_move rfl) rfl ?_
      refine Ls_on rfl rfl ?_
      refine Ls_run (run_move rfl) rfl ?_
      refine Ls_on rfl rfl ?_
      obtain ⟨A6, c6, hq6⟩ := hs.bopen
      refine Ls_call Try.func49 nm49 rfl rfl (bUsed_c w23 bj _ sQ A6 c6 (hq6.is_at 0 rfl).2 (hq6.rd_at 1 rfl) (by rw [hpgQ.l8]; decide)) rfl ?_
      rintro v24 w25 ⟨rfl, rfl⟩
      have hu8 := bused_len sQ.tb
      rw [hpgQ.l8] at hu8
      refine Ls_on rfl rfl ?_
      refine Ls_run (run_gtr rfl rfl) rfl ?_
      refine Ls_run (run_pick_f rfl rfl) rfl ?_
      refine Ls_nil ?_
      refine Jm_seq ?_
      refine St_ifP rfl (fun h26 => ?_) (fun h26 => ?_)
      · skip
        exfalso; omega
      · skip
        refine St_skip ?_
        refine Jm_seq ?_
        refine St_seq ?_
        refine St_region ?_
        refine Ls_run (run_move rfl) rfl ?_
        replace hs := hs.front 1 rfl
        simp only [List.cons_append, List.nil_append, List.eraseIdx_cons_zero, List.eraseIdx_cons_succ] at hs
        refine Ls_call Try.func28 nm28 rfl rfl (Image_c w w23 _ b0 dQ hs (fun r hr => (hpgQ.rows r hr).2) (by rw [hpgQ.n]; decide)) rfl ?_
        rintro v27 w28 ⟨Ib, ib, vb, rfl, hvb, hs⟩
        replace hs := Sat.toKeep (F := fun w => Rd w Ib dQ.bl.length ib 1 (El.val.flat vb) ∧ PartsK (El.int .u8) w vb dQ.bl) (fun B w z => ⟨z.rd_at 0 rfl, Sat.parts (pre := [_]) z hvb⟩) hs
        refine Ls_run (run_assign rfl) rfl ?_
        refine Ls_nil ?_
        refine Jm_seq ?_
        refine St_seq ?_
        refine St_seq ?_
        refine St_region ?_
        refine Ls_run (run_move rfl) rfl ?_
        refine Ls_run (run_len Try.underlying55 rfl) rfl ?_
        refine Ls_run (run_move rfl) rfl ?_
        refine Ls_run (run_len Try.underlying55 rfl) rfl ?_
        refine Ls_run (run_asB (c := false) (run_neq rfl rfl) (by rw [hpgQ.n, hpg.n]; decide)) rfl ?_
        refine Ls_nil ?_
        refine Jm_seq ?_
        refine St_iff rfl ?_
        refine St_skip ?_
        refine Jm_seq ?_
        refine St_seq ?_
        refine St_seq ?_
        refine St_region ?_
        refine Ls_run (run_assign rfl) rfl ?_
        refine Ls_nil ?_
        refine Jm_seq ?_
        refine St_block ?_
        replace hs := hs.front 5 rfl
        simp only [List.cons_append, List.nil_append, List.eraseIdx_cons_zero, List.eraseIdx_cons_succ] at hs
        replace hs := hs.front 2 rfl
        simp only [List.cons_append, List.nil_append, List.eraseIdx_cons_zero, List.eraseIdx_cons_succ] at hs
        replace hs := hs.front 3 rfl
        simp only [List.cons_append, List.nil_append, List.eraseIdx_cons_zero, List.eraseIdx_cons_succ] at hs
        replace hs := hs.front 3 rfl
        simp only [List.cons_append, List.nil_append, List.eraseIdx_cons_zero, List.eraseIdx_cons_succ] at hs
        replace hs := hs.front 4 rfl
        simp only [List.cons_append, List.nil_append, List.eraseIdx_cons_zero, List.eraseIdx_cons_succ] at hs
        replace hs := hs.front 5 rfl
        simp only [List.cons_append, List.nil_append, List.eraseIdx_cons_zero, List.eraseIdx_cons_succ] at hs
        obtain ⟨En30, hEn30⟩ : ∃ F : Nat → Env, ∀ (k : Nat), F k = [(0, .slice A n c), (3, .pointer (some ⟨b0, 0, none⟩)), (4, .pointer (some ⟨bj, 0, none⟩)), (5, .pointer (some ⟨b8, 0, none⟩)), (6, .int .i64 (i : Int)), (7, .slice AF lF.length cF), (8, .slice Ia d.bl.length ia), (9, .slice Ib dQ.bl.length ib), (10, .int .i64 (k : Int))] := ⟨(fun (k : Nat) => [(0, .slice A n c), (3, .pointer (some ⟨b0, 0, none⟩)), (4, .pointer (some ⟨bj, 0, none⟩)), (5, .pointer (some ⟨b8, 0, none⟩)), (6, .int .i64 (i : Int)), (7, .slice AF lF.length cF), (8, .slice Ia d.bl.length ia), (9, .slice Ib dQ.bl.length ib), (10, .int .i64 (k : Int))]), fun _ => rfl⟩
        obtain ⟨Iv31, hIv31⟩ : ∃ F : Nat → World → Prop, ∀ (k : Nat) (wk : World), F k wk = (Sat w wk [Own 45 2 (.slice AF lF.length cF) lF.length (KW.flat vF), Keep (fun w => Rd w Ia d.bl.length ia 1 (El.val.flat va) ∧ PartsK (El.int .u8) w va d.bl), Keep (fun w => Rd w Ib dQ.bl.length ib 1 (El.val.flat vb) ∧ PartsK (El.int .u8) w vb dQ.bl), BA 122 3 bj (some ⟨b0, 0, none⟩) sQ, DiskA 129 28 5 b0 dQ, Blk b8 (SW W) 50] ∧ k ≤ 2) := ⟨(fun (k : Nat) => fun (wk : World) => Sat w wk [Own 45 2 (.slice AF lF.length cF) lF.length (KW.flat vF), Keep (fun w => Rd w Ia d.bl.length ia 1 (El.val.flat va) ∧ PartsK (El.int .u8) w va d.bl), Keep (fun w => Rd w Ib dQ.bl.length ib 1 (El.val.flat vb) ∧ PartsK (El.int .u8) w vb dQ.bl), BA 122 3 bj (some ⟨b0, 0, none⟩) sQ, DiskA 129 28 5 b0 dQ, Blk b8 (SW W) 50] ∧ k ≤ 2), fun _ _ => rfl⟩
        obtain ⟨ms32, hms32⟩ : ∃ F : Nat → Nat, ∀ (k : Nat), F k = (2 - k) := ⟨(fun (k : Nat) => 2 - k), fun _ => rfl⟩
        refine St_loop En30 Iv31 ms32 (0) ?_ ?_ ?_
        · skip
          rw [hIv31]
          exact ⟨hs, by omega⟩
        · rw [hEn30]; exact (subE_cons rfl (subE_cons rfl (subE_cons rfl (subE_cons rfl (subE_cons rfl (subE_cons rfl (subE_cons rfl (subE_cons rfl (subE_cons rfl subE_nil)))))))))
        rintro k wk hI33
        rw [hIv31] at hI33
        obtain ⟨hs, hk⟩ := hI33
        refine St_eqE (hEn30 _) ?_
        refine St_seq ?_
        refine St_seq ?_
        refine St_region ?_
        refine Ls_run (run_move rfl) rfl ?_
        refine Ls_run (run_lss rfl rfl) rfl ?_
        refine Ls_run (run_move rfl) rfl ?_
        refine Ls_partP (t := 59) rfl (fun h34 => ?_) (fun h34 => ?_)
        · skip
          refine Ls_on rfl rfl ?_
          refine Ls_run (run_move rfl) rfl ?_
          refine Ls_on rfl rfl ?_
          refine Ls_run (run_len Try.underlying51 rfl) rfl ?_
          refine Ls_on rfl rfl ?_
          refine Ls_run (run_gtr rfl rfl) rfl ?_
          refine Ls_run (run_pick_t rfl rfl) rfl ?_
          refine Ls_nil ?_
          refine Jm_seq ?_
          refine St_ifP rfl (fun h35 => ?_) (fun h35 => ?_)
          · skip
            have hlp : lF ≠ [] := fun q => by rw [q] at h35; simp at h35
            obtain ⟨hsl2, hsh2⟩ := hshQ hlp
            refine St_skip ?_
            refine Jm_seq ?_
            refine St_seq ?_
            refine St_block ?_
            refine St_seq ?_
            refine St_region ?_
            refine Ls_literal [] hs Try.underlying55 inf28 rfl rfl rfl rfl rfl rfl ?_
            intro b36 w37 hs
            simp only [List.flatMap_cons, List.flatMap_nil, Value.cells, List.cons_append, List.nil_append] at hs
            replace hs := Sat.own_block hs 1 0 rfl (by decide)
            refine Ls_run (run_move rfl) rfl ?_
            refine Ls_append hs Try.underlying55 inf28 rfl (by decide) (by decide) rfl rfl ((hs.kept 3 rfl).1) (flatV_one (hs.kept 3 rfl).2) (by rw [hpgQ.n]; decide) rfl ?_
            intro A38 c39 w40 hs
            simp only [Nat.zero_add, List.nil_append] at hs ⊢
            obtain ⟨gm, hgm⟩ := hs.own_addr (by rw [hpgQ.n]; decide)
            subst hgm
            refine Ls_run (run_assign rfl) rfl ?_
            refine Ls_nil ?_
            refine Jm_seq ?_
            refine St_seq ?_
            refine St_region ?_
            refine Ls_run (run_move rfl) rfl ?_
            refine Ls_run (run_move rfl) rfl ?_
            refine Ls_run (run_move rfl) rfl ?_
            refine Ls_run (run_move rfl) rfl ?_
            have hbn := hpg.n
            have hbnQ := hpgQ.n
            have hmx := hpg.mixed (k := k) hpgQ hsl2 (by omega) hsh2
            have hka := (hs.kept 2 rfl)
            obtain ⟨Ak, nk, ck, hvk, hrk⟩ := hka.2.2 k (by rw [hpg.n]; omega)
            rw [← bytesV_flat] at hrk
            have hlk := rdB_len hrk
            refine Ls_index (El.val) ((hs.kept 2 rfl).1) Try.underlying55 inf28 rfl rfl (by omega) (by omega) hvk rfl ?_
            intro b41 o42 hc43
            refine Ls_run (run_load sc28 rfl (hc43 0 _ rfl)) rfl ?_
            refine Ls_run (run_as (run_index Try.underlying55 inf28 rfl rfl rfl (by omega) (by rw [hpgQ.n]; omega)) (show _ = Value.pointer (some ⟨gm, k, none⟩) from by simp)) rfl ?_
            refine Ls_storeOwn hs inf28 rfl rfl rfl (by rw [hpgQ.n]; omega) ?_
            intro w44 hs
            have hkb := hs.kept 3 rfl
            have hka2 := hs.kept 2 rfl
            have hvbl := hkb.2.1
            have hval := hka2.2.1
            obtain ⟨Ak3, nk3, ck3, hvk3, hrk3⟩ := hka2.2.2 k (by rw [hpg.n]; omega)
            rw [hvk] at hvk3
            cases hvk3
            have hpm : PartsK (El.int .u8) w44 (vb.set k (Value.slice Ak nk ck)) (dQ.bl.set k (d.bl.getD k [])) := hkb.2.set (l := d.bl.getD k []) (by rw [bytesV_flat]; exact hrk3) (by rw [hpgQ.n]; omega)
            obtain ⟨bm, hbm⟩ : ∃ q, dQ.bl.set k (d.bl.getD k []) = q := ⟨_, rfl⟩
            rw [hbm] at hpm hmx
            have hbml : bm.length = dQ.bl.length := by rw [← hbm, List.length_set]
            have hbmo : (bm.length = 18 ∧ ∀ x ∈ bm, IsBytes x ∧ x.length ≤ 1024) ∧ dlong bm = false := by rcases hmx with ⟨h9, _⟩ | h9 <;> exact ⟨⟨h9.n, h9.rows⟩, h9.nolong⟩
            refine Ls_nil ?_
            refine Jm_seq ?_
            refine St_seq ?_
            refine St_region ?_
            refine Ls_run (run_move rfl) rfl ?_
            have hrm := hs.rd_at 0 rfl
            rw [El.val_flat vb] at hrm
            refine Ls_call Try.func59 nm59 rfl rfl (Load_c w44 _ _ _ (vb.set k (Value.slice Ak nk ck)) bm (by rw [El.val_flat]; exact hrm) hpm (by rw [hpgQ.n]; decide) (by rw [hpgQ.n]; decide) hbmo.2) rfl ?_
            rintro v45 w46 ⟨b2, rfl, hsN47⟩
            replace hs := hs.trans hsN47
            simp only [List.cons_append, List.nil_append] at hs
            refine Ls_run (run_move rfl) rfl ?_
            refine Ls_run (run_extract rfl rfl) rfl ?_
            refine Ls_run (run_extract rfl rfl) rfl ?_
            refine Ls_run (run_assign rfl) rfl ?_
            refine Ls_run (run_assign rfl) rfl ?_
            refine Ls_nil ?_
            refine Jm_seq ?_
            refine St_seq ?_
            refine St_region ?_
            refine Ls_run (run_move rfl) rfl ?_
            refine Ls_call Try.func36 nm36 rfl rfl (BOpen_g w w46 _ b2 (dload bm) hs ⟨hbmo.1.2, by show bm.length ≤ 64; omega⟩ (by show 1 ≤ bm.length; omega)) rfl ?_
            rintro v48 w49 ⟨p5, rfl, hs⟩
            have hop : ∃ s5 d5, bopen dO (dload bm) = (0, some s5, d5) ∧ d5.bl = bm ∧ d5.down = false ∧ s5.ended = false ∧ ((dQ.bl.getD k [] = d.bl.getD k []) ∨ PGb bm s5 W) := by
              rcases hmx with ⟨h9, he9⟩ | h9
              · obtain ⟨d5, ho5, hsm5⟩ := PGb.open_ (d := dload bm) (s := sQ) h9 rfl
                exact ⟨_, d5, ho5, hsm5.1, hsm5.2.1, rfl, .inl he9⟩
              · obtain ⟨d5, ho5, hsm5⟩ := PGb.open_ (d := dload bm) (s := s) h9 rfl
                exact ⟨_, d5, ho5, hsm5.1, hsm5.2.1, rfl, .inr (h9.ended false)⟩
            obtain ⟨s5, d5, ho5, hbl5, hdn5, hen5, hor⟩ := hop
            simp only [ho5] at hs ⊢
            obtain ⟨bk5, hp5, h9⟩ := hs.boSome
            subst hp5
            replace hs := h9
            refine Ls_run (run_move rfl) rfl ?_
            refine Ls_run (run_extract rfl rfl) rfl ?_
            refine Ls_run (run_extract rfl rfl) rfl ?_
            refine Ls_run (run_assign rfl) rfl ?_
            refine Ls_run (run_assign rfl) rfl ?_
            refine Ls_nil ?_
            refine Jm_seq ?_
            refine St_seq ?_
            refine St_seq ?_
            refine St_region ?_
            refine Ls_run (run_move rfl) rfl ?_
            refine Ls_run (run_asB (c := false) (run_neq rfl rfl) (by decide)) rfl ?_
            refine Ls_run (run_move rfl) rfl ?_
            refine Ls_on rfl rfl ?_
            refine Ls_run (run_move rfl) rfl ?_
            refine Ls_on rfl rfl ?_
            refine Ls_run (run_asB (c := false) (run_neq rfl rfl) (by decide)) rfl ?_
            refine Ls_run (run_pick_f rfl rfl) rfl ?_
            refine Ls_nil ?_
            refine Jm_seq ?_
            refine St_iff rfl ?_
            refine St_skip ?_
            refine Jm_seq ?_
            refine St_seq ?_
            replace hs := hs.front 8 rfl
            simp only [List.cons_append, List.nil_append, List.eraseIdx_cons_zero, List.eraseIdx_cons_succ] at hs
            replace hs := hs.front 6 rfl
            simp only [List.cons_append, List.nil_append, List.eraseIdx_cons_zero, List.eraseIdx_cons_succ] at hs
            replace hs := hs.front 6 rfl
            simp only [List.cons_append, List.nil_append, List.eraseIdx_cons_zero, List.eraseIdx_cons_succ] at hs
            refine St_hold (Hold.of (Ls := [_, _, _]) hs) mixed ?_
            intro w51 q52
            replace hs := hs.quiet q52
            have hH := Hold.of (Ls := [_, _, _]) hs
            refine An_take 0 rfl (by kernel_rfl) (by kernel_rfl) (by kernel_rfl) (fun _ _ _ h => h) hH (fun x hx => run_move rfl) rfl ?_
            refine An_take 1 rfl (by kernel_rfl) (by kernel_rfl) (by kernel_rfl) (fun _ _ _ h => h) hH (fun x hx => run_move rfl) rfl ?_
            have hkb4 := (hs.kept 1 rfl)
            have hka4 := (hs.kept 0 rfl)
            obtain ⟨Bi, mi, di, hwi, hrB9⟩ := hkb4.2.2 k (by rw [hpgQ.n]; omega)
            obtain ⟨Ai, ni, ci, hvi, hrA9⟩ := hka4.2.2 k (by rw [hpg.n]; omega)
            refine An_index 2  (El.val) rfl (by kernel_rfl) (by kernel_rfl) (by kernel_rfl) (fun _ _ _ _ h => h) hH (fun x hx => ((hx.choose_spec.kept 1 rfl).1)) Try.underlying55 inf28 rfl rfl (by omega) (by omega) hwi rfl ?_
            intro b53 o54 hc55
            refine An_take 3 rfl (by kernel_rfl) (by kernel_rfl) (by kernel_rfl) (fun _ _ _ h => h) hH (fun x hx => run_load sc28 rfl ((hc55 x hx) 0 _ rfl)) rfl ?_
            refine An_take 4 rfl (by kernel_rfl) (by kernel_rfl) (by kernel_rfl) (fun _ _ _ h => h) hH (fun x hx => run_string Try.underlying28 Try.underlying5 Try.underlying9 rfl (((hx.choose_spec.kept 1 rfl).2.at_ (by rw [hpgQ.n]; omega) hwi))) rfl ?_
            refine An_take 5 rfl (by kernel_rfl) (by kernel_rfl) (by kernel_rfl) (fun _ _ _ h => h) hH (fun x hx => run_move rfl) rfl ?_
            refine An_take 6 rfl (by kernel_rfl) (by kernel_rfl) (by kernel_rfl) (fun _ _ _ h => h) hH (fun x hx => run_move rfl) rfl ?_
            refine An_index 7  (El.val) rfl (by kernel_rfl) (by kernel_rfl) (by kernel_rfl) (fun _ _ _ _ h => h) hH (fun x hx => ((hx.choose_spec.kept 0 rfl).1)) Try.underlying55 inf28 rfl rfl (by omega) (by omega) hvi rfl ?_
            intro b56 o57 hc58
            refine An_take 8 rfl (by kernel_rfl) (by kernel_rfl) (by kernel_rfl) (fun _ _ _ h => h) hH (fun x hx => run_load sc28 rfl ((hc58 x hx) 0 _ rfl)) rfl ?_
            refine An_take 9 rfl (by kernel_rfl) (by kernel_rfl) (by kernel_rfl) (fun _ _ _ h => h) hH (fun x hx => run_string Try.underlying28 Try.underlying5 Try.underlying9 rfl (((hx.choose_spec.kept 0 rfl).2.at_ (by rw [hpg.n]; omega) hvi))) rfl ?_
            refine An_take 10 rfl (by kernel_rfl) (by kernel_rfl) (by kernel_rfl) (fun _ _ _ h => h) hH (fun x hx => run_as (run_neq_str rfl rfl) (show _ = Value.bool (!decide (dQ.bl.getD k [] = d.bl.getD k [])) by rw [strOfNums_inj (hpgQ.rows _ (getD_mem_bl (by rw [hpgQ.n]; omega))).1 (hpg.rows _ (getD_mem_bl (by rw [hpg.n]; omega))).1])) rfl ?_
            refine An_take 11 rfl (by kernel_rfl) (by kernel_rfl) (by kernel_rfl) (fun _ _ _ h => h) hH (fun x hx => run_move rfl) rfl ?_
            refine An_partN (t := 103) rfl (fun h59 => ?_) (fun h59 => ?_)
            · skip
              refine An_take_on 12 rfl (by kernel_rfl) (by kernel_rfl) (by kernel_rfl) rfl rfl (fun _ _ _ h => h) hH (fun x hx => run_move rfl) rfl ?_
              refine An_take_on 13 rfl (by kernel_rfl) (by kernel_rfl) (by kernel_rfl) rfl rfl (fun _ _ _ h => h) hH (fun x hx => run_as (run_load_agg agg50 inf50 rfl (show (((SW W).drop 0).take 8).length = 8 by rw [SW_take hWl, SW_len]; exact hWl) (hx.choose_spec.blk_cells 2 rfl 0 8)) (show _ = Value.agg (SW W).toArray by rw [SW_take hWl])) rfl ?_
              refine An_only 14 (by kernel_rfl) rfl ?_
              refine Ls_on rfl rfl ?_
              replace hs := hs.front 4 rfl
              simp only [List.cons_append, List.nil_append, List.eraseIdx_cons_zero, List.eraseIdx_cons_succ] at hs
              replace hs := hs.front 4 rfl
              simp only [List.cons_append, List.nil_append, List.eraseIdx_cons_zero, List.eraseIdx_cons_succ] at hs
              have hpg5 : PGb d5.bl s5 W := by rw [hbl5]; exact hor.resolve_left (by assumption)
              refine Ls_call Try.func30 nm30 rfl rfl (holds_c w w51 _ bk5 b2 s5 d5 W hs hpg5 hdn5 hen5 hWb) rfl ?_
              rintro v60 w61 ⟨d6, rfl, hsm6, hs⟩
              replace hs := hs.front 4 rfl
              simp only [List.cons_append, List.nil_append, List.eraseIdx_cons_zero, List.eraseIdx_cons_succ] at hs
              replace hs := hs.front 4 rfl
              simp only [List.cons_append, List.nil_append, List.eraseIdx_cons_zero, List.eraseIdx_cons_succ] at hs
              replace hs := hs.front 4 rfl
              simp only [List.cons_append, List.nil_append, List.eraseIdx_cons_zero, List.eraseIdx_cons_succ] at hs
              replace hH := Hold.of (Ls := [_, _, _]) hs
              refine Ls_nil (Jm_An hH ?_)
              refine An_take_on 15 rfl (by kernel_rfl) (by kernel_rfl) (by kernel_rfl) rfl rfl (fun _ _ _ h => h) hH (fun x hx => run_not rfl) rfl ?_
              refine An_take 16 rfl (by kernel_rfl) (by kernel_rfl) (by kernel_rfl) (fun _ _ _ h => h) hH (fun x hx => run_pick_t rfl rfl) rfl ?_
              refine An_done (by kernel_rfl) ?_
              refine Jm_seq ?_
              refine St_iff rfl ?_
              refine St_skip ?_
              refine Jm_block_normal (Jm_seq ?_)
              refine St_region ?_
              refine Ls_run (run_move rfl) rfl ?_
              refine Ls_run (run_add rfl rfl (w64 (by omega))) rfl ?_
              refine Ls_run (run_assign rfl) rfl ?_
              refine Ls_nil ?_
              replace hs := hs.erase 3
              simp only [List.cons_append, List.nil_append, List.eraseIdx_cons_zero, List.eraseIdx_cons_succ] at hs
              replace hs := hs.erase 3
              simp only [List.cons_append, List.nil_append, List.eraseIdx_cons_zero, List.eraseIdx_cons_succ] at hs
              replace hs := hs.erase 3
              simp only [List.cons_append, List.nil_append, List.eraseIdx_cons_zero, List.eraseIdx_cons_succ] at hs
              replace hs := hs.front 2 rfl
              simp only [List.cons_append, List.nil_append, List.eraseIdx_cons_zero, List.eraseIdx_cons_succ] at hs
              replace hs := hs.front 5 rfl
              simp only [List.cons_append, List.nil_append, List.eraseIdx_cons_zero, List.eraseIdx_cons_succ] at hs
              replace hs := hs.front 5 rfl
              simp only [List.cons_append, List.nil_append, List.eraseIdx_cons_zero, List.eraseIdx_cons_succ] at hs
              replace hs := hs.front 4 rfl
              simp only [List.cons_append, List.nil_append, List.eraseIdx_cons_zero, List.eraseIdx_cons_succ] at hs
              replace hs := hs.front 4 rfl
              simp only [List.cons_append, List.nil_append, List.eraseIdx_cons_zero, List.eraseIdx_cons_succ] at hs
              replace hs := hs.front 5 rfl
              simp only [List.cons_append, List.nil_append, List.eraseIdx_cons_zero, List.eraseIdx_cons_succ] at hs
              refine Jm_round (k + 1) ?_ ?_ ?_
              · rw [hEn30]; exact (subE_cons rfl (subE_cons rfl (subE_cons rfl (subE_cons rfl (subE_cons rfl (subE_cons rfl (subE_cons rfl (subE_cons rfl (subE_cons rfl subE_nil)))))))))
              · skip
                rw [hIv31]
                exact ⟨hs, by omega⟩
              · skip
                rw [hms32, hms32]
                omega
            · skip
              refine An_take_off 12 rfl (by kernel_rfl) (by kernel_rfl) (by kernel_rfl) rfl rfl rfl (fun _ _ _ h => h) hH rfl ?_
              refine An_take_off 13 rfl (by kernel_rfl) (by kernel_rfl) (by kernel_rfl) rfl rfl rfl (fun _ _ _ h => h) hH rfl ?_
              refine An_take_off 14 rfl (by kernel_rfl) (by kernel_rfl) (by kernel_rfl) rfl rfl rfl (fun _ _ _ h => h) hH rfl ?_
              refine An_take_off 15 rfl (by kernel_rfl) (by kernel_rfl) (by kernel_rfl) rfl rfl rfl (fun _ _ _ h => h) hH rfl ?_
              refine An_take 16 rfl (by kernel_rfl) (by kernel_rfl) (by kernel_rfl) (fun _ _ _ h => h) hH (fun x hx => run_pick_f rfl rfl) rfl ?_
              refine An_done (by kernel_rfl) ?_
              refine Jm_seq ?_
              refine St_iff rfl ?_
              refine St_skip ?_
              refine Jm_block_normal (Jm_seq ?_)
              refine St_region ?_
              refine Ls_run (run_move rfl) rfl ?_
              refine Ls_run (run_add rfl rfl (w64 (by omega))) rfl ?_
              refine Ls_run (run_assign rfl) rfl ?_
              refine Ls_nil ?_
              replace hs := hs.erase 3
              simp only [List.cons_append, List.nil_append, List.eraseIdx_cons_zero, List.eraseIdx_cons_succ] at hs
              replace hs := hs.erase 3
              simp only [List.cons_append, List.nil_append, List.eraseIdx_cons_zero, List.eraseIdx_cons_succ] at hs
              replace hs := hs.erase 3
              simp only [List.cons_append, List.nil_append, List.eraseIdx_cons_zero, List.eraseIdx_cons_succ] at hs
              replace hs := hs.front 2 rfl
              simp only [List.cons_append, List.nil_append, List.eraseIdx_cons_zero, List.eraseIdx_cons_succ] at hs
              replace hs := hs.front 5 rfl
              simp only [List.cons_append, List.nil_append, List.eraseIdx_cons_zero, List.eraseIdx_cons_succ] at hs
              replace hs := hs.front 5 rfl
              simp only [List.cons_append, List.nil_append, List.eraseIdx_cons_zero, List.eraseIdx_cons_succ] at hs
              replace hs := hs.front 4 rfl
              simp only [List.cons_append, List.nil_append, List.eraseIdx_cons_zero, List.eraseIdx_cons_succ] at hs
              replace hs := hs.front 4 rfl
              simp only [List.cons_append, List.nil_append, List.eraseIdx_cons_zero, List.eraseIdx_cons_succ] at hs
              replace hs := hs.front 5 rfl
              simp only [List.cons_append, List.nil_append, List.eraseIdx_cons_zero, List.eraseIdx_cons_succ] at hs
              refine Jm_round (k + 1) ?_ ?_ ?_
              · rw [hEn30]; exact (subE_cons rfl (subE_cons rfl (subE_cons rfl (subE_cons rfl (subE_cons rfl (subE_cons rfl (subE_cons rfl (subE_cons rfl (subE_cons rfl subE_nil)))))))))
              · skip
                rw [hIv31]
                exact ⟨hs, by omega⟩
              · skip
                rw [hms32, hms32]
                omega
          · skip
            refine St_exit ?_
            refine Jm_then_exit (Jm_then_exit (Jm_block_same (Jm_seq ?_)))
            refine St_region ?_
            refine Ls_run (run_as (run_load_agg agg50 inf50 rfl (show (((SW W).drop 0).take 8).length = 8 by rw [SW_take hWl, SW_len]; exact hWl) (hs.blk_cells 5 rfl 0 8)) (show _ = Value.agg (SW W).toArray by rw [SW_take hWl])) rfl ?_
            refine Ls_run (run_move rfl) rfl ?_
            refine Ls_call Try.func27 nm27 rfl rfl (with_c wk W hWl AF lF.length cF vF lF ((hpF.inB hs).with_ (hs.rd_at 0 rfl)) hgF.ok (fun x hx => (hgF.2 x hx).1) (by omega)) rfl ?_
            rintro v64 w65 ⟨rfl, hsW66⟩
            replace hs := hs.trans hsW66
            simp only [List.nil_append, List.cons_append] at hs
            replace hs := hs.front 5 rfl
            simp only [List.cons_append, List.nil_append, List.eraseIdx_cons_zero, List.eraseIdx_cons_succ] at hs
            refine Ls_storeAgg hs inf50 rfl rfl (by rw [SW_len, withL_len]; exact hWl) (by first | rfl | (rw [SW_len]; exact hWl)) (SW_one _) ?_
            intro w67 hs
            refine Ls_nil ?_
            refine Jm_block_normal (Jm_seq ?_)
            refine St_region ?_
            refine Ls_run (run_move rfl) rfl ?_
            refine Ls_run (run_add rfl rfl (w64 (by omega))) rfl ?_
            refine Ls_run (run_assign rfl) rfl ?_
            refine Ls_nil ?_
            replace hs := hs.erase 1
            simp only [List.cons_append, List.nil_append, List.eraseIdx_cons_zero, List.eraseIdx_cons_succ] at hs
            replace hs := hs.erase 1
            simp only [List.cons_append, List.nil_append, List.eraseIdx_cons_zero, List.eraseIdx_cons_succ] at hs
            replace hs := hs.erase 1
            simp only [List.cons_append, List.nil_append, List.eraseIdx_cons_zero, List.eraseIdx_cons_succ] at hs
            replace hs := hs.front 2 rfl
            simp only [List.cons_append, List.nil_append, List.eraseIdx_cons_zero, List.eraseIdx_cons_succ] at hs
            replace hs := hs.front 2 rfl
            simp only [List.cons_append, List.nil_append, List.eraseIdx_cons_zero, List.eraseIdx_cons_succ] at hs
            refine Jm_round (i + 1, sQ, dQ, (withL W lF)) ?_ ?_ ?_
            · rw [hEn9]; exact (subE_cons rfl (subE_cons rfl (subE_cons rfl (subE_cons rfl (subE_cons rfl subE_nil)))))
            · skip
              rw [hIv10]
              exact ⟨hs, ⟨hpgQ, hdnQ, harQ.trans har, henQ, by omega⟩, by omega, withL_bytes _ _ hWb (fun x hx => (hgF.2 x hx).2.1)⟩
            · skip
              rw [hms11, hms11]
              omega
        · skip
          refine Ls_off rfl rfl rfl rfl ?_
          refine Ls_off rfl rfl rfl rfl ?_
          refine Ls_off rfl rfl rfl rfl ?_
          refine Ls_run (run_pick_f rfl rfl) rfl ?_
          refine Ls_nil ?_
          refine Jm_seq ?_
          refine St_iff rfl ?_
          refine St_exit ?_
          refine Jm_then_exit (Jm_then_exit (Jm_block_same (Jm_seq ?_)))
          refine St_region ?_
          refine Ls_run (run_as (run_load_agg agg50 inf50 rfl (show (((SW W).drop 0).take 8).length = 8 by rw [SW_take hWl, SW_len]; exact hWl) (hs.blk_cells 5 rfl 0 8)) (show _ = Value.agg (SW W).toArray by rw [SW_take hWl])) rfl ?_
          refine Ls_run (run_move rfl) rfl ?_
          refine Ls_call Try.func27 nm27 rfl rfl (with_c wk W hWl AF lF.length cF vF lF ((hpF.inB hs).with_ (hs.rd_at 0 rfl)) hgF.ok (fun x hx => (hgF.2 x hx).1) (by omega)) rfl ?_
          rintro v69 w70 ⟨rfl, hsW71⟩
          replace hs := hs.trans hsW71
          simp only [List.nil_append, List.cons_append] at hs
          replace hs := hs.front 5 rfl
          simp only [List.cons_append, List.nil_append, List.eraseIdx_cons_zero, List.eraseIdx_cons_succ] at hs
          refine Ls_storeAgg hs inf50 rfl rfl (by rw [SW_len, withL_len]; exact hWl) (by first | rfl | (rw [SW_len]; exact hWl)) (SW_one _) ?_
          intro w72 hs
          refine Ls_nil ?_
          refine Jm_block_normal (Jm_seq ?_)
          refine St_region ?_
          refine Ls_run (run_move rfl) rfl ?_
          refine Ls_run (run_add rfl rfl (w64 (by omega))) rfl ?_
          refine Ls_run (run_assign rfl) rfl ?_
          refine Ls_nil ?_
          replace hs := hs.erase 1
          simp only [List.cons_append, List.nil_append, List.eraseIdx_cons_zero, List.eraseIdx_cons_succ] at hs
          replace hs := hs.erase 1
          simp only [List.cons_append, List.nil_append, List.eraseIdx_cons_zero, List.eraseIdx_cons_succ] at hs
          replace hs := hs.erase 1
          simp only [List.cons_append, List.nil_append, List.eraseIdx_cons_zero, List.eraseIdx_cons_succ] at hs
          replace hs := hs.front 2 rfl
          simp only [List.cons_append, List.nil_append, List.eraseIdx_cons_zero, List.eraseIdx_cons_succ] at hs
          replace hs := hs.front 2 rfl
          simp only [List.cons_append, List.nil_append, List.eraseIdx_cons_zero, List.eraseIdx_cons_succ] at hs
          refine Jm_round (i + 1, sQ, dQ, (withL W lF)) ?_ ?_ ?_
          · rw [hEn9]; exact (subE_cons rfl (subE_cons rfl (subE_cons rfl (subE_cons rfl (subE_cons rfl subE_nil)))))
          · skip
            rw [hIv10]
            exact ⟨hs, ⟨hpgQ, hdnQ, harQ.trans har, henQ, by omega⟩, by omega, withL_bytes _ _ hWb (fun x hx => (hgF.2 x hx).2.1)⟩
          · skip
            rw [hms11, hms11]
            omega
    · skip
      refine St_exit ?_
      refine Jm_then_exit (Jm_then_exit (Jm_block_same (Jm_seq ?_)))
      refine St_seq ?_
      refine St_region ?_
      refine Ls_run (run_move rfl) rfl ?_
      refine Ls_run (run_as (run_load_agg agg50 inf50 rfl (show (((SW W).drop 0).take 8).length = 8 by rw [SW_take hWl, SW_len]; exact hWl) (hs.blk_cells 2 rfl 0 8)) (show _ = Value.agg (SW W).toArray by rw [SW_take hWl])) rfl ?_
      replace hs := hs.front 1 rfl
      simp only [List.cons_append, List.nil_append, List.eraseIdx_cons_zero, List.eraseIdx_cons_succ] at hs
      replace hs := hs.front 1 rfl
      simp only [List.cons_append, List.nil_append, List.eraseIdx_cons_zero, List.eraseIdx_cons_succ] at hs
      refine Ls_call Try.func30 nm30 rfl rfl (holds_c w wr _ bj b0 s d W hs hpg hdn hen hWb) rfl ?_
      rintro v73 w74 ⟨dZ, rfl, hsmZ, hs⟩
      refine Ls_run (run_assign rfl) rfl ?_
      refine Ls_nil ?_
      refine Jm_seq ?_
      refine St_ret ?_
      refine Jm_ret1 rfl rfl ?_
      exact ⟨_, rfl, rfl, hs.below⟩
  · skip
    refine Ls_off rfl rfl rfl rfl ?_
    refine Ls_off rfl rfl rfl rfl ?_
    refine Ls_run (run_pick_f rfl rfl) rfl ?_
    refine Ls_nil ?_
    refine Jm_seq ?_
    refine St_iff rfl ?_
    refine St_exit ?_
    refine Jm_then_exit (Jm_then_exit (Jm_block_same (Jm_seq ?_)))
    refine St_seq ?_
    refine St_region ?_
    refine Ls_run (run_move rfl) rfl ?_
    refine Ls_run (run_as (run_load_agg agg50 inf50 rfl (show (((SW W).drop 0).take 8).length = 8 by rw [SW_take hWl, SW_len]; exact hWl) (hs.blk_cells 2 rfl 0 8)) (show _ = Value.agg (SW W).toArray by rw [SW_take hWl])) rfl ?_
    replace hs := hs.front 1 rfl
    simp only [List.cons_append, List.nil_append, List.eraseIdx_cons_zero, List.eraseIdx_cons_succ] at hs
    replace hs := hs.front 1 rfl
    simp only [List.cons_append, List.nil_append, List.eraseIdx_cons_zero, List.eraseIdx_cons_succ] at hs
    refine Ls_call Try.func30 nm30 rfl rfl (holds_c w wr _ bj b0 s d W hs hpg hdn hen hWb) rfl ?_
    rintro v76 w77 ⟨dZ, rfl, hsmZ, hs⟩
    refine Ls_run (run_assign rfl) rfl ?_
    refine Ls_nil ?_
    refine Jm_seq ?_
    refine St_ret ?_
    refine Jm_ret1 rfl rfl ?_
    exact ⟨_, rfl, rfl, hs.below⟩
end Go.Proofs.Ytipkfdeiallifaa.Lg
