/-
  The law PagesRefuses, walked. By program (gen/pg14.py).
-/
import Derived.Test.YtipkfdeiallifaaPgL
set_option linter.unusedVariables false
set_option linter.unusedSimpArgs false
namespace Go.Proofs.Ytipkfdeiallifaa.Lg
open Go Go.RowKit Go.Proofs.Ytipkfdeiallifaa.WirePure
theorem bf_app {n : Nat} : ∀ (l : List Wr) (seen : List Int) (r : List Wr), (∀ x ∈ l, (0 ≤ x.1 ∧ x.1 < n) ∧ x.2.length ≤ 1024 ∧ x.1 ∉ seen) → (l.map Prod.fst).Nodup → bfaultF n seen (l ++ r) = bfaultF n (seen ++ l.map Prod.fst) r
  | [], seen, r, _, _ => by simp
  | (p, x) :: l, seen, r, h, hn => by
    have h1 := h (p, x) (by simp)
    simp only at h1
    rw [List.map_cons, List.nodup_cons] at hn
    rw [List.cons_append, bf_go (by omega) h1.2.2 (by omega), bf_app l (seen ++ [p]) r (fun y hy => by
      have h2 := h y (List.mem_cons_of_mem _ hy)
      refine ⟨h2.1, h2.2.1, fun q => ?_⟩
      rcases List.mem_append.1 q with q | q
      · exact h2.2.2 q
      · rw [List.mem_singleton] at q; exact hn.1 (q ▸ (List.mem_map_of_mem hy : y.1 ∈ l.map Prod.fst))) hn.2]
    simp
theorem bf_good {l r : List Wr} (h : GoodA l) : bfault 8 (l ++ r) = bfaultF 8 (l.map Prod.fst) r := by
  unfold bfault
  rw [bf_app l [] r (fun x hx => ⟨by have := (h.2 x hx).1; omega, (h.2 x hx).2.2, by simp⟩) h.1, List.nil_append]
theorem refuse_page {l : List Wr} {p : Int} {x : List Int} (h : GoodA l) (hp : p < 0 ∨ 8 ≤ p) : bfault 8 (l ++ [(p, x)]) = 91 := by rw [bf_good h]; exact bf_91 (by omega)
theorem refuse_twice {l : List Wr} {p : Int} {x : List Int} (h : GoodA l) (hl : 0 < l.length) (hp : p = (l.getD 0 (0, [])).1) : bfault 8 (l ++ [(p, x)]) = 93 := by
  have hm := wmem (ws := l) (i := 0) hl
  have hb := (h.2 _ hm).1
  rw [bf_good h]
  exact bf_93 (by omega) (by rw [hp]; exact List.mem_map_of_mem hm)
theorem refuse_long : bfault 8 ([] ++ [((3 : Int), List.replicate 1025 (0 : Int))]) = 6 := by
  rw [bf_good GoodA.nil]; exact bf_6 (by omega) (by simp) (by rw [List.length_replicate]; decide)
theorem flatKW_one (l : List KWt) : ∀ u ∈ KW.flat l, u.oneCell' = true := by
  intro u hu
  simp only [El.flat, List.mem_flatMap] at hu
  obtain ⟨x, _, hx⟩ := hu
  simp only [KW, List.mem_cons, List.not_mem_nil, or_false] at hx
  rcases hx with rfl | rfl <;> rfl
theorem rep_bytesV (n : Nat) : List.replicate n (Value.int .u8 0) = bytesV (List.replicate n 0) := by simp [bytesV]
theorem PWok.snoc {l : List Wr} {p : Int} {x : List Int} (h : PWok l) (hx : (-9223372036854775808 ≤ p ∧ p ≤ 9223372036854775807) ∧ IsBytes x ∧ x.length ≤ 140737488351232) : PWok (l ++ [(p, x)]) := fun y hy => by
  rcases List.mem_append.1 hy with hy | hy
  · exact h y hy
  · rw [List.mem_singleton] at hy; subst hy; exact hx
theorem rep_isB (n : Nat) : IsBytes (List.replicate n (0 : Int)) := fun x hx => by rw [List.eq_of_mem_replicate hx]; decide
set_option maxRecDepth 100000 in
set_option maxHeartbeats 1000000 in
theorem PagesRefuses_c (w : World) (A : Option Addr) (n c : Nat) (ls : List Value) (p1 : Int) (A1 : Option Addr) (n1 c1 : Nat) (x1 : List Int) (how : Int) (hr : Rd w A n c 1 (El.val.flat ls)) (hll : ∀ x ∈ ls, LL w x) (hp1 : -9223372036854775808 ≤ p1 ∧ p1 ≤ 9223372036854775807) (hr1 : Rd w A1 n1 c1 1 (bytesV x1)) (hb1 : IsBytes x1) (hz1 : x1.length ≤ 140737488351232) (hn : n ≤ 9223372036854775806) :
    Calls Try.prog 9 [.slice A n c, .agg #[.int .i64 p1, .slice A1 n1 c1], .int .i64 how].toArray w (Ret (fun v' w' => v' = .bool true ∧ Below w.heap.size w w')) := by
  have hs := Sat.start w
  have hln : ls.length = n := by have := hr.len; rw [El.flat_length] at this; simpa [El.val] using this
  obtain ⟨u, hu, hu2⟩ := u64_nat' how
  refine Calls_body Try.func9 rfl rfl rfl (envE_cons (i := 0) (v := .slice A n c) rfl (envE_cons (i := 1) (v := .agg #[.int .i64 p1, .slice A1 n1 c1]) rfl (envE_cons (i := 2) (v := .int .i64 how) rfl envE_nil))) ?_
  refine St_seq ?_
  refine St_region ?_
  refine Ls_box hs rfl rfl ?_
  intro b2 w1 hs
  refine Ls_run (run_assign rfl) rfl ?_
  refine Ls_nil ?_
  refine Jm_seq ?_
  refine St_seq ?_
  refine St_seq ?_
  refine St_region ?_
  refine Ls_call Try.func23 nm23 rfl rfl (awake9_c w1) rfl ?_
  rintro v3 w4 ⟨rfl, hsA⟩
  replace hs := hs.trans hsA
  simp only [List.nil_append] at hs
  refine Ls_run (run_not rfl) rfl ?_
  refine Ls_nil ?_
  refine Jm_seq ?_
  refine St_iff rfl ?_
  refine St_skip ?_
  refine Jm_seq ?_
  refine St_seq ?_
  refine St_region ?_
  refine Ls_call Try.func24 nm24 rfl rfl (room_c w4) rfl ?_
  rintro v6 w7 ⟨b0, bj, d0, rfl, hsR, hpg0, hdn0, har0⟩
  replace hs := hs.trans hsR
  simp only [List.cons_append, List.nil_append] at hs
  refine Ls_run (run_move rfl) rfl ?_
  refine Ls_run (run_extract rfl rfl) rfl ?_
  refine Ls_run (run_extract rfl rfl) rfl ?_
  refine Ls_run (run_assign rfl) rfl ?_
  refine Ls_run (run_assign rfl) rfl ?_
  refine Ls_nil ?_
  refine Jm_seq ?_
  refine St_seq ?_
  refine St_seq ?_
  refine St_region ?_
  refine Ls_run (run_move rfl) rfl ?_
  refine Ls_run (run_asB (c := false) (run_eql_ptr_nil Try.underlying47 rfl rfl) rfl) rfl ?_
  refine Ls_nil ?_
  refine Jm_seq ?_
  refine St_iff rfl ?_
  refine St_skip ?_
  refine Jm_seq ?_
  refine St_seq ?_
  refine St_region ?_
  refine Ls_alloc hs inf50 rfl ?_
  intro b10 w9 hs
  refine Ls_nil ?_
  refine Jm_seq ?_
  refine St_seq ?_
  refine St_seq ?_
  refine St_region ?_
  refine Ls_run (run_assign rfl) rfl ?_
  refine Ls_nil ?_
  refine Jm_seq ?_
  refine St_block ?_
  replace hs := hs.front 3 rfl
  simp only [List.cons_append, List.nil_append, List.eraseIdx_cons_zero, List.eraseIdx_cons_succ] at hs
  replace hs := hs.front 1 rfl
  simp only [List.cons_append, List.nil_append, List.eraseIdx_cons_zero, List.eraseIdx_cons_succ] at hs
  replace hs := hs.front 3 rfl
  simp only [List.cons_append, List.nil_append, List.eraseIdx_cons_zero, List.eraseIdx_cons_succ] at hs
  replace hs := hs.front 3 rfl
  simp only [List.cons_append, List.nil_append, List.eraseIdx_cons_zero, List.eraseIdx_cons_succ] at hs
  obtain ⟨En11, hEn11⟩ : ∃ F : Nat × BSt × DSt × List (List Int) × Int × Value → Env, ∀ (i : Nat) (s : BSt) (d : DSt) (W : List (List Int)) (pq : Int) (sq : Value), F (i, s, d, W, pq, sq) = [(0, .slice A n c), (2, .int .i64 how), (4, .pointer (some ⟨b2, 0, none⟩)), (7, .pointer (some ⟨b0, 0, none⟩)), (8, .pointer (some ⟨bj, 0, none⟩)), (9, .pointer (some ⟨b10, 0, none⟩)), (10, .int .i64 (i : Int))] := ⟨(fun (sx0 : Nat × BSt × DSt × List (List Int) × Int × Value) => match sx0 with | (i, s, d, W, pq, sq) => [(0, .slice A n c), (2, .int .i64 how), (4, .pointer (some ⟨b2, 0, none⟩)), (7, .pointer (some ⟨b0, 0, none⟩)), (8, .pointer (some ⟨bj, 0, none⟩)), (9, .pointer (some ⟨b10, 0, none⟩)), (10, .int .i64 (i : Int))]), fun _ _ _ _ _ _ => rfl⟩
  obtain ⟨Iv12, hIv12⟩ : ∃ F : Nat × BSt × DSt × List (List Int) × Int × Value → World → Prop, ∀ (i : Nat) (s : BSt) (d : DSt) (W : List (List Int)) (pq : Int) (sq : Value) (wr : World), F (i, s, d, W, pq, sq) wr = (Sat w wr [BA 122 3 bj (some ⟨b0, 0, none⟩) s, DiskA 129 28 5 b0 d, Blk b10 (SW W) 50, Blk b2 [.int .i64 pq, sq] 45] ∧ (PGb d.bl s W ∧ d.down = false ∧ d.armed = false ∧ s.ended = false ∧ s.gen ≤ 1 + i) ∧ i ≤ 64 ∧ (∀ x ∈ W, IsBytes x) ∧ ((-9223372036854775808 ≤ pq ∧ pq ≤ 9223372036854775807) ∧ ((∃ Az nz cz, sq = .slice Az nz cz) ∧ (sq = .slice A1 n1 c1 ∨ u % 3 = 2)))) := ⟨(fun (sx0 : Nat × BSt × DSt × List (List Int) × Int × Value) => match sx0 with | (i, s, d, W, pq, sq) => fun (wr : World) => Sat w wr [BA 122 3 bj (some ⟨b0, 0, none⟩) s, DiskA 129 28 5 b0 d, Blk b10 (SW W) 50, Blk b2 [.int .i64 pq, sq] 45] ∧ (PGb d.bl s W ∧ d.down = false ∧ d.armed = false ∧ s.ended = false ∧ s.gen ≤ 1 + i) ∧ i ≤ 64 ∧ (∀ x ∈ W, IsBytes x) ∧ ((-9223372036854775808 ≤ pq ∧ pq ≤ 9223372036854775807) ∧ ((∃ Az nz cz, sq = .slice Az nz cz) ∧ (sq = .slice A1 n1 c1 ∨ u % 3 = 2)))), fun _ _ _ _ _ _ _ => rfl⟩
  obtain ⟨ms13, hms13⟩ : ∃ F : Nat × BSt × DSt × List (List Int) × Int × Value → Nat, ∀ (i : Nat) (s : BSt) (d : DSt) (W : List (List Int)) (pq : Int) (sq : Value), F (i, s, d, W, pq, sq) = (n - i) := ⟨(fun (sx0 : Nat × BSt × DSt × List (List Int) × Int × Value) => match sx0 with | (i, s, d, W, pq, sq) => n - i), fun _ _ _ _ _ _ => rfl⟩
  refine St_loop En11 Iv12 ms13 (0, (bnew 8), d0, (List.replicate 8 []), p1, (Value.slice A1 n1 c1)) ?_ ?_ ?_
  · skip
    rw [hIv12]
    exact ⟨hs, ⟨hpg0, hdn0, har0, rfl, by decide⟩, by omega, rep_bytes, hp1, ⟨_, _, _, rfl⟩, .inl rfl⟩
  · rw [hEn11]; exact (subE_cons rfl (subE_cons rfl (subE_cons rfl (subE_cons rfl (subE_cons rfl (subE_cons rfl (subE_cons rfl subE_nil)))))))
  rintro ⟨i, s, d, W, pq, sq⟩ wr hI14
  rw [hIv12] at hI14
  obtain ⟨hs, ⟨hpg, hdn, har, hen, hgn⟩, hi64, hWb, hpq, hsqe, hsqo⟩ := hI14
  refine St_eqE (hEn11 _ _ _ _ _ _) ?_
  have hWl := hpg.wl
  obtain ⟨Az, nz, cz, hsq⟩ := hsqe
  refine St_seq ?_
  refine St_seq ?_
  refine St_region ?_
  refine Ls_run (run_move rfl) rfl ?_
  refine Ls_run (run_move rfl) rfl ?_
  refine Ls_run (run_len Try.underlying43 rfl) rfl ?_
  refine Ls_run (run_lss rfl rfl) rfl ?_
  refine Ls_run (run_move rfl) rfl ?_
  refine Ls_partP (t := 31) rfl (fun h15 => ?_) (fun h15 => ?_)
  · skip
    refine Ls_on rfl rfl ?_
    refine Ls_run (run_move rfl) rfl ?_
    refine Ls_on rfl rfl ?_
    refine Ls_run (run_lss rfl rfl) rfl ?_
    refine Ls_run (run_pick_t rfl rfl) rfl ?_
    refine Ls_nil ?_
    refine Jm_seq ?_
    refine St_ifP rfl (fun h16 => ?_) (fun h16 => ?_)
    · skip
      refine St_skip ?_
      refine Jm_seq ?_
      refine St_seq ?_
      refine St_block ?_
      refine St_seq ?_
      refine St_region ?_
      refine Ls_run (run_move rfl) rfl ?_
      refine Ls_run (run_move rfl) rfl ?_
      obtain ⟨Al, nl, cl, vl, wl, hlv, hwl, hokl, hnl⟩ := hll (ls.getD i El.val.dflt) (getElem_mem3 (by omega))
      refine Ls_index (El.val) (hr.inB hs) Try.underlying43 inf51 rfl rfl (by omega) (by omega) hlv rfl ?_
      intro b17 o18 hc19
      refine Ls_run (run_load sc51 rfl (hc19 0 _ rfl)) rfl ?_
      refine Ls_call Try.func25 nm25 rfl rfl (fit_c w wr hs.forget Al nl cl vl wl hwl hokl hnl) rfl ?_
      rintro v20 w21 ⟨AF, cF, vF, rfl, hsF, hpF⟩
      have hgF := fitL_good hokl
      obtain ⟨lF, hlF⟩ : ∃ q, fitL wl = q := ⟨_, rfl⟩
      rw [hlF] at hsF hpF hgF ⊢
      replace hs := hs.trans hsF
      simp only [List.cons_append, List.nil_append] at hs
      have hnF := hgF.len
      refine Ls_run (run_assign rfl) rfl ?_
      refine Ls_nil ?_
      refine Jm_seq ?_
      refine St_seq ?_
      refine St_seq ?_
      refine St_region ?_
      refine Ls_run (run_move rfl) rfl ?_
      refine Ls_run (run_move rfl) rfl ?_
      replace hs := hs.front 2 rfl
      simp only [List.cons_append, List.nil_append, List.eraseIdx_cons_zero, List.eraseIdx_cons_succ] at hs
      replace hs := hs.front 2 rfl
      simp only [List.cons_append, List.nil_append, List.eraseIdx_cons_zero, List.eraseIdx_cons_succ] at hs
      obtain ⟨sQ, dQ, hbQ, hpgQ, hdnQ, harQ, henQ, hgnQ, hnlQ, hshQ⟩ := (PGb.put hpg hdn hen (by omega) hgF.fit).resolve_right (fun ⟨_, _, _, _, _, h9, _⟩ => by rw [har] at h9; cases h9)
      refine Ls_call Try.func26 nm26 rfl rfl (BPut_g w w21 _ bj b0 s d hs ⟨hpg.rows, by rw [hpg.n]; decide⟩ (by rw [hpg.n]; exact hpg.inv) AF lF.length cF vF lF (fun w' X q => ((hpF.inB q).with_ (q.rd_at 1 rfl))) hgF.ok (by omega)) rfl ?_
      rintro v22 w23 ⟨rfl, hs⟩
      simp only [hbQ] at hs ⊢
      refine Ls_run (run_asB (c := false) (run_neq rfl rfl) (by decide)) rfl ?_
      refine Ls_nil ?_
      refine Jm_seq ?_
      refine St_iff rfl ?_
      refine St_skip ?_
      refine Jm_seq ?_
      refine St_seq ?_
      refine St_region ?_
      refine Ls_run (run_as (run_load_agg agg50 inf50 rfl (show (((SW W).drop 0).take 8).length = 8 by rw [SW_take hWl, SW_len]; exact hWl) (hs.blk_cells 3 rfl 0 8)) (show _ = Value.agg (SW W).toArray by rw [SW_take hWl])) rfl ?_
      refine Ls_run (run_move rfl) rfl ?_
      refine Ls_call Try.func27 nm27 rfl rfl (with_c w23 W hWl AF lF.length cF vF lF ((hpF.inB hs).with_ (hs.rd_at 2 rfl)) hgF.ok (fun x hx => (hgF.2 x hx).1) (by omega)) rfl ?_
      rintro v25 w26 ⟨rfl, hsW27⟩
      replace hs := hs.trans hsW27
      simp only [List.nil_append, List.cons_append] at hs
      replace hs := hs.front 3 rfl
      simp only [List.cons_append, List.nil_append, List.eraseIdx_cons_zero, List.eraseIdx_cons_succ] at hs
      refine Ls_storeAgg hs inf50 rfl rfl (by rw [SW_len, withL_len]; exact hWl) (by first | rfl | (rw [SW_len]; exact hWl)) (SW_one _) ?_
      intro w28 hs
      refine Ls_nil ?_
      refine Jm_seq ?_
      refine St_seq ?_
      refine St_region ?_
      refine Ls_run (run_move rfl) rfl ?_
      replace hs := hs.front 2 rfl
      simp only [List.cons_append, List.nil_append, List.eraseIdx_cons_zero, List.eraseIdx_cons_succ] at hs
      refine Ls_call Try.func28 nm28 rfl rfl (Image_c w w28 _ b0 dQ hs (fun r hr => (hpgQ.rows r hr).2) (by rw [hpgQ.n]; decide)) rfl ?_
      rintro v29 w30 ⟨Ia, ia, va, rfl, hva, hs⟩
      replace hs := Sat.toKeep (F := fun w => Rd w Ia dQ.bl.length ia 1 (El.val.flat va) ∧ PartsK (El.int .u8) w va dQ.bl) (fun B w z => ⟨z.rd_at 0 rfl, Sat.parts (pre := [_]) z hva⟩) hs
      refine Ls_run (run_assign rfl) rfl ?_
      refine Ls_nil ?_
      refine Jm_seq ?_
      refine St_seq ?_
      refine St_region ?_
      refine Ls_literal [] hs Try.underlying51 inf45 rfl rfl rfl rfl rfl rfl ?_
      intro b31 w32 hs
      simp only [List.flatMap_cons, List.flatMap_nil, Value.cells, List.cons_append, List.nil_append] at hs
      replace hs := Sat.own_block hs 2 0 rfl (by decide)
      refine Ls_run (run_move rfl) rfl ?_
      refine Ls_append hs Try.underlying51 inf45 rfl (by decide) (by decide) rfl rfl (hs.rd_at 5 rfl) (flatKW_one vF) (by omega) rfl ?_
      intro A33 c34 w35 hs
      simp only [Nat.zero_add, List.nil_append] at hs ⊢
      refine Ls_run (run_assign rfl) rfl ?_
      refine Ls_nil ?_
      refine Jm_seq ?_
      refine St_seq ?_
      refine St_region ?_
      refine Ls_run (run_assign rfl) rfl ?_
      refine Ls_nil ?_
      refine Jm_seq ?_
      refine St_seq ?_
      refine St_seq ?_
      refine St_region ?_
      refine Ls_run (run_move rfl) rfl ?_
      refine Ls_run (run_as (run_conv_int Try.underlying57 us3 rfl rfl) (show _ = Value.int .u64 (u : Int) by rw [← hu])) rfl ?_
      refine Ls_run (run_as (run_rem rfl rfl (by decide) rfl) (show _ = Value.int .u64 ((u % 3 : Nat) : Int) by rw [← rem_nn' u 3]; rfl)) rfl ?_
      refine Ls_run (run_as (run_conv_int Try.underlying3 us57 rfl (w64 (by omega))) (show _ = Value.int .i64 ((u % 3 : Nat) : Int) from rfl)) rfl ?_
      refine Ls_nil ?_
      refine Jm_seq ?_
      refine St_block ?_
      refine St_seq ?_
      refine St_region ?_
      refine Ls_run (run_eql rfl rfl) rfl ?_
      refine Ls_run (run_assign rfl) rfl ?_
      refine Ls_nil ?_
      refine Jm_seq ?_
      refine St_ifP rfl (fun h36 => ?_) (fun h36 => ?_)
      · skip
        have hsq1 := hsqo.resolve_right (by omega)
        subst hsq1
        refine St_seq ?_
        refine St_region ?_
        refine Ls_run (run_as (run_field Try.underlying45 rfl inf3 (by decide) rfl) (show _ = Value.pointer (some ⟨b2, 0, none⟩) from rfl)) rfl ?_
        refine Ls_run (run_load sc3 rfl (hs.blk_at 6 rfl 0 rfl)) rfl ?_
        refine Ls_run (run_geq rfl rfl) rfl ?_
        refine Ls_run (run_move rfl) rfl ?_
        refine Ls_partP (t := 67) rfl (fun h37 => ?_) (fun h37 => ?_)
        · skip
          refine Ls_on rfl rfl ?_
          refine Ls_run (run_as (run_field Try.underlying45 rfl inf3 (by decide) rfl) (show _ = Value.pointer (some ⟨b2, 0, none⟩) from rfl)) rfl ?_
          refine Ls_on rfl rfl ?_
          refine Ls_run (run_load sc3 rfl (hs.blk_at 6 rfl 0 rfl)) rfl ?_
          refine Ls_on rfl rfl ?_
          refine Ls_run (run_lss rfl rfl) rfl ?_
          refine Ls_run (run_pick_t rfl rfl) rfl ?_
          refine Ls_nil ?_
          refine Jm_seq ?_
          refine St_ifP rfl (fun h38 => ?_) (fun h38 => ?_)
          · skip
            refine St_region ?_
            refine Ls_run (run_as (run_field Try.underlying45 rfl inf3 (by decide) rfl) (show _ = Value.pointer (some ⟨b2, 0, none⟩) from rfl)) rfl ?_
            replace hs := hs.front 6 rfl
            simp only [List.cons_append, List.nil_append, List.eraseIdx_cons_zero, List.eraseIdx_cons_succ] at hs
            refine Ls_store hs inf3 rfl rfl rfl rfl ?_
            intro w39 hs
            try simp only [List.set_cons_zero, List.set_cons_succ] at hs
            refine Ls_nil ?_
            refine Jm_block_normal (Jm_seq ?_)
            refine St_seq ?_
            refine St_region ?_
            refine Ls_run (run_move rfl) rfl ?_
            refine Ls_run (run_move rfl) rfl ?_
            refine Ls_run (run_load_agg agg45 inf45 rfl rfl (hs.blk_cells 0 rfl 0 2)) rfl ?_
            refine Ls_literal [_] hs Try.underlying51 inf45 rfl rfl rfl rfl rfl rfl ?_
            intro b40 w41 hs
            simp only [List.flatMap_cons, List.flatMap_nil, Value.cells, List.cons_append, List.nil_append] at hs
            replace hs := hs.front 2 rfl
            simp only [List.cons_append, List.nil_append, List.eraseIdx_cons_zero, List.eraseIdx_cons_succ] at hs
            refine Ls_append hs Try.underlying51 inf45 rfl (by decide) (by decide) rfl rfl (rd_block (hs.is_at 1 rfl).2 2 1 rfl) (by simp [Value.oneCell']) (by omega) rfl ?_
            intro A42 c43 w44 hs
            replace hs := hs.erase 1
            simp only [List.cons_append, List.nil_append, List.eraseIdx_cons_zero, List.eraseIdx_cons_succ] at hs
            replace hs := hs.front 3 rfl
            simp only [List.cons_append, List.nil_append, List.eraseIdx_cons_zero, List.eraseIdx_cons_succ] at hs
            replace hs := hs.front 5 rfl
            simp only [List.cons_append, List.nil_append, List.eraseIdx_cons_zero, List.eraseIdx_cons_succ] at hs
            have hrf : bput dO (fun _ => 80) sQ dQ (lF ++ [((8 : Int), x1)]) = (91, sQ, dQ) := by
              have h8 : bfault sQ.tb.length (lF ++ [((8 : Int), x1)]) = 91 := by rw [hpgQ.l8]; exact refuse_page hgF (by omega)
              rw [PGb.refuse hdnQ henQ (by rw [h8]; decide), h8]
            refine Ls_call Try.func26 nm26 rfl rfl (BPut_g w w44 _ bj b0 sQ dQ hs ⟨hpgQ.rows, by rw [hpgQ.n]; decide⟩ (by rw [hpgQ.n]; exact hpgQ.inv) _ _ _ (vF ++ [((8 : Int), A1, n1, c1)]) (lF ++ [((8 : Int), x1)]) (fun w' X q => (PWp.snoc (PWp.inB hpF q) (hr1.inB q)).with_ (by have h9 := q.rd_at 1 rfl; first | exact h9 | (rw [flatKW_snoc]; exact h9) | (simpa [El.flat, KW] using h9))) (PWok.snoc hgF.ok ⟨⟨by omega, by omega⟩, hb1, hz1⟩) (by omega)) rfl ?_
            rintro v45 w46 ⟨rfl, hs⟩
            simp only [hrf] at hs ⊢
            refine Ls_run (run_move rfl) rfl ?_
            refine Ls_run (run_asB (c := false) (run_neq rfl rfl) (by decide)) rfl ?_
            refine Ls_run (run_move rfl) rfl ?_
            refine Ls_on rfl rfl ?_
            refine Ls_run (run_move rfl) rfl ?_
            refine Ls_on rfl rfl ?_
            replace hs := hs.front 1 rfl
            simp only [List.cons_append, List.nil_append, List.eraseIdx_cons_zero, List.eraseIdx_cons_succ] at hs
            refine Ls_call Try.func28 nm28 rfl rfl (Image_c w w46 _ b0 dQ hs (fun r hr => (hpgQ.rows r hr).2) (by rw [hpgQ.n]; decide)) rfl ?_
            rintro v47 w48 ⟨Ib, ib, vb, rfl, hvb, hs⟩
            replace hs := Sat.toKeep (F := fun w => Rd w Ib dQ.bl.length ib 1 (El.val.flat vb) ∧ PartsK (El.int .u8) w vb dQ.bl) (fun B w z => ⟨z.rd_at 0 rfl, Sat.parts (pre := [_]) z hvb⟩) hs
            refine Ls_on rfl rfl ?_
            refine Ls_run (run_move rfl) rfl ?_
            refine Ls_on rfl rfl ?_
            refine Ls_call Try.func29 nm29 rfl rfl (images9_c w48 _ _ _ vb dQ.bl _ _ _ va dQ.bl (hs.kept 0 rfl).1 (hs.kept 5 rfl).1 (hs.kept 0 rfl).2 (hs.kept 5 rfl).2 (fun x hx => (hpgQ.rows x hx).1) (fun x hx => (hpgQ.rows x hx).1) (by rw [hpgQ.n]; decide)) rfl ?_
            rintro v49 w50 ⟨rfl, hsI⟩
            replace hs := hs.trans hsI
            simp only [List.nil_append] at hs
            rw [decide_eq_true rfl]
            refine Ls_on rfl rfl ?_
            refine Ls_run (run_not rfl) rfl ?_
            refine Ls_run (run_pick_f rfl rfl) rfl ?_
            refine Ls_run (run_move rfl) rfl ?_
            refine Ls_on rfl rfl ?_
            refine Ls_run (run_move rfl) rfl ?_
            refine Ls_on rfl rfl ?_
            refine Ls_run (run_as (run_load_agg agg50 inf50 rfl (show (((SW (withL W lF)).drop 0).take 8).length = 8 by rw [SW_take (by rw [withL_len]; exact hWl), SW_len]; exact (by rw [withL_len]; exact hWl)) (hs.blk_cells 6 rfl 0 8)) (show _ = Value.agg (SW (withL W lF)).toArray by rw [SW_take (by rw [withL_len]; exact hWl)])) rfl ?_
            refine Ls_on rfl rfl ?_
            replace hs := hs.front 1 rfl
            simp only [List.cons_append, List.nil_append, List.eraseIdx_cons_zero, List.eraseIdx_cons_succ] at hs
            replace hs := hs.front 2 rfl
            simp only [List.cons_append, List.nil_append, List.eraseIdx_cons_zero, List.eraseIdx_cons_succ] at hs
            refine Ls_call Try.func30 nm30 rfl rfl (holds_c w w50 _ bj b0 sQ dQ (withL W lF) hs hpgQ hdnQ henQ (withL_bytes _ _ hWb (fun x hx => (hgF.2 x hx).2.1))) rfl ?_
            rintro v51 w52 ⟨dX, rfl, hsmX, hs⟩
            refine Ls_on rfl rfl ?_
            refine Ls_run (run_not rfl) rfl ?_
            refine Ls_run (run_pick_f rfl rfl) rfl ?_
            refine Ls_nil ?_
            refine Jm_seq ?_
            refine St_iff rfl ?_
            refine St_skip ?_
            refine Jm_block_normal (Jm_seq ?_)
            refine St_region ?_
            refine Ls_run (run_move rfl) rfl ?_
            refine Ls_run (run_add rfl rfl (w64 (by omega))) rfl ?_
            refine Ls_run (run_assign rfl) rfl ?_
            refine Ls_nil ?_
            replace hs := hs.erase 2
            simp only [List.cons_append, List.nil_append, List.eraseIdx_cons_zero, List.eraseIdx_cons_succ] at hs
            replace hs := hs.erase 2
            simp only [List.cons_append, List.nil_append, List.eraseIdx_cons_zero, List.eraseIdx_cons_succ] at hs
            replace hs := hs.erase 3
            simp only [List.cons_append, List.nil_append, List.eraseIdx_cons_zero, List.eraseIdx_cons_succ] at hs
            replace hs := hs.erase 4
            simp only [List.cons_append, List.nil_append, List.eraseIdx_cons_zero, List.eraseIdx_cons_succ] at hs
            replace hs := hs.front 2 rfl
            simp only [List.cons_append, List.nil_append, List.eraseIdx_cons_zero, List.eraseIdx_cons_succ] at hs
            replace hs := hs.front 3 rfl
            simp only [List.cons_append, List.nil_append, List.eraseIdx_cons_zero, List.eraseIdx_cons_succ] at hs
            replace hs := hs.front 3 rfl
            simp only [List.cons_append, List.nil_append, List.eraseIdx_cons_zero, List.eraseIdx_cons_succ] at hs
            replace hs := hs.front 3 rfl
            simp only [List.cons_append, List.nil_append, List.eraseIdx_cons_zero, List.eraseIdx_cons_succ] at hs
            refine Jm_round (i + 1, sQ, dX, (withL W lF), 8, (Value.slice A1 n1 c1)) ?_ ?_ ?_
            · rw [hEn11]; exact (subE_cons rfl (subE_cons rfl (subE_cons rfl (subE_cons rfl (subE_cons rfl (subE_cons rfl (subE_cons rfl subE_nil)))))))
            · skip
              rw [hIv12]
              exact ⟨hs, ⟨by rw [hsmX.1]; exact hpgQ, hsmX.2.1.trans hdnQ, hsmX.2.2.trans (harQ.trans har), henQ, by omega⟩, by omega, withL_bytes _ _ hWb (fun x hx => (hgF.2 x hx).2.1), by omega, ⟨_, _, _, rfl⟩, .inl rfl⟩
            · skip
              rw [hms13, hms13]
              omega
          · skip
            refine St_skip ?_
            refine Jm_block_normal (Jm_seq ?_)
            refine St_seq ?_
            refine St_region ?_
            refine Ls_run (run_move rfl) rfl ?_
            refine Ls_run (run_move rfl) rfl ?_
            refine Ls_run (run_load_agg agg45 inf45 rfl rfl (hs.blk_cells 6 rfl 0 2)) rfl ?_
            refine Ls_literal [_] hs Try.underlying51 inf45 rfl rfl rfl rfl rfl rfl ?_
            intro b54 w55 hs
            simp only [List.flatMap_cons, List.flatMap_nil, Value.cells, List.cons_append, List.nil_append] at hs
            replace hs := hs.front 1 rfl
            simp only [List.cons_append, List.nil_append, List.eraseIdx_cons_zero, List.eraseIdx_cons_succ] at hs
            refine Ls_append hs Try.underlying51 inf45 rfl (by decide) (by decide) rfl rfl (rd_block (hs.is_at 1 rfl).2 2 1 rfl) (by simp [Value.oneCell']) (by omega) rfl ?_
            intro A56 c57 w58 hs
            replace hs := hs.erase 1
            simp only [List.cons_append, List.nil_append, List.eraseIdx_cons_zero, List.eraseIdx_cons_succ] at hs
            replace hs := hs.front 2 rfl
            simp only [List.cons_append, List.nil_append, List.eraseIdx_cons_zero, List.eraseIdx_cons_succ] at hs
            replace hs := hs.front 4 rfl
            simp only [List.cons_append, List.nil_append, List.eraseIdx_cons_zero, List.eraseIdx_cons_succ] at hs
            have hrf : bput dO (fun _ => 80) sQ dQ (lF ++ [((pq : Int), x1)]) = (91, sQ, dQ) := by
              have h8 : bfault sQ.tb.length (lF ++ [((pq : Int), x1)]) = 91 := by rw [hpgQ.l8]; exact refuse_page hgF (by omega)
              rw [PGb.refuse hdnQ henQ (by rw [h8]; decide), h8]
            refine Ls_call Try.func26 nm26 rfl rfl (BPut_g w w58 _ bj b0 sQ dQ hs ⟨hpgQ.rows, by rw [hpgQ.n]; decide⟩ (by rw [hpgQ.n]; exact hpgQ.inv) _ _ _ (vF ++ [((pq : Int), A1, n1, c1)]) (lF ++ [((pq : Int), x1)]) (fun w' X q => (PWp.snoc (PWp.inB hpF q) (hr1.inB q)).with_ (by have h9 := q.rd_at 1 rfl; first | exact h9 | (rw [flatKW_snoc]; exact h9) | (simpa [El.flat, KW] using h9))) (PWok.snoc hgF.ok ⟨⟨by omega, by omega⟩, hb1, hz1⟩) (by omega)) rfl ?_
            rintro v59 w60 ⟨rfl, hs⟩
            simp only [hrf] at hs ⊢
            refine Ls_run (run_move rfl) rfl ?_
            refine Ls_run (run_asB (c := false) (run_neq rfl rfl) (by decide)) rfl ?_
            refine Ls_run (run_move rfl) rfl ?_
            refine Ls_on rfl rfl ?_
            refine Ls_run (run_move rfl) rfl ?_
            refine Ls_on rfl rfl ?_
            replace hs := hs.front 1 rfl
            simp only [List.cons_append, List.nil_append, List.eraseIdx_cons_zero, List.eraseIdx_cons_succ] at hs
            refine Ls_call Try.func28 nm28 rfl rfl (Image_c w w60 _ b0 dQ hs (fun r hr => (hpgQ.rows r hr).2) (by rw [hpgQ.n]; decide)) rfl ?_
            rintro v61 w62 ⟨Ib, ib, vb, rfl, hvb, hs⟩
            replace hs := Sat.toKeep (F := fun w => Rd w Ib dQ.bl.length ib 1 (El.val.flat vb) ∧ PartsK (El.int .u8) w vb dQ.bl) (fun B w z => ⟨z.rd_at 0 rfl, Sat.parts (pre := [_]) z hvb⟩) hs
            refine Ls_on rfl rfl ?_
            refine Ls_run (run_move rfl) rfl ?_
            refine Ls_on rfl rfl ?_
            refine Ls_call Try.func29 nm29 rfl rfl (images9_c w62 _ _ _ vb dQ.bl _ _ _ va dQ.bl (hs.kept 0 rfl).1 (hs.kept 4 rfl).1 (hs.kept 0 rfl).2 (hs.kept 4 rfl).2 (fun x hx => (hpgQ.rows x hx).1) (fun x hx => (hpgQ.rows x hx).1) (by rw [hpgQ.n]; decide)) rfl ?_
            rintro v63 w65 ⟨rfl, hsI⟩
            replace hs := hs.trans hsI
            simp only [List.nil_append] at hs
            rw [decide_eq_true rfl]
            refine Ls_on rfl rfl ?_
            refine Ls_run (run_not rfl) rfl ?_
            refine Ls_run (run_pick_f rfl rfl) rfl ?_
            refine Ls_run (run_move rfl) rfl ?_
            refine Ls_on rfl rfl ?_
            refine Ls_run (run_move rfl) rfl ?_
            refine Ls_on rfl rfl ?_
            refine Ls_run (run_as (run_load_agg agg50 inf50 rfl (show (((SW (withL W lF)).drop 0).take 8).length = 8 by rw [SW_take (by rw [withL_len]; exact hWl), SW_len]; exact (by rw [withL_len]; exact hWl)) (hs.blk_cells 5 rfl 0 8)) (show _ = Value.agg (SW (withL W lF)).toArray by rw [SW_take (by rw [withL_len]; exact hWl)])) rfl ?_
            refine Ls_on rfl rfl ?_
            replace hs := hs.front 1 rfl
            simp only [List.cons_append, List.nil_append, List.eraseIdx_cons_zero, List.eraseIdx_cons_succ] at hs
            replace hs := hs.front 2 rfl
            simp only [List.cons_append, List.nil_append, List.eraseIdx_cons_zero, List.eraseIdx_cons_succ] at hs
            refine Ls_call Try.func30 nm30 rfl rfl (holds_c w w65 _ bj b0 sQ dQ (withL W lF) hs hpgQ hdnQ henQ (withL_bytes _ _ hWb (fun x hx => (hgF.2 x hx).2.1))) rfl ?_
            rintro v66 w67 ⟨dX, rfl, hsmX, hs⟩
            refine Ls_on rfl rfl ?_
            refine Ls_run (run_not rfl) rfl ?_
            refine Ls_run (run_pick_f rfl rfl) rfl ?_
            refine Ls_nil ?_
            refine Jm_seq ?_
            refine St_iff rfl ?_
            refine St_skip ?_
            refine Jm_block_normal (Jm_seq ?_)
            refine St_region ?_
            refine Ls_run (run_move rfl) rfl ?_
            refine Ls_run (run_add rfl rfl (w64 (by omega))) rfl ?_
            refine Ls_run (run_assign rfl) rfl ?_
            refine Ls_nil ?_
            replace hs := hs.erase 2
            simp only [List.cons_append, List.nil_append, List.eraseIdx_cons_zero, List.eraseIdx_cons_succ] at hs
            replace hs := hs.erase 2
            simp only [List.cons_append, List.nil_append, List.eraseIdx_cons_zero, List.eraseIdx_cons_succ] at hs
            replace hs := hs.erase 2
            simp only [List.cons_append, List.nil_append, List.eraseIdx_cons_zero, List.eraseIdx_cons_succ] at hs
            replace hs := hs.erase 3
            simp only [List.cons_append, List.nil_append, List.eraseIdx_cons_zero, List.eraseIdx_cons_succ] at hs
            refine Jm_round (i + 1, sQ, dX, (withL W lF), pq, (Value.slice A1 n1 c1)) ?_ ?_ ?_
            · rw [hEn11]; exact (subE_cons rfl (subE_cons rfl (subE_cons rfl (subE_cons rfl (subE_cons rfl (subE_cons rfl (subE_cons rfl subE_nil)))))))
            · skip
              rw [hIv12]
              exact ⟨hs, ⟨by rw [hsmX.1]; exact hpgQ, hsmX.2.1.trans hdnQ, hsmX.2.2.trans (harQ.trans har), henQ, by omega⟩, by omega, withL_bytes _ _ hWb (fun x hx => (hgF.2 x hx).2.1), by omega, ⟨_, _, _, rfl⟩, .inl rfl⟩
            · skip
              rw [hms13, hms13]
              omega
        · skip
          refine Ls_off rfl rfl rfl rfl ?_
          refine Ls_off rfl rfl rfl rfl ?_
          refine Ls_off rfl rfl rfl rfl ?_
          refine Ls_run (run_pick_f rfl rfl) rfl ?_
          refine Ls_nil ?_
          refine Jm_seq ?_
          refine St_iff rfl ?_
          refine St_skip ?_
          refine Jm_block_normal (Jm_seq ?_)
          refine St_seq ?_
          refine St_region ?_
          refine Ls_run (run_move rfl) rfl ?_
          refine Ls_run (run_move rfl) rfl ?_
          refine Ls_run (run_load_agg agg45 inf45 rfl rfl (hs.blk_cells 6 rfl 0 2)) rfl ?_
          refine Ls_literal [_] hs Try.underlying51 inf45 rfl rfl rfl rfl rfl rfl ?_
          intro b70 w71 hs
          simp only [List.flatMap_cons, List.flatMap_nil, Value.cells, List.cons_append, List.nil_append] at hs
          replace hs := hs.front 1 rfl
          simp only [List.cons_append, List.nil_append, List.eraseIdx_cons_zero, List.eraseIdx_cons_succ] at hs
          refine Ls_append hs Try.underlying51 inf45 rfl (by decide) (by decide) rfl rfl (rd_block (hs.is_at 1 rfl).2 2 1 rfl) (by simp [Value.oneCell']) (by omega) rfl ?_
          intro A72 c73 w74 hs
          replace hs := hs.erase 1
          simp only [List.cons_append, List.nil_append, List.eraseIdx_cons_zero, List.eraseIdx_cons_succ] at hs
          replace hs := hs.front 2 rfl
          simp only [List.cons_append, List.nil_append, List.eraseIdx_cons_zero, List.eraseIdx_cons_succ] at hs
          replace hs := hs.front 4 rfl
          simp only [List.cons_append, List.nil_append, List.eraseIdx_cons_zero, List.eraseIdx_cons_succ] at hs
          have hrf : bput dO (fun _ => 80) sQ dQ (lF ++ [((pq : Int), x1)]) = (91, sQ, dQ) := by
            have h8 : bfault sQ.tb.length (lF ++ [((pq : Int), x1)]) = 91 := by rw [hpgQ.l8]; exact refuse_page hgF (by omega)
            rw [PGb.refuse hdnQ henQ (by rw [h8]; decide), h8]
          refine Ls_call Try.func26 nm26 rfl rfl (BPut_g w w74 _ bj b0 sQ dQ hs ⟨hpgQ.rows, by rw [hpgQ.n]; decide⟩ (by rw [hpgQ.n]; exact hpgQ.inv) _ _ _ (vF ++ [((pq : Int), A1, n1, c1)]) (lF ++ [((pq : Int), x1)]) (fun w' X q => (PWp.snoc (PWp.inB hpF q) (hr1.inB q)).with_ (by have h9 := q.rd_at 1 rfl; first | exact h9 | (rw [flatKW_snoc]; exact h9) | (simpa [El.flat, KW] using h9))) (PWok.snoc hgF.ok ⟨⟨by omega, by omega⟩, hb1, hz1⟩) (by omega)) rfl ?_
          rintro v75 w76 ⟨rfl, hs⟩
          simp only [hrf] at hs ⊢
          refine Ls_run (run_move rfl) rfl ?_
          refine Ls_run (run_asB (c := false) (run_neq rfl rfl) (by decide)) rfl ?_
          refine Ls_run (run_move rfl) rfl ?_
          refine Ls_on rfl rfl ?_
          refine Ls_run (run_move rfl) rfl ?_
          refine Ls_on rfl rfl ?_
          replace hs := hs.front 1 rfl
          simp only [List.cons_append, List.nil_append, List.eraseIdx_cons_zero, List.eraseIdx_cons_succ] at hs
          refine Ls_call Try.func28 nm28 rfl rfl (Image_c w w76 _ b0 dQ hs (fun r hr => (hpgQ.rows r hr).2) (by rw [hpgQ.n]; decide)) rfl ?_
          rintro v77 w78 ⟨Ib, ib, vb, rfl, hvb, hs⟩
          replace hs := Sat.toKeep (F := fun w => Rd w Ib dQ.bl.length ib 1 (El.val.flat vb) ∧ PartsK (El.int .u8) w vb dQ.bl) (fun B w z => ⟨z.rd_at 0 rfl, Sat.parts (pre := [_]) z hvb⟩) hs
          refine Ls_on rfl rfl ?_
          refine Ls_run (run_move rfl) rfl ?_
          refine Ls_on rfl rfl ?_
          refine Ls_call Try.func29 nm29 rfl rfl (images9_c w78 _ _ _ vb dQ.bl _ _ _ va dQ.bl (hs.kept 0 rfl).1 (hs.kept 4 rfl).1 (hs.kept 0 rfl).2 (hs.kept 4 rfl).2 (fun x hx => (hpgQ.rows x hx).1) (fun x hx => (hpgQ.rows x hx).1) (by rw [hpgQ.n]; decide)) rfl ?_
          rintro v79 w80 ⟨rfl, hsI⟩
          replace hs := hs.trans hsI
          simp only [List.nil_append] at hs
          rw [decide_eq_true rfl]
          refine Ls_on rfl rfl ?_
          refine Ls_run (run_not rfl) rfl ?_
          refine Ls_run (run_pick_f rfl rfl) rfl ?_
          refine Ls_run (run_move rfl) rfl ?_
          refine Ls_on rfl rfl ?_
          refine Ls_run (run_move rfl) rfl ?_
          refine Ls_on rfl rfl ?_
          refine Ls_run (run_as (run_load_agg agg50 inf50 rfl (show (((SW (withL W lF)).drop 0).take 8).length = 8 by rw [SW_take (by rw [withL_len]; exact hWl), SW_len]; exact (by rw [withL_len]; exact hWl)) (hs.blk_cells 5 rfl 0 8)) (show _ = Value.agg (SW (withL W lF)).toArray by rw [SW_take (by rw [withL_len]; exact hWl)])) rfl ?_
          refine Ls_on rfl rfl ?_
          replace hs := hs.front 1 rfl
          simp only [List.cons_append, List.nil_append, List.eraseIdx_cons_zero, List.eraseIdx_cons_succ] at hs
          replace hs := hs.front 2 rfl
          simp only [List.cons_append, List.nil_append, List.eraseIdx_cons_zero, List.eraseIdx_cons_succ] at hs
          refine Ls_call Try.func30 nm30 rfl rfl (holds_c w w80 _ bj b0 sQ dQ (withL W lF) hs hpgQ hdnQ henQ (withL_bytes _ _ hWb (fun x hx => (hgF.2 x hx).2.1))) rfl ?_
          rintro v81 w82 ⟨dX, rfl, hsmX, hs⟩
          refine Ls_on rfl rfl ?_
          refine Ls_run (run_not rfl) rfl ?_
          refine Ls_run (run_pick_f rfl rfl) rfl ?_
          refine Ls_nil ?_
          refine Jm_seq ?_
          refine St_iff rfl ?_
          refine St_skip ?_
          refine Jm_block_normal (Jm_seq ?_)
          refine St_region ?_
          refine Ls_run (run_move rfl) rfl ?_
          refine Ls_run (run_add rfl rfl (w64 (by omega))) rfl ?_
          refine Ls_run (run_assign rfl) rfl ?_
          refine Ls_nil ?_
          replace hs := hs.erase 2
          simp only [List.cons_append, List.nil_append, List.eraseIdx_cons_zero, List.eraseIdx_cons_succ] at hs
          replace hs := hs.erase 2
          simp only [List.cons_append, List.nil_append, List.eraseIdx_cons_zero, List.eraseIdx_cons_succ] at hs
          replace hs := hs.erase 2
          simp only [List.cons_append, List.nil_append, List.eraseIdx_cons_zero, List.eraseIdx_cons_succ] at hs
          replace hs := hs.erase 3
          simp only [List.cons_append, List.nil_append, List.eraseIdx_cons_zero, List.eraseIdx_cons_succ] at hs
          refine Jm_round (i + 1, sQ, dX, (withL W lF), pq, (Value.slice A1 n1 c1)) ?_ ?_ ?_
          · rw [hEn11]; exact (subE_cons rfl (subE_cons rfl (subE_cons rfl (subE_cons rfl (subE_cons rfl (subE_cons rfl (subE_cons rfl subE_nil)))))))
          · skip
            rw [hIv12]
            exact ⟨hs, ⟨by rw [hsmX.1]; exact hpgQ, hsmX.2.1.trans hdnQ, hsmX.2.2.trans (harQ.trans har), henQ, by omega⟩, by omega, withL_bytes _ _ hWb (fun x hx => (hgF.2 x hx).2.1), by omega, ⟨_, _, _, rfl⟩, .inl rfl⟩
          · skip
            rw [hms13, hms13]
            omega
      · skip
        refine St_seq ?_
        refine St_region ?_
        refine Ls_run (run_eql rfl rfl) rfl ?_
        refine Ls_run (run_assign rfl) rfl ?_
        refine Ls_nil ?_
        refine Jm_seq ?_
        refine St_ifP rfl (fun h84 => ?_) (fun h84 => ?_)
        · skip
          have hsq1 := hsqo.resolve_right (by omega)
          subst hsq1
          refine St_seq ?_
          refine St_region ?_
          refine Ls_run (run_assign rfl) rfl ?_
          refine Ls_nil ?_
          refine Jm_seq ?_
          refine St_seq ?_
          refine St_seq ?_
          refine St_region ?_
          refine Ls_run (run_move rfl) rfl ?_
          refine Ls_run (run_len Try.underlying51 rfl) rfl ?_
          refine Ls_run (run_eql rfl rfl) rfl ?_
          refine Ls_nil ?_
          refine Jm_seq ?_
          refine St_ifP rfl (fun h85 => ?_) (fun h85 => ?_)
          · skip
            refine St_exit ?_
            refine Jm_then_exit (Jm_block_ne rfl (Jm_then_exit (Jm_block_same (Jm_seq ?_))))
            refine St_region ?_
            refine Ls_run (run_move rfl) rfl ?_
            refine Ls_run (run_add rfl rfl (w64 (by omega))) rfl ?_
            refine Ls_run (run_assign rfl) rfl ?_
            refine Ls_nil ?_
            replace hs := hs.erase 0
            simp only [List.cons_append, List.nil_append, List.eraseIdx_cons_zero, List.eraseIdx_cons_succ] at hs
            replace hs := hs.erase 0
            simp only [List.cons_append, List.nil_append, List.eraseIdx_cons_zero, List.eraseIdx_cons_succ] at hs
            replace hs := hs.erase 3
            simp only [List.cons_append, List.nil_append, List.eraseIdx_cons_zero, List.eraseIdx_cons_succ] at hs
            replace hs := hs.front 3 rfl
            simp only [List.cons_append, List.nil_append, List.eraseIdx_cons_zero, List.eraseIdx_cons_succ] at hs
            replace hs := hs.front 2 rfl
            simp only [List.cons_append, List.nil_append, List.eraseIdx_cons_zero, List.eraseIdx_cons_succ] at hs
            replace hs := hs.front 2 rfl
            simp only [List.cons_append, List.nil_append, List.eraseIdx_cons_zero, List.eraseIdx_cons_succ] at hs
            replace hs := hs.front 3 rfl
            simp only [List.cons_append, List.nil_append, List.eraseIdx_cons_zero, List.eraseIdx_cons_succ] at hs
            refine Jm_round (i + 1, sQ, dQ, (withL W lF), pq, (Value.slice A1 n1 c1)) ?_ ?_ ?_
            · rw [hEn11]; exact (subE_cons rfl (subE_cons rfl (subE_cons rfl (subE_cons rfl (subE_cons rfl (subE_cons rfl (subE_cons rfl subE_nil)))))))
            · skip
              rw [hIv12]
              exact ⟨hs, ⟨hpgQ, hdnQ, harQ.trans har, henQ, by omega⟩, by omega, withL_bytes _ _ hWb (fun x hx => (hgF.2 x hx).2.1), hpq, ⟨_, _, _, rfl⟩, .inl rfl⟩
            · skip
              rw [hms13, hms13]
              omega
          · skip
            refine St_skip ?_
            refine Jm_seq ?_
            refine St_region ?_
            refine Ls_run (run_move rfl) rfl ?_
            obtain ⟨⟨p0, A0x, n0x, c0x⟩, hv0⟩ : ∃ q, vF.getD 0 (0, none, 0, 0) = q := ⟨_, rfl⟩
            have hp0 := (hpF.2 0 (by omega)).1
            rw [hv0] at hp0
            simp only at hp0
            have hp8 := (hgF.2 _ (wmem (ws := lF) (i := 0) (by omega))).1
            rw [← hp0] at hp8
            refine Ls_index (KW) (hs.rd_at 5 rfl) Try.underlying51 inf45 rfl rfl (by omega) (by omega) hv0 rfl ?_
            intro b86 o87 hc88
            refine Ls_run (run_field Try.underlying45 rfl inf3 (by decide) rfl) rfl ?_
            refine Ls_run (run_load sc3 rfl (hc88 0 _ rfl)) rfl ?_
            refine Ls_run (run_as (run_field Try.underlying45 rfl inf3 (by decide) rfl) (show _ = Value.pointer (some ⟨b2, 0, none⟩) from rfl)) rfl ?_
            replace hs := hs.front 6 rfl
            simp only [List.cons_append, List.nil_append, List.eraseIdx_cons_zero, List.eraseIdx_cons_succ] at hs
            refine Ls_store hs inf3 rfl rfl rfl rfl ?_
            intro w89 hs
            try simp only [List.set_cons_zero, List.set_cons_succ] at hs
            refine Ls_nil ?_
            refine Jm_block_normal (Jm_seq ?_)
            refine St_seq ?_
            refine St_region ?_
            refine Ls_run (run_move rfl) rfl ?_
            refine Ls_run (run_move rfl) rfl ?_
            refine Ls_run (run_load_agg agg45 inf45 rfl rfl (hs.blk_cells 0 rfl 0 2)) rfl ?_
            refine Ls_literal [_] hs Try.underlying51 inf45 rfl rfl rfl rfl rfl rfl ?_
            intro b90 w91 hs
            simp only [List.flatMap_cons, List.flatMap_nil, Value.cells, List.cons_append, List.nil_append] at hs
            replace hs := hs.front 2 rfl
            simp only [List.cons_append, List.nil_append, List.eraseIdx_cons_zero, List.eraseIdx_cons_succ] at hs
            refine Ls_append hs Try.underlying51 inf45 rfl (by decide) (by decide) rfl rfl (rd_block (hs.is_at 1 rfl).2 2 1 rfl) (by simp [Value.oneCell']) (by omega) rfl ?_
            intro A92 c93 w94 hs
            replace hs := hs.erase 1
            simp only [List.cons_append, List.nil_append, List.eraseIdx_cons_zero, List.eraseIdx_cons_succ] at hs
            replace hs := hs.front 3 rfl
            simp only [List.cons_append, List.nil_append, List.eraseIdx_cons_zero, List.eraseIdx_cons_succ] at hs
            replace hs := hs.front 5 rfl
            simp only [List.cons_append, List.nil_append, List.eraseIdx_cons_zero, List.eraseIdx_cons_succ] at hs
            have hrf : bput dO (fun _ => 80) sQ dQ (lF ++ [((p0 : Int), x1)]) = (93, sQ, dQ) := by
              have h8 : bfault sQ.tb.length (lF ++ [((p0 : Int), x1)]) = 93 := by rw [hpgQ.l8]; exact refuse_twice hgF (by omega) hp0
              rw [PGb.refuse hdnQ henQ (by rw [h8]; decide), h8]
            refine Ls_call Try.func26 nm26 rfl rfl (BPut_g w w94 _ bj b0 sQ dQ hs ⟨hpgQ.rows, by rw [hpgQ.n]; decide⟩ (by rw [hpgQ.n]; exact hpgQ.inv) _ _ _ (vF ++ [((p0 : Int), A1, n1, c1)]) (lF ++ [((p0 : Int), x1)]) (fun w' X q => (PWp.snoc (PWp.inB hpF q) (hr1.inB q)).with_ (by have h9 := q.rd_at 1 rfl; first | exact h9 | (rw [flatKW_snoc]; exact h9) | (simpa [El.flat, KW] using h9))) (PWok.snoc hgF.ok ⟨⟨by omega, by omega⟩, hb1, hz1⟩) (by omega)) rfl ?_
            rintro v95 w96 ⟨rfl, hs⟩
            simp only [hrf] at hs ⊢
            refine Ls_run (run_move rfl) rfl ?_
            refine Ls_run (run_asB (c := false) (run_neq rfl rfl) (by decide)) rfl ?_
            refine Ls_run (run_move rfl) rfl ?_
            refine Ls_on rfl rfl ?_
            refine Ls_run (run_move rfl) rfl ?_
            refine Ls_on rfl rfl ?_
            replace hs := hs.front 1 rfl
            simp only [List.cons_append, List.nil_append, List.eraseIdx_cons_zero, List.eraseIdx_cons_succ] at hs
            refine Ls_call Try.func28 nm28 rfl rfl (Image_c w w96 _ b0 dQ hs (fun r hr => (hpgQ.rows r hr).2) (by rw [hpgQ.n]; decide)) rfl ?_
            rintro v97 w98 ⟨Ib, ib, vb, rfl, hvb, hs⟩
            replace hs := Sat.toKeep (F := fun w => Rd w Ib dQ.bl.length ib 1 (El.val.flat vb) ∧ PartsK (El.int .u8) w vb dQ.bl) (fun B w z => ⟨z.rd_at 0 rfl, Sat.parts (pre := [_]) z hvb⟩) hs
            refine Ls_on rfl rfl ?_
            refine Ls_run (run_move rfl) rfl ?_
            refine Ls_on rfl rfl ?_
            refine Ls_call Try.func29 nm29 rfl rfl (images9_c w98 _ _ _ vb dQ.bl _ _ _ va dQ.bl (hs.kept 0 rfl).1 (hs.kept 5 rfl).1 (hs.kept 0 rfl).2 (hs.kept 5 rfl).2 (fun x hx => (hpgQ.rows x hx).1) (fun x hx => (hpgQ.rows x hx).1) (by rw [hpgQ.n]; decide)) rfl ?_
            rintro v99 w100 ⟨rfl, hsI⟩
            replace hs := hs.trans hsI
            simp only [List.nil_append] at hs
            rw [decide_eq_true rfl]
            refine Ls_on rfl rfl ?_
            refine Ls_run (run_not rfl) rfl ?_
            refine Ls_run (run_pick_f rfl rfl) rfl ?_
            refine Ls_run (run_move rfl) rfl ?_
            refine Ls_on rfl rfl ?_
            refine Ls_run (run_move rfl) rfl ?_
            refine Ls_on rfl rfl ?_
            refine Ls_run (run_as (run_load_agg agg50 inf50 rfl (show (((SW (withL W lF)).drop 0).take 8).length = 8 by rw [SW_take (by rw [withL_len]; exact hWl), SW_len]; exact (by rw [withL_len]; exact hWl)) (hs.blk_cells 6 rfl 0 8)) (show _ = Value.agg (SW (withL W lF)).toArray by rw [SW_take (by rw [withL_len]; exact hWl)])) rfl ?_
            refine Ls_on rfl rfl ?_
            replace hs := hs.front 1 rfl
            simp only [List.cons_append, List.nil_append, List.eraseIdx_cons_zero, List.eraseIdx_cons_succ] at hs
            replace hs := hs.front 2 rfl
            simp only [List.cons_append, List.nil_append, List.eraseIdx_cons_zero, List.eraseIdx_cons_succ] at hs
            refine Ls_call Try.func30 nm30 rfl rfl (holds_c w w100 _ bj b0 sQ dQ (withL W lF) hs hpgQ hdnQ henQ (withL_bytes _ _ hWb (fun x hx => (hgF.2 x hx).2.1))) rfl ?_
            rintro v101 w102 ⟨dX, rfl, hsmX, hs⟩
            refine Ls_on rfl rfl ?_
            refine Ls_run (run_not rfl) rfl ?_
            refine Ls_run (run_pick_f rfl rfl) rfl ?_
            refine Ls_nil ?_
            refine Jm_seq ?_
            refine St_iff rfl ?_
            refine St_skip ?_
            refine Jm_block_normal (Jm_seq ?_)
            refine St_region ?_
            refine Ls_run (run_move rfl) rfl ?_
            refine Ls_run (run_add rfl rfl (w64 (by omega))) rfl ?_
            refine Ls_run (run_assign rfl) rfl ?_
            refine Ls_nil ?_
            replace hs := hs.erase 2
            simp only [List.cons_append, List.nil_append, List.eraseIdx_cons_zero, List.eraseIdx_cons_succ] at hs
            replace hs := hs.erase 2
            simp only [List.cons_append, List.nil_append, List.eraseIdx_cons_zero, List.eraseIdx_cons_succ] at hs
            replace hs := hs.erase 3
            simp only [List.cons_append, List.nil_append, List.eraseIdx_cons_zero, List.eraseIdx_cons_succ] at hs
            replace hs := hs.erase 4
            simp only [List.cons_append, List.nil_append, List.eraseIdx_cons_zero, List.eraseIdx_cons_succ] at hs
            replace hs := hs.front 2 rfl
            simp only [List.cons_append, List.nil_append, List.eraseIdx_cons_zero, List.eraseIdx_cons_succ] at hs
            replace hs := hs.front 3 rfl
            simp only [List.cons_append, List.nil_append, List.eraseIdx_cons_zero, List.eraseIdx_cons_succ] at hs
            replace hs := hs.front 3 rfl
            simp only [List.cons_append, List.nil_append, List.eraseIdx_cons_zero, List.eraseIdx_cons_succ] at hs
            replace hs := hs.front 3 rfl
            simp only [List.cons_append, List.nil_append, List.eraseIdx_cons_zero, List.eraseIdx_cons_succ] at hs
            refine Jm_round (i + 1, sQ, dX, (withL W lF), p0, (Value.slice A1 n1 c1)) ?_ ?_ ?_
            · rw [hEn11]; exact (subE_cons rfl (subE_cons rfl (subE_cons rfl (subE_cons rfl (subE_cons rfl (subE_cons rfl (subE_cons rfl subE_nil)))))))
            · skip
              rw [hIv12]
              exact ⟨hs, ⟨by rw [hsmX.1]; exact hpgQ, hsmX.2.1.trans hdnQ, hsmX.2.2.trans (harQ.trans har), henQ, by omega⟩, by omega, withL_bytes _ _ hWb (fun x hx => (hgF.2 x hx).2.1), by omega, ⟨_, _, _, rfl⟩, .inl rfl⟩
            · skip
              rw [hms13, hms13]
              omega
        · skip
          have hu3 : u % 3 = 2 := by omega
          refine St_seq ?_
          refine St_region ?_
          refine Ls_run (run_assign rfl) rfl ?_
          refine Ls_nil ?_
          refine Jm_seq ?_
          refine St_seq ?_
          refine St_region ?_
          refine Ls_run (run_move rfl) rfl ?_
          refine Ls_run (run_as (run_slice_h Try.underlying51 inf45 rfl rfl (by omega) (by omega)) (show _ = Value.slice _ 0 _ from rfl)) rfl ?_
          replace hs := hs.own_shrink 0 (by omega)
          simp only [Nat.zero_mul, List.take_zero] at hs
          refine Ls_run (run_assign rfl) rfl ?_
          refine Ls_nil ?_
          refine Jm_seq ?_
          refine St_region ?_
          refine Ls_make (m := 1025) hs Try.underlying28 infq5 rfl rfl rfl (by omega) (by omega) rfl ?_
          intro b104 w105 hs
          refine Ls_run (run_buildO (pv := [(0, _), (1, _)]) rfl (bld45_0_1 _ _ _ _)) rfl ?_
          replace hs := hs.front 7 rfl
          simp only [List.cons_append, List.nil_append, List.eraseIdx_cons_zero, List.eraseIdx_cons_succ] at hs
          refine Ls_storeAgg hs inf45 rfl rfl rfl rfl (by simp [Value.oneCell', Value.cells, bcells, qcells, KW]) ?_
          intro w106 hs
          refine Ls_nil ?_
          refine Jm_block_normal (Jm_seq ?_)
          refine St_seq ?_
          refine St_region ?_
          refine Ls_run (run_move rfl) rfl ?_
          refine Ls_run (run_move rfl) rfl ?_
          refine Ls_run (run_load_agg agg45 inf45 rfl rfl (hs.blk_cells 0 rfl 0 2)) rfl ?_
          refine Ls_literal [_] hs Try.underlying51 inf45 rfl rfl rfl rfl rfl rfl ?_
          intro b107 w108 hs
          simp only [List.flatMap_cons, List.flatMap_nil, Value.cells, List.cons_append, List.nil_append] at hs
          replace hs := hs.front 3 rfl
          simp only [List.cons_append, List.nil_append, List.eraseIdx_cons_zero, List.eraseIdx_cons_succ] at hs
          refine Ls_append hs Try.underlying51 inf45 rfl (by decide) (by decide) rfl rfl (rd_block (hs.is_at 1 rfl).2 2 1 rfl) (by simp [Value.oneCell']) (by omega) rfl ?_
          intro A109 c110 w111 hs
          replace hs := hs.erase 1
          simp only [List.cons_append, List.nil_append, List.eraseIdx_cons_zero, List.eraseIdx_cons_succ] at hs
          replace hs := hs.front 4 rfl
          simp only [List.cons_append, List.nil_append, List.eraseIdx_cons_zero, List.eraseIdx_cons_succ] at hs
          replace hs := hs.front 6 rfl
          simp only [List.cons_append, List.nil_append, List.eraseIdx_cons_zero, List.eraseIdx_cons_succ] at hs
          have hrf : bput dO (fun _ => 80) sQ dQ ([] ++ [((3 : Int), List.replicate 1025 (0 : Int))]) = (6, sQ, dQ) := by
            have h8 : bfault sQ.tb.length ([] ++ [((3 : Int), List.replicate 1025 (0 : Int))]) = 6 := by rw [hpgQ.l8]; exact refuse_long
            rw [PGb.refuse hdnQ henQ (by rw [h8]; decide), h8]
          refine Ls_call Try.func26 nm26 rfl rfl (BPut_g w w111 _ bj b0 sQ dQ hs ⟨hpgQ.rows, by rw [hpgQ.n]; decide⟩ (by rw [hpgQ.n]; exact hpgQ.inv) _ _ _ ([] ++ [((3 : Int), some ⟨b104, 0, none⟩, 1025, 1025)]) ([] ++ [((3 : Int), List.replicate 1025 (0 : Int))]) (fun w' X q => (PWp.snoc (PWp.nil _) (show Rd _ _ _ _ 1 (bytesV (List.replicate 1025 (0 : Int))) from by rw [← rep_bytesV]; exact q.rd_at 3 rfl)).with_ (by have h9 := q.rd_at 1 rfl; first | exact h9 | (rw [flatKW_snoc]; exact h9) | (simpa [El.flat, KW] using h9))) (fun x hx => by rw [List.nil_append, List.mem_singleton] at hx; subst hx; exact ⟨by omega, rep_isB 1025, by simp⟩) (by omega)) rfl ?_
          rintro v112 w113 ⟨rfl, hs⟩
          simp only [hrf] at hs ⊢
          refine Ls_run (run_move rfl) rfl ?_
          refine Ls_run (run_asB (c := false) (run_neq rfl rfl) (by decide)) rfl ?_
          refine Ls_run (run_move rfl) rfl ?_
          refine Ls_on rfl rfl ?_
          refine Ls_run (run_move rfl) rfl ?_
          refine Ls_on rfl rfl ?_
          replace hs := hs.front 1 rfl
          simp only [List.cons_append, List.nil_append, List.eraseIdx_cons_zero, List.eraseIdx_cons_succ] at hs
          refine Ls_call Try.func28 nm28 rfl rfl (Image_c w w113 _ b0 dQ hs (fun r hr => (hpgQ.rows r hr).2) (by rw [hpgQ.n]; decide)) rfl ?_
          rintro v114 w115 ⟨Ib, ib, vb, rfl, hvb, hs⟩
          replace hs := Sat.toKeep (F := fun w => Rd w Ib dQ.bl.length ib 1 (El.val.flat vb) ∧ PartsK (El.int .u8) w vb dQ.bl) (fun B w z => ⟨z.rd_at 0 rfl, Sat.parts (pre := [_]) z hvb⟩) hs
          refine Ls_on rfl rfl ?_
          refine Ls_run (run_move rfl) rfl ?_
          refine Ls_on rfl rfl ?_
          refine Ls_call Try.func29 nm29 rfl rfl (images9_c w115 _ _ _ vb dQ.bl _ _ _ va dQ.bl (hs.kept 0 rfl).1 (hs.kept 6 rfl).1 (hs.kept 0 rfl).2 (hs.kept 6 rfl).2 (fun x hx => (hpgQ.rows x hx).1) (fun x hx => (hpgQ.rows x hx).1) (by rw [hpgQ.n]; decide)) rfl ?_
          rintro v116 w117 ⟨rfl, hsI⟩
          replace hs := hs.trans hsI
          simp only [List.nil_append] at hs
          rw [decide_eq_true rfl]
          refine Ls_on rfl rfl ?_
          refine Ls_run (run_not rfl) rfl ?_
          refine Ls_run (run_pick_f rfl rfl) rfl ?_
          refine Ls_run (run_move rfl) rfl ?_
          refine Ls_on rfl rfl ?_
          refine Ls_run (run_move rfl) rfl ?_
          refine Ls_on rfl rfl ?_
          refine Ls_run (run_as (run_load_agg agg50 inf50 rfl (show (((SW (withL W lF)).drop 0).take 8).length = 8 by rw [SW_take (by rw [withL_len]; exact hWl), SW_len]; exact (by rw [withL_len]; exact hWl)) (hs.blk_cells 7 rfl 0 8)) (show _ = Value.agg (SW (withL W lF)).toArray by rw [SW_take (by rw [withL_len]; exact hWl)])) rfl ?_
          refine Ls_on rfl rfl ?_
          replace hs := hs.front 1 rfl
          simp only [List.cons_append, List.nil_append, List.eraseIdx_cons_zero, List.eraseIdx_cons_succ] at hs
          replace hs := hs.front 2 rfl
          simp only [List.cons_append, List.nil_append, List.eraseIdx_cons_zero, List.eraseIdx_cons_succ] at hs
          refine Ls_call Try.func30 nm30 rfl rfl (holds_c w w117 _ bj b0 sQ dQ (withL W lF) hs hpgQ hdnQ henQ (withL_bytes _ _ hWb (fun x hx => (hgF.2 x hx).2.1))) rfl ?_
          rintro v118 w119 ⟨dX, rfl, hsmX, hs⟩
          refine Ls_on rfl rfl ?_
          refine Ls_run (run_not rfl) rfl ?_
          refine Ls_run (run_pick_f rfl rfl) rfl ?_
          refine Ls_nil ?_
          refine Jm_seq ?_
          refine St_iff rfl ?_
          refine St_skip ?_
          refine Jm_block_normal (Jm_seq ?_)
          refine St_region ?_
          refine Ls_run (run_move rfl) rfl ?_
          refine Ls_run (run_add rfl rfl (w64 (by omega))) rfl ?_
          refine Ls_run (run_assign rfl) rfl ?_
          refine Ls_nil ?_
          replace hs := hs.erase 2
          simp only [List.cons_append, List.nil_append, List.eraseIdx_cons_zero, List.eraseIdx_cons_succ] at hs
          replace hs := hs.erase 2
          simp only [List.cons_append, List.nil_append, List.eraseIdx_cons_zero, List.eraseIdx_cons_succ] at hs
          replace hs := hs.erase 3
          simp only [List.cons_append, List.nil_append, List.eraseIdx_cons_zero, List.eraseIdx_cons_succ] at hs
          replace hs := hs.erase 3
          simp only [List.cons_append, List.nil_append, List.eraseIdx_cons_zero, List.eraseIdx_cons_succ] at hs
          replace hs := hs.erase 4
          simp only [List.cons_append, List.nil_append, List.eraseIdx_cons_zero, List.eraseIdx_cons_succ] at hs
          replace hs := hs.front 2 rfl
          simp only [List.cons_append, List.nil_append, List.eraseIdx_cons_zero, List.eraseIdx_cons_succ] at hs
          replace hs := hs.front 3 rfl
          simp only [List.cons_append, List.nil_append, List.eraseIdx_cons_zero, List.eraseIdx_cons_succ] at hs
          replace hs := hs.front 3 rfl
          simp only [List.cons_append, List.nil_append, List.eraseIdx_cons_zero, List.eraseIdx_cons_succ] at hs
          replace hs := hs.front 3 rfl
          simp only [List.cons_append, List.nil_append, List.eraseIdx_cons_zero, List.eraseIdx_cons_succ] at hs
          refine Jm_round (i + 1, sQ, dX, (withL W lF), 3, (Value.slice (some ⟨b104, 0, none⟩) 1025 1025)) ?_ ?_ ?_
          · rw [hEn11]; exact (subE_cons rfl (subE_cons rfl (subE_cons rfl (subE_cons rfl (subE_cons rfl (subE_cons rfl (subE_cons rfl subE_nil)))))))
          · skip
            rw [hIv12]
            exact ⟨hs, ⟨by rw [hsmX.1]; exact hpgQ, hsmX.2.1.trans hdnQ, hsmX.2.2.trans (harQ.trans har), henQ, by omega⟩, by omega, withL_bytes _ _ hWb (fun x hx => (hgF.2 x hx).2.1), by omega, ⟨_, _, _, rfl⟩, .inr (by omega)⟩
          · skip
            rw [hms13, hms13]
            omega
    · skip
      refine St_exit ?_
      refine Jm_then_exit (Jm_then_exit (Jm_block_same (Jm_seq ?_)))
      refine St_seq ?_
      refine St_region ?_
      refine Ls_run (run_move rfl) rfl ?_
      replace hs := hs.front 1 rfl
      simp only [List.cons_append, List.nil_append, List.eraseIdx_cons_zero, List.eraseIdx_cons_succ] at hs
      replace hs := hs.front 1 rfl
      simp only [List.cons_append, List.nil_append, List.eraseIdx_cons_zero, List.eraseIdx_cons_succ] at hs
      have hg1 : bget dO s d (-1) = ([], 91, s, d) := by rw [bget_91 (o := dO) (by rw [bend_on hen hdn, hen]; decide) (by rw [hpg.l8]; omega), bend_on hen hdn]
      refine Ls_call Try.func31 nm31 rfl rfl (BGet_g w wr _ bj b0 s d hs ⟨hpg.rows, by rw [hpg.n]; decide⟩ (by rw [hpg.l8]; decide) (-1)) rfl ?_
      rintro v121 w122 ⟨Ag1, cg1, rfl, hs⟩
      simp only [hg1] at hs ⊢
      refine Ls_run (run_move rfl) rfl ?_
      refine Ls_run (run_extract rfl rfl) rfl ?_
      refine Ls_run (run_extract rfl rfl) rfl ?_
      refine Ls_run (run_assign rfl) rfl ?_
      refine Ls_run (run_assign rfl) rfl ?_
      refine Ls_nil ?_
      refine Jm_seq ?_
      refine St_seq ?_
      refine St_region ?_
      refine Ls_run (run_move rfl) rfl ?_
      replace hs := hs.front 1 rfl
      simp only [List.cons_append, List.nil_append, List.eraseIdx_cons_zero, List.eraseIdx_cons_succ] at hs
      replace hs := hs.front 1 rfl
      simp only [List.cons_append, List.nil_append, List.eraseIdx_cons_zero, List.eraseIdx_cons_succ] at hs
      have hg2 : bget dO s d (8) = ([], 91, s, d) := by rw [bget_91 (o := dO) (by rw [bend_on hen hdn, hen]; decide) (by rw [hpg.l8]; omega), bend_on hen hdn]
      refine Ls_call Try.func31 nm31 rfl rfl (BGet_g w w122 _ bj b0 s d hs ⟨hpg.rows, by rw [hpg.n]; decide⟩ (by rw [hpg.l8]; decide) (8)) rfl ?_
      rintro v123 w124 ⟨Ag2, cg2, rfl, hs⟩
      simp only [hg2] at hs ⊢
      refine Ls_run (run_move rfl) rfl ?_
      refine Ls_run (run_extract rfl rfl) rfl ?_
      refine Ls_run (run_extract rfl rfl) rfl ?_
      refine Ls_run (run_assign rfl) rfl ?_
      refine Ls_run (run_assign rfl) rfl ?_
      refine Ls_nil ?_
      refine Jm_seq ?_
      refine St_seq ?_
      refine St_region ?_
      refine Ls_run (run_move rfl) rfl ?_
      refine Ls_run (run_asB (c := true) (run_eql rfl rfl) (by decide)) rfl ?_
      refine Ls_run (run_move rfl) rfl ?_
      refine Ls_on rfl rfl ?_
      refine Ls_run (run_move rfl) rfl ?_
      refine Ls_on rfl rfl ?_
      refine Ls_run (run_asB (c := true) (run_eql rfl rfl) (by decide)) rfl ?_
      refine Ls_run (run_pick_t rfl rfl) rfl ?_
      refine Ls_run (run_assign rfl) rfl ?_
      refine Ls_nil ?_
      refine Jm_seq ?_
      refine St_ret ?_
      refine Jm_ret1 rfl rfl ?_
      exact ⟨_, rfl, rfl, hs.below⟩
  · skip
    refine Ls_off rfl rfl rfl rfl ?_
    refine Ls_off rfl rfl rfl rfl ?_
    refine Ls_run (run_pick_f rfl rfl) rfl ?_
    refine Ls_nil ?_
    refine Jm_seq ?_
    refine St_iff rfl ?_
    refine St_exit ?_
    refine Jm_then_exit (Jm_then_exit (Jm_block_same (Jm_seq ?_)))
    refine St_seq ?_
    refine St_region ?_
    refine Ls_run (run_move rfl) rfl ?_
    replace hs := hs.front 1 rfl
    simp only [List.cons_append, List.nil_append, List.eraseIdx_cons_zero, List.eraseIdx_cons_succ] at hs
    replace hs := hs.front 1 rfl
    simp only [List.cons_append, List.nil_append, List.eraseIdx_cons_zero, List.eraseIdx_cons_succ] at hs
    have hg1 : bget dO s d (-1) = ([], 91, s, d) := by rw [bget_91 (o := dO) (by rw [bend_on hen hdn, hen]; decide) (by rw [hpg.l8]; omega), bend_on hen hdn]
    refine Ls_call Try.func31 nm31 rfl rfl (BGet_g w wr _ bj b0 s d hs ⟨hpg.rows, by rw [hpg.n]; decide⟩ (by rw [hpg.l8]; decide) (-1)) rfl ?_
    rintro v126 w127 ⟨Ag1, cg1, rfl, hs⟩
    simp only [hg1] at hs ⊢
    refine Ls_run (run_move rfl) rfl ?_
    refine Ls_run (run_extract rfl rfl) rfl ?_
    refine Ls_run (run_extract rfl rfl) rfl ?_
    refine Ls_run (run_assign rfl) rfl ?_
    refine Ls_run (run_assign rfl) rfl ?_
    refine Ls_nil ?_
    refine Jm_seq ?_
    refine St_seq ?_
    refine St_region ?_
    refine Ls_run (run_move rfl) rfl ?_
    replace hs := hs.front 1 rfl
    simp only [List.cons_append, List.nil_append, List.eraseIdx_cons_zero, List.eraseIdx_cons_succ] at hs
    replace hs := hs.front 1 rfl
    simp only [List.cons_append, List.nil_append, List.eraseIdx_cons_zero, List.eraseIdx_cons_succ] at hs
    have hg2 : bget dO s d (8) = ([], 91, s, d) := by rw [bget_91 (o := dO) (by rw [bend_on hen hdn, hen]; decide) (by rw [hpg.l8]; omega), bend_on hen hdn]
    refine Ls_call Try.func31 nm31 rfl rfl (BGet_g w w127 _ bj b0 s d hs ⟨hpg.rows, by rw [hpg.n]; decide⟩ (by rw [hpg.l8]; decide) (8)) rfl ?_
    rintro v128 w129 ⟨Ag2, cg2, rfl, hs⟩
    simp only [hg2] at hs ⊢
    refine Ls_run (run_move rfl) rfl ?_
    refine Ls_run (run_extract rfl rfl) rfl ?_
    refine Ls_run (run_extract rfl rfl) rfl ?_
    refine Ls_run (run_assign rfl) rfl ?_
    refine Ls_run (run_assign rfl) rfl ?_
    refine Ls_nil ?_
    refine Jm_seq ?_
    refine St_seq ?_
    refine St_region ?_
    refine Ls_run (run_move rfl) rfl ?_
    refine Ls_run (run_asB (c := true) (run_eql rfl rfl) (by decide)) rfl ?_
    refine Ls_run (run_move rfl) rfl ?_
    refine Ls_on rfl rfl ?_
    refine Ls_run (run_move rfl) rfl ?_
    refine Ls_on rfl rfl ?_
    refine Ls_run (run_asB (c := true) (run_eql rfl rfl) (by decide)) rfl ?_
    refine Ls_run (run_pick_t rfl rfl) rfl ?_
    refine Ls_run (run_assign rfl) rfl ?_
    refine Ls_nil ?_
    refine Jm_seq ?_
    refine St_ret ?_
    refine Jm_ret1 rfl rfl ?_
    exact ⟨_, rfl, rfl, hs.below⟩
end Go.Proofs.Ytipkfdeiallifaa.Lg
