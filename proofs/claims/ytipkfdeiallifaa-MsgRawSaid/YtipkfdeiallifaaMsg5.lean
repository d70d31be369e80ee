/-
  Decode, and the closure that catches what gave a reading up. By program (gen/msg5.py).
-/
import Derived.Test.YtipkfdeiallifaaMsg4
set_option linter.unusedVariables false
set_option linter.unusedSimpArgs false
namespace Go.Proofs.Ytipkfdeiallifaa.Lg
open Go Go.RowKit Go.Proofs.Ytipkfdeiallifaa.WirePure
def mh (k : Int) (h : List Int) : List Value := .int .i64 k :: (((h ++ List.replicate (4 - h.length) 0).map fun z => Value.int .i64 z) ++ [.int .i64 0, .slice none 0 0, .slice none 0 0, .slice none 0 0])
theorem mh_len {k : Int} {h : List Int} {i : Nat} (hi : h.length = i) (h4 : i < 4) : Nat.blt (i + 1) (mh k h).length = true := by
  refine Nat.ble_eq_true_of_le ?_
  simp [mh]; omega
theorem mh_set {k x : Int} {h : List Int} {i : Nat} (hi : h.length = i) (h4 : i < 4) : (mh k h).set (i + 1) (.int .i64 x) = mh k (h ++ [x]) := by
  obtain ⟨j, hj⟩ : ∃ j, 4 - h.length = j + 1 := ⟨4 - h.length - 1, by omega⟩
  have hj' : 4 - (h ++ [x]).length = j := by simp; omega
  unfold mh
  rw [hj, hj', List.set_cons_succ, List.replicate_succ, List.map_append, List.map_cons, List.append_assoc, List.set_append_right _ _ (by simp; omega)]
  simp [hi]
theorem list4 {h : List Int} (hl : h.length = 4) : ∃ a b c d, h = [a, b, c, d] := by
  match h, hl with
  | [a, b, c, d], _ => exact ⟨a, b, c, d, rfl⟩
theorem p4_at {g i : Nat} {d : Value} (h : i < 4) : ([.pointer (some ⟨g, 1, none⟩), .pointer (some ⟨g, 2, none⟩), .pointer (some ⟨g, 3, none⟩), .pointer (some ⟨g, 4, none⟩)] : List Value).getD i d = .pointer (some ⟨g, i + 1, none⟩) := by
  have : i = 0 ∨ i = 1 ∨ i = 2 ∨ i = 3 := by omega
  rcases this with rfl | rfl | rfl | rfl <;> rfl
theorem tkd_inv {l r : List Int} {m o x : Int} (ho : o ≠ 0) (h : tkd l m o = (0, x, r)) : (tk 0 0 l).2.2 = 0 ∧ (tk 0 0 l).1 = x ∧ l.drop (tk 0 0 l).2.1.toNat = r := by
  unfold tkd at h
  split at h
  · simp only [Prod.mk.injEq] at h; exact absurd h.1 (by assumption)
  · split at h
    · simp only [Prod.mk.injEq] at h; exact absurd h.1 ho
    · simp only [Prod.mk.injEq] at h; exact ⟨by omega, h.2.1, h.2.2⟩
theorem Mdec_e {l : List Int} {e : Int} (hb : IsBytes l) (h : tkd l 18446744073709551615 4 = (e, 0, [])) (he : e ≠ 0) : Mdec l = (MC0, e) := by
  obtain ⟨⟨x, a, e'⟩, hq⟩ : ∃ q, tk 0 0 l = q := ⟨_, rfl⟩
  unfold tkd at h
  rw [hq] at h
  simp only at h
  by_cases h1 : e' ≠ 0
  · rw [if_pos h1] at h
    simp only [Prod.mk.injEq] at h
    unfold Mdec; rw [hq]; simp only; rw [if_pos h1, h.1]
  · rw [if_neg h1] at h
    have e0 : e' = 0 := by omega
    subst e0
    have := tk_range hb hq
    rw [if_neg (by omega)] at h
    simp only [Prod.mk.injEq] at h
    exact absurd h.1.symm he
theorem Mdec_150 {l r : List Int} {x : Int} (h : tkd l 18446744073709551615 4 = (0, x, r)) (hx : x < 1 ∨ x > 8) : Mdec l = (MC0, 150) := by
  obtain ⟨h1, h2, h3⟩ := tkd_inv (by decide) h
  unfold Mdec; rw [if_neg (by omega), h2, if_pos hx]
theorem Mdec_h {l r : List Int} {x e : Int} (h : tkd l 18446744073709551615 4 = (0, x, r)) (hx : ¬ (x < 1 ∨ x > 8)) (hh : headD 4 r [] = (e, [], [])) (he : e ≠ 0) : Mdec l = (MC0, e) := by
  obtain ⟨h1, h2, h3⟩ := tkd_inv (by decide) h
  unfold Mdec; rw [if_neg (by omega), h2, if_neg hx, h3, hh]; simp only; rw [if_pos he]
theorem Mdec_t {l r q h0 : List Int} {x : Int} (h : tkd l 18446744073709551615 4 = (0, x, r)) (hx : ¬ (x < 1 ∨ x > 8)) (hh : headD 4 r [] = (0, h0, q)) : Mdec l = tailD (mcOf x h0) q := by
  obtain ⟨h1, h2, h3⟩ := tkd_inv (by decide) h
  unfold Mdec; rw [if_neg (by omega), h2, if_neg hx, h3, hh]; simp only; rw [if_neg (by simp)]
theorem tailD_e {x y : MC} {l : List Int} {e : Int} (h : bodyD x l = (e, y, [])) (he : e ≠ 0) : tailD x l = (MC0, e) := by unfold tailD; rw [h]; simp only; rw [if_pos he]
theorem tailD_5 {x y : MC} {l r : List Int} (h : bodyD x l = (0, y, r)) (hr : 0 < r.length) : tailD x l = (MC0, 5) := by
  unfold tailD; rw [h]; simp only; rw [if_neg (by simp), if_pos (fun q => by subst q; simp at hr)]
theorem tailD_150 {x y : MC} {l r : List Int} (h : bodyD x l = (0, y, r)) (hr : ¬ 0 < r.length) (hs : ¬ Msound y) : tailD x l = (MC0, 150) := by
  unfold tailD; rw [h]; simp only; rw [if_neg (by simp), if_neg (fun q => q (List.length_eq_zero_iff.1 (by omega))), if_pos hs]
theorem tailD_ok {x y : MC} {l r : List Int} (h : bodyD x l = (0, y, r)) (hr : ¬ 0 < r.length) (hs : Msound y) : tailD x l = (y, 0) := by
  unfold tailD; rw [h]; simp only; rw [if_neg (by simp), if_neg (fun q => q (List.length_eq_zero_iff.1 (by omega))), if_neg (not_not_intro hs)]
theorem Sat.own_le {B w : World} {T size n : Nat} {v : Value} {xs : List Value} {L : List Assn} (hs : Sat B w L) (j : Nat) (hj : L[j]? = some (Own T size v n xs)) : n ≤ 9223372036854775807 := by
  obtain ⟨A, c, _, h1, h2, _⟩ := (hs.front j hj).own_form
  simp only [maxLen] at h2; omega
theorem mof_pos {k : Int} (h : ¬ (k < 1 ∨ k > 8)) : mof k ≠ 0 := by unfold mof; repeat' (first | omega | split)
set_option maxRecDepth 100000 in
set_option maxHeartbeats 1000000 in
theorem catch_c (B w : World) (L : List Assn) (gm ge : Nat) (cs : List Value) (y : Value) (e0 : Int) (hs : Sat B w (Blk gm cs 26 :: Blk ge [y] 29 :: L)) (hcs : cs.length = 9) :
    CallsD Try.prog 77 [.pointer (some ⟨gm, 0, none⟩), .pointer (some ⟨ge, 0, none⟩)].toArray (.panicking (fchain e0)) w (fun e u' w' => u' = .panicking [{ v := .iface 99 (.agg #[.int .i64 e0]), recovered := true }] ∧ (Ret (fun v' w' => v' = .tuple #[] ∧ Sat B w' (Blk gm [.int .i64 0, .int .i64 0, .int .i64 0, .int .i64 0, .int .i64 0, .int .i64 0, .slice none 0 0, .slice none 0 0, .slice none 0 0] 26 :: Blk ge [.int .i64 e0] 29 :: L))) e w') := by
  refine CallsD_rec Try.func77 rfl rfl rfl (envE_cons (i := 0) (v := .pointer (some ⟨gm, 0, none⟩)) rfl (envE_cons (i := 1) (v := .pointer (some ⟨ge, 0, none⟩)) rfl envE_nil)) rfl rfl ?_
  refine Ls_run (run_assert (by kernel_rfl) rfl) rfl ?_
  refine Ls_run (run_move rfl) rfl ?_
  refine Ls_run (run_extract rfl rfl) rfl ?_
  refine Ls_run (run_extract rfl rfl) rfl ?_
  refine Ls_alloc hs inf99 rfl ?_
  intro b2 w1 hs
  refine Ls_storeAgg hs inf99 rfl rfl rfl rfl (by simp [Value.oneCell']) ?_
  intro w3 hs
  refine Ls_run (run_assign rfl) rfl ?_
  refine Ls_nil ?_
  refine Jm_seq ?_
  refine St_seq ?_
  refine St_region ?_
  refine Ls_run (run_move rfl) rfl ?_
  refine Ls_nil ?_
  refine Jm_seq ?_
  refine St_ift rfl ?_
  refine St_holdC 4 (Hold.of (Ls := [_]) hs) mixed ?_
  intro w5 q6
  replace hs := hs.quiet q6
  have hH := Hold.of (Ls := [_]) hs
  refine AnC_takeP 0 (by kernel_rfl) rfl (by kernel_rfl) (by kernel_rfl) (by kernel_rfl) (fun _ _ _ h => h) (fun _ => hH) (fun x => run_buildO (pv := []) rfl (bld26 )) rfl ?_
  refine AnC_takeP 1 (by kernel_rfl) rfl (by kernel_rfl) (by kernel_rfl) (by kernel_rfl) (fun _ _ _ h => h) (fun _ => hH) (fun x => run_as (run_field Try.underlying99 rfl inf29 (by decide) rfl) (show _ = Value.pointer (some ⟨b2, 0, none⟩) from rfl)) rfl ?_
  refine AnC_take 2 [4, 2] rfl (by kernel_rfl) (by kernel_rfl) (by kernel_rfl) (by kernel_rfl) (fun _ _ _ h => h) hH (fun x hx => run_load sc29 rfl (hx.choose_spec.blk_at 0 rfl 0 rfl)) rfl ?_
  refine AnC_only 3 (by kernel_rfl) rfl ?_
  replace hs := hs.front 1 rfl
  simp only [List.cons_append, List.nil_append, List.eraseIdx_cons_zero, List.eraseIdx_cons_succ] at hs
  refine Ls_storeAgg hs inf26 rfl rfl rfl hcs (by simp [Value.oneCell']) ?_
  intro w7 hs
  replace hs := hs.front 1 rfl
  simp only [List.cons_append, List.nil_append, List.eraseIdx_cons_zero, List.eraseIdx_cons_succ] at hs
  replace hH := Hold.of (Ls := [_]) hs
  refine Ls_nil (Jm_AnC (fun _ => hH) ?_)
  refine AnC_only 4 (by kernel_rfl) rfl ?_
  replace hs := hs.front 2 rfl
  simp only [List.cons_append, List.nil_append, List.eraseIdx_cons_zero, List.eraseIdx_cons_succ] at hs
  refine Ls_store hs inf29 rfl rfl rfl rfl ?_
  intro w9 hs
  try simp only [List.set_cons_zero, List.set_cons_succ] at hs
  refine Ls_nil (Jm_AnC_closed (by kernel_rfl) ?_)
  refine AnC_done (by kernel_rfl) ?_
  refine Jm_end0 rfl ?_
  replace hs := hs.front 2 rfl
  simp only [List.cons_append, List.nil_append, List.eraseIdx_cons_zero, List.eraseIdx_cons_succ] at hs
  replace hs := hs.erase 2
  simp only [List.cons_append, List.nil_append, List.eraseIdx_cons_zero, List.eraseIdx_cons_succ] at hs
  exact ⟨_, rfl, rfl, hs⟩
set_option maxRecDepth 100000 in
set_option maxHeartbeats 1000000 in
theorem idle_c (B w : World) (L : List Assn) (p1 p2 : Value) (hs : Sat B w L) :
    CallsD Try.prog 77 [p1, p2].toArray (.returning) w (fun e u' w' => u' = .returning ∧ (Ret (fun v' w' => v' = .tuple #[] ∧ Sat B w' L)) e w') := by
  refine CallsD_rec Try.func77 rfl rfl rfl (envE_cons (i := 0) (v := p1) rfl (envE_cons (i := 1) (v := p2) rfl envE_nil)) rfl rfl ?_
  refine Ls_run (run_assert_nil (by kernel_rfl) inf99 rfl) rfl ?_
  refine Ls_run (run_move rfl) rfl ?_
  refine Ls_run (run_extract rfl rfl) rfl ?_
  refine Ls_run (run_extract rfl rfl) rfl ?_
  refine Ls_alloc hs inf99 rfl ?_
  intro b2 w1 hs
  refine Ls_storeAgg hs inf99 rfl rfl rfl rfl (by simp [Value.oneCell']) ?_
  intro w3 hs
  refine Ls_run (run_assign rfl) rfl ?_
  refine Ls_nil ?_
  refine Jm_seq ?_
  refine St_seq ?_
  refine St_region ?_
  refine Ls_run (run_move rfl) rfl ?_
  refine Ls_nil ?_
  refine Jm_seq ?_
  refine St_iff rfl ?_
  refine St_skip ?_
  refine Jm_end0 rfl ?_
  replace hs := hs.erase 0
  simp only [List.cons_append, List.nil_append, List.eraseIdx_cons_zero, List.eraseIdx_cons_succ] at hs
  exact ⟨_, rfl, rfl, hs⟩
set_option maxRecDepth 100000 in
set_option maxHeartbeats 1000000 in
theorem Decode_c (w : World) (A : Option Addr) (n c : Nat) (l : List Int) (hr : Rd w A n c 1 (bytesV l)) (hb : IsBytes l) (hn : n ≤ 9223372036854775807) :
    Calls Try.prog 20 [.slice A n c].toArray w (Ret (fun v' w' => ∃ p : MP, v' = .tuple #[mV (Mdec l).1 p, .int .i64 (Mdec l).2] ∧ Sat w w' [Own 3 1 (.slice p.eA p.en p.ec) p.en ((El.int .i64).flat (Mdec l).1.es), Own 38 1 (.slice p.kA p.kn p.kc) p.kn ((El.int .u64).flat (Mdec l).1.ks), Own 42 3 (.slice p.pA p.pn p.pc) p.pn (KP.flat (Mdec l).1.ps)])) := by
  have hs := Sat.start w
  have hl : l.length = n := rdB_len hr
  refine Calls_bodyD Try.func20 rfl rfl rfl (envE_cons (i := 0) (v := .slice A n c) rfl envE_nil) ?_
  refine St_seq ?_
  refine St_region ?_
  refine Ls_alloc hs inf26 rfl ?_
  intro b2 w1 hs
  refine Ls_alloc hs inf29 rfl ?_
  intro b4 w3 hs
  refine Ls_nil ?_
  refine Jm_seq ?_
  refine St_seq ?_
  refine St_region ?_
  refine Ls_run (run_func (cap := [_, _]) rfl) rfl ?_
  refine Ls_defer (cap := [_, _]) rfl ?_
  refine Ls_nil ?_
  refine Jm_seq ?_
  refine St_seq ?_
  refine St_region ?_
  refine Ls_run (run_move rfl) rfl ?_
  refine Ls_run (run_buildO (pv := [(0, _)]) rfl (bld103_0 _ _ _)) rfl ?_
  refine Ls_box hs rfl rfl ?_
  intro b6 w5 hs
  refine Ls_run (run_assign rfl) rfl ?_
  refine Ls_nil ?_
  refine Jm_seq ?_
  refine St_seq ?_
  refine St_region ?_
  refine Ls_run (run_move rfl) rfl ?_
  refine Ls_callP Try.func78 nm78 rfl rfl (number_c w w5 _ _ A n c l 18446744073709551615 4 hs hr hb (by omega) (by decide) (by decide)) rfl ?_ ?_
  rotate_left
  · skip
    rintro ch10 w11 ⟨e9, ht9, hne, rfl, hs⟩
    repeat (first | refine Jm_then_panic ?_ | refine Jm_block_panic ?_)
    replace hs := hs.front 1 rfl
    simp only [List.cons_append, List.nil_append, List.eraseIdx_cons_zero, List.eraseIdx_cons_succ] at hs
    replace hs := hs.front 2 rfl
    simp only [List.cons_append, List.nil_append, List.eraseIdx_cons_zero, List.eraseIdx_cons_succ] at hs
    replace hs := hs.erase 2
    simp only [List.cons_append, List.nil_append, List.eraseIdx_cons_zero, List.eraseIdx_cons_succ] at hs
    have hM : Mdec l = (MC0, e9) := Mdec_e hb ht9 hne
    refine Jm_leaveP (Φ := fun w' => Sat w w' [Blk b2 [.int .i64 0, .int .i64 0, .int .i64 0, .int .i64 0, .int .i64 0, .int .i64 0, .slice none 0 0, .slice none 0 0, .slice none 0 0] 26, Blk b4 [.int .i64 (e9)] 29]) Try.func77 nm77 rfl ((catch_c w _ _ b2 b4 _ _ (e9) hs (by first | rfl | (simp [mh]; omega))).mono ?_) ?_
    · rintro e' u' w' ⟨rfl, v9, rfl, rfl, hs9⟩; exact ⟨rfl, rfl, hs9⟩
    · intro w' hs9 a ha
      exact ⟨_, res_CC rfl agg26 inf26 sc29 rfl (hs9.blk_cells 0 rfl 0 9) (hs9.blk_at 1 rfl 0 rfl) ha rfl rfl, _, rfl, MP0, by rw [hM]; rfl, by rw [hM]; exact ((hs9.forget.own_nil 42 3).own_nil 38 1).own_nil 3 1⟩
  rintro v7 w9 ⟨kx, r1, Ar1, cr1, rfl, htr1, hxr1, hbr1, hlr1, hrr1, hs⟩
  refine Ls_run (run_assign rfl) rfl ?_
  refine Ls_nil ?_
  refine Jm_seq ?_
  refine St_seq ?_
  refine St_seq ?_
  refine St_region ?_
  refine Ls_run (run_move rfl) rfl ?_
  refine Ls_run (run_lss rfl rfl) rfl ?_
  refine Ls_run (run_move rfl) rfl ?_
  refine Ls_partP (t := 16) rfl (fun h12 => ?_) (fun h12 => ?_)
  · skip
    refine Ls_off rfl rfl rfl rfl ?_
    refine Ls_off rfl rfl rfl rfl ?_
    refine Ls_run (run_pick_t rfl rfl) rfl ?_
    refine Ls_nil ?_
    refine Jm_seq ?_
    refine St_ift rfl ?_
    refine St_region ?_
    refine Ls_callP Try.func79 nm79 rfl rfl (must_c w9 150) rfl ?_ ?_
    rotate_left
    · skip
      rintro ch16 w17 ⟨rfl, hne, rfl⟩
      repeat (first | refine Jm_then_panic ?_ | refine Jm_block_panic ?_)
      replace hs := hs.front 1 rfl
      simp only [List.cons_append, List.nil_append, List.eraseIdx_cons_zero, List.eraseIdx_cons_succ] at hs
      replace hs := hs.front 2 rfl
      simp only [List.cons_append, List.nil_append, List.eraseIdx_cons_zero, List.eraseIdx_cons_succ] at hs
      replace hs := hs.erase 2
      simp only [List.cons_append, List.nil_append, List.eraseIdx_cons_zero, List.eraseIdx_cons_succ] at hs
      have hM : Mdec l = (MC0, 150) := Mdec_150 htr1 (by omega)
      refine Jm_leaveP (Φ := fun w' => Sat w w' [Blk b2 [.int .i64 0, .int .i64 0, .int .i64 0, .int .i64 0, .int .i64 0, .int .i64 0, .slice none 0 0, .slice none 0 0, .slice none 0 0] 26, Blk b4 [.int .i64 (150)] 29]) Try.func77 nm77 rfl ((catch_c w _ _ b2 b4 _ _ (150) hs (by first | rfl | (simp [mh]; omega))).mono ?_) ?_
      · rintro e' u' w' ⟨rfl, v9, rfl, rfl, hs9⟩; exact ⟨rfl, rfl, hs9⟩
      · intro w' hs9 a ha
        exact ⟨_, res_CC rfl agg26 inf26 sc29 rfl (hs9.blk_cells 0 rfl 0 9) (hs9.blk_at 1 rfl 0 rfl) ha rfl rfl, _, rfl, MP0, by rw [hM]; rfl, by rw [hM]; exact ((hs9.forget.own_nil 42 3).own_nil 38 1).own_nil 3 1⟩
    rintro v14 w15 ⟨rfl, he0, rfl⟩
    exact absurd he0 (by decide)
  · skip
    refine Ls_on rfl rfl ?_
    refine Ls_run (run_move rfl) rfl ?_
    refine Ls_on rfl rfl ?_
    refine Ls_run (run_gtr rfl rfl) rfl ?_
    refine Ls_run (run_pick_f rfl rfl) rfl ?_
    refine Ls_nil ?_
    refine Jm_seq ?_
    refine St_ifP rfl (fun h18 => ?_) (fun h18 => ?_)
    · skip
      refine St_region ?_
      refine Ls_callP Try.func79 nm79 rfl rfl (must_c w9 150) rfl ?_ ?_
      rotate_left
      · skip
        rintro ch21 w22 ⟨rfl, hne, rfl⟩
        repeat (first | refine Jm_then_panic ?_ | refine Jm_block_panic ?_)
        replace hs := hs.front 1 rfl
        simp only [List.cons_append, List.nil_append, List.eraseIdx_cons_zero, List.eraseIdx_cons_succ] at hs
        replace hs := hs.front 2 rfl
        simp only [List.cons_append, List.nil_append, List.eraseIdx_cons_zero, List.eraseIdx_cons_succ] at hs
        replace hs := hs.erase 2
        simp only [List.cons_append, List.nil_append, List.eraseIdx_cons_zero, List.eraseIdx_cons_succ] at hs
        have hM : Mdec l = (MC0, 150) := Mdec_150 htr1 (by omega)
        refine Jm_leaveP (Φ := fun w' => Sat w w' [Blk b2 [.int .i64 0, .int .i64 0, .int .i64 0, .int .i64 0, .int .i64 0, .int .i64 0, .slice none 0 0, .slice none 0 0, .slice none 0 0] 26, Blk b4 [.int .i64 (150)] 29]) Try.func77 nm77 rfl ((catch_c w _ _ b2 b4 _ _ (150) hs (by first | rfl | (simp [mh]; omega))).mono ?_) ?_
        · rintro e' u' w' ⟨rfl, v9, rfl, rfl, hs9⟩; exact ⟨rfl, rfl, hs9⟩
        · intro w' hs9 a ha
          exact ⟨_, res_CC rfl agg26 inf26 sc29 rfl (hs9.blk_cells 0 rfl 0 9) (hs9.blk_at 1 rfl 0 rfl) ha rfl rfl, _, rfl, MP0, by rw [hM]; rfl, by rw [hM]; exact ((hs9.forget.own_nil 42 3).own_nil 38 1).own_nil 3 1⟩
      rintro v19 w20 ⟨rfl, he0, rfl⟩
      exact absurd he0 (by decide)
    · skip
      refine St_skip ?_
      refine Jm_seq ?_
      refine St_seq ?_
      refine St_region ?_
      have hkx : ¬ ((kx : Int) < 1 ∨ (kx : Int) > 8) := by omega
      refine Ls_run (run_move rfl) rfl ?_
      refine Ls_run (run_conv_int Try.underlying3 us38 rfl (w64 (by omega))) rfl ?_
      refine Ls_run (run_as (run_field Try.underlying26 rfl inf3 (by decide) rfl) (show _ = Value.pointer (some ⟨b2, 0, none⟩) from rfl)) rfl ?_
      replace hs := hs.front 2 rfl
      simp only [List.cons_append, List.nil_append, List.eraseIdx_cons_zero, List.eraseIdx_cons_succ] at hs
      refine Ls_store hs inf3 rfl rfl rfl rfl ?_
      intro w23 hs
      try simp only [List.set_cons_zero, List.set_cons_succ] at hs
      refine Ls_nil ?_
      refine Jm_seq ?_
      refine St_seq ?_
      refine St_seq ?_
      refine St_region ?_
      refine Ls_run (run_as (run_field Try.underlying26 rfl inf3 (by decide) rfl) (show _ = Value.pointer (some ⟨b2, 1, none⟩) from rfl)) rfl ?_
      refine Ls_run (run_as (run_field Try.underlying26 rfl inf3 (by decide) rfl) (show _ = Value.pointer (some ⟨b2, 2, none⟩) from rfl)) rfl ?_
      refine Ls_run (run_as (run_field Try.underlying26 rfl inf3 (by decide) rfl) (show _ = Value.pointer (some ⟨b2, 3, none⟩) from rfl)) rfl ?_
      refine Ls_run (run_as (run_field Try.underlying26 rfl inf3 (by decide) rfl) (show _ = Value.pointer (some ⟨b2, 4, none⟩) from rfl)) rfl ?_
      refine Ls_literal [_, _, _, _] hs Try.underlying107 inf106 rfl rfl rfl rfl rfl rfl ?_
      intro b24 w25 hs
      simp only [List.flatMap_cons, List.flatMap_nil, Value.cells, List.cons_append, List.nil_append] at hs
      refine Ls_run (run_len Try.underlying107 rfl) rfl ?_
      refine Ls_run (run_move rfl) rfl ?_
      refine Ls_nil ?_
      refine Jm_seq ?_
      refine St_block ?_
      replace hs := hs.front 3 rfl
      simp only [List.cons_append, List.nil_append, List.eraseIdx_cons_zero, List.eraseIdx_cons_succ] at hs
      replace hs := hs.front 2 rfl
      simp only [List.cons_append, List.nil_append, List.eraseIdx_cons_zero, List.eraseIdx_cons_succ] at hs
      replace hs := hs.front 3 rfl
      simp only [List.cons_append, List.nil_append, List.eraseIdx_cons_zero, List.eraseIdx_cons_succ] at hs
      obtain ⟨pl, hpl⟩ : ∃ l, l = ([.pointer (some ⟨b2, 1, none⟩), .pointer (some ⟨b2, 2, none⟩), .pointer (some ⟨b2, 3, none⟩), .pointer (some ⟨b2, 4, none⟩)] : List Value) := ⟨_, rfl⟩
      have hpn : pl.length = 4 := by rw [hpl]; rfl
      obtain ⟨En26, hEn26⟩ : ∃ F : Nat × Option Addr × Nat × List Int × List Int → Env, ∀ (i : Nat) (Ar : Option Addr) (cr : Nat) (r : List Int) (h : List Int), F (i, Ar, cr, r, h) = [(2, .pointer (some ⟨b2, 0, none⟩)), (3, .pointer (some ⟨b4, 0, none⟩)), (4, .pointer (some ⟨b6, 0, none⟩)), (28, .slice (some ⟨b24, 0, none⟩) 4 4), (29, .int .i64 4), (30, .int .i64 (i : Int))] := ⟨(fun (s : Nat × Option Addr × Nat × List Int × List Int) => match s with | (i, Ar, cr, r, h) => [(2, .pointer (some ⟨b2, 0, none⟩)), (3, .pointer (some ⟨b4, 0, none⟩)), (4, .pointer (some ⟨b6, 0, none⟩)), (28, .slice (some ⟨b24, 0, none⟩) 4 4), (29, .int .i64 4), (30, .int .i64 (i : Int))]), fun _ _ _ _ _ => rfl⟩
      obtain ⟨Iv27, hIv27⟩ : ∃ F : Nat × Option Addr × Nat × List Int × List Int → World → Prop, ∀ (i : Nat) (Ar : Option Addr) (cr : Nat) (r : List Int) (h : List Int) (wr : World), F (i, Ar, cr, r, h) wr = (Sat w wr [Blk b6 [.slice Ar r.length cr] 103, Blk b2 (mh (kx : Int) h) 26, Blk b4 [.int .i64 0] 29, Blk b24 [.pointer (some ⟨b2, 1, none⟩), .pointer (some ⟨b2, 2, none⟩), .pointer (some ⟨b2, 3, none⟩), .pointer (some ⟨b2, 4, none⟩)] 106] ∧ i ≤ 4 ∧ h.length = i ∧ IsBytes r ∧ Rd w Ar r.length cr 1 (bytesV r) ∧ r.length ≤ n ∧ headD (4 - i) r h = headD 4 r1 []) := ⟨(fun (s : Nat × Option Addr × Nat × List Int × List Int) => match s with | (i, Ar, cr, r, h) => fun (wr : World) => Sat w wr [Blk b6 [.slice Ar r.length cr] 103, Blk b2 (mh (kx : Int) h) 26, Blk b4 [.int .i64 0] 29, Blk b24 [.pointer (some ⟨b2, 1, none⟩), .pointer (some ⟨b2, 2, none⟩), .pointer (some ⟨b2, 3, none⟩), .pointer (some ⟨b2, 4, none⟩)] 106] ∧ i ≤ 4 ∧ h.length = i ∧ IsBytes r ∧ Rd w Ar r.length cr 1 (bytesV r) ∧ r.length ≤ n ∧ headD (4 - i) r h = headD 4 r1 []), fun _ _ _ _ _ _ => rfl⟩
      obtain ⟨ms28, hms28⟩ : ∃ F : Nat × Option Addr × Nat × List Int × List Int → Nat, ∀ (i : Nat) (Ar : Option Addr) (cr : Nat) (r : List Int) (h : List Int), F (i, Ar, cr, r, h) = (4 - i) := ⟨(fun (s : Nat × Option Addr × Nat × List Int × List Int) => match s with | (i, Ar, cr, r, h) => 4 - i), fun _ _ _ _ _ => rfl⟩
      refine St_loop En26 Iv27 ms28 (0, Ar1, cr1, r1, []) ?_ ?_ ?_
      · skip
        rw [hIv27]
        exact ⟨hs, by omega, rfl, hbr1, hrr1, hlr1, rfl⟩
      · rw [hEn26]; exact (subE_cons rfl (subE_cons rfl (subE_cons rfl (subE_cons rfl (subE_cons rfl (subE_cons rfl subE_nil))))))
      rintro ⟨i, Ar, cr, r, h⟩ wr hI29
      rw [hIv27] at hI29
      obtain ⟨hs, hi, hhl, hbr, hrr, hlr, hhd⟩ := hI29
      refine St_eqE (hEn26 _ _ _ _ _) ?_
      refine St_seq ?_
      refine St_region ?_
      refine Ls_run (run_lss rfl rfl) rfl ?_
      refine Ls_nil ?_
      refine Jm_seq ?_
      refine St_seq ?_
      refine St_ifP rfl (fun h30 => ?_) (fun h30 => ?_)
      · skip
        refine St_skip ?_
        refine Jm_seq ?_
        refine St_seq ?_
        refine St_block ?_
        refine St_seq ?_
        refine St_region ?_
        obtain ⟨k9, hk9⟩ : ∃ k9, 4 - i = k9 + 1 := ⟨4 - i - 1, by omega⟩
        have hk8 : 4 - (i + 1) = k9 := by omega
        rw [hk9] at hhd
        refine Ls_index (El.val) (by rw [hpl, El.val_flat]; exact rd_block (hs.is_at 3 rfl).2 1 4 rfl) Try.underlying107 inf106 rfl rfl (by omega) (by omega) (show pl.getD i El.val.dflt = Value.pointer (some ⟨b2, i + 1, none⟩) from by rw [hpl]; exact p4_at (by omega)) rfl ?_
        intro b31 o32 hc33
        refine Ls_run (run_load sc106 rfl (hc33 0 _ rfl)) rfl ?_
        refine Ls_run (run_assign rfl) rfl ?_
        refine Ls_nil ?_
        refine Jm_seq ?_
        refine St_region ?_
        refine Ls_run (run_move rfl) rfl ?_
        refine Ls_run (run_move rfl) rfl ?_
        refine Ls_callP Try.func78 nm78 rfl rfl (number_c w wr _ _ Ar r.length cr r 1099511627776 4 hs hrr hbr (by omega) (by decide) (by decide)) rfl ?_ ?_
        rotate_left
        · skip
          rintro ch36 w37 ⟨e9, ht9, hne, rfl, hs⟩
          repeat (first | refine Jm_then_panic ?_ | refine Jm_block_panic ?_)
          replace hs := hs.front 2 rfl
          simp only [List.cons_append, List.nil_append, List.eraseIdx_cons_zero, List.eraseIdx_cons_succ] at hs
          replace hs := hs.front 2 rfl
          simp only [List.cons_append, List.nil_append, List.eraseIdx_cons_zero, List.eraseIdx_cons_succ] at hs
          replace hs := hs.erase 2
          simp only [List.cons_append, List.nil_append, List.eraseIdx_cons_zero, List.eraseIdx_cons_succ] at hs
          replace hs := hs.erase 2
          simp only [List.cons_append, List.nil_append, List.eraseIdx_cons_zero, List.eraseIdx_cons_succ] at hs
          have hM : Mdec l = (MC0, e9) := Mdec_h htr1 hkx (by rw [← hhd]; exact headD_e ht9 hne) hne
          refine Jm_leaveP (Φ := fun w' => Sat w w' [Blk b2 [.int .i64 0, .int .i64 0, .int .i64 0, .int .i64 0, .int .i64 0, .int .i64 0, .slice none 0 0, .slice none 0 0, .slice none 0 0] 26, Blk b4 [.int .i64 (e9)] 29]) Try.func77 nm77 rfl ((catch_c w _ _ b2 b4 _ _ (e9) hs (by first | rfl | (simp [mh]; omega))).mono ?_) ?_
          · rintro e' u' w' ⟨rfl, v9, rfl, rfl, hs9⟩; exact ⟨rfl, rfl, hs9⟩
          · intro w' hs9 a ha
            exact ⟨_, res_CC rfl agg26 inf26 sc29 rfl (hs9.blk_cells 0 rfl 0 9) (hs9.blk_at 1 rfl 0 rfl) ha rfl rfl, _, rfl, MP0, by rw [hM]; rfl, by rw [hM]; exact ((hs9.forget.own_nil 42 3).own_nil 38 1).own_nil 3 1⟩
        rintro v34 w35 ⟨xk, r2, Ar2, cr2, rfl, htr2, hxr2, hbr2, hlr2, hrr2, hs⟩
        refine Ls_run (run_conv_int Try.underlying3 us38 rfl (w64 (by omega))) rfl ?_
        refine Ls_run (run_nilCheck rfl) rfl ?_
        replace hs := hs.front 1 rfl
        simp only [List.cons_append, List.nil_append, List.eraseIdx_cons_zero, List.eraseIdx_cons_succ] at hs
        refine Ls_store hs inf3 rfl rfl rfl (mh_len hhl (by omega)) ?_
        intro w38 hs
        rw [mh_set hhl (by omega)] at hs
        refine Ls_nil ?_
        refine Jm_block_normal (Jm_seq ?_)
        refine St_region ?_
        refine Ls_run (run_add rfl rfl (w64 (by omega))) rfl ?_
        refine Ls_run (run_move rfl) rfl ?_
        refine Ls_nil ?_
        replace hs := hs.front 3 rfl
        simp only [List.cons_append, List.nil_append, List.eraseIdx_cons_zero, List.eraseIdx_cons_succ] at hs
        replace hs := hs.front 3 rfl
        simp only [List.cons_append, List.nil_append, List.eraseIdx_cons_zero, List.eraseIdx_cons_succ] at hs
        replace hs := hs.front 2 rfl
        simp only [List.cons_append, List.nil_append, List.eraseIdx_cons_zero, List.eraseIdx_cons_succ] at hs
        replace hs := hs.front 3 rfl
        simp only [List.cons_append, List.nil_append, List.eraseIdx_cons_zero, List.eraseIdx_cons_succ] at hs
        refine Jm_round (i + 1, Ar2, cr2, r2, h ++ [(xk : Int)]) ?_ ?_ ?_
        · rw [hEn26]; exact (subE_cons rfl (subE_cons rfl (subE_cons rfl (subE_cons rfl (subE_cons rfl (subE_cons rfl subE_nil))))))
        · skip
          rw [hIv27]
          rw [headD_ok htr2] at hhd
          exact ⟨hs, by omega, by simp [hhl], hbr2, hrr2, by omega, by rw [hk8]; exact hhd⟩
        · skip
          rw [hms28, hms28]
          omega
      · skip
        have hi9 : i = 4 := by omega
        obtain ⟨f0, t0, b0, a0, rfl⟩ := list4 (h := h) (by omega)
        rw [hi9] at hhd
        refine St_exit ?_
        refine Jm_then_exit (Jm_then_exit (Jm_block_same (Jm_seq ?_)))
        refine St_seq ?_
        refine St_region ?_
        refine Ls_run (run_move rfl) rfl ?_
        replace hs := hs.front 1 rfl
        simp only [List.cons_append, List.nil_append, List.eraseIdx_cons_zero, List.eraseIdx_cons_succ] at hs
        replace hs := hs.front 1 rfl
        simp only [List.cons_append, List.nil_append, List.eraseIdx_cons_zero, List.eraseIdx_cons_succ] at hs
        refine Ls_callP Try.func80 nm80 rfl rfl (body_c w wr _ _ Ar r.length cr r _ (kx : Int) f0 t0 b0 a0 hs hrr hbr (by omega) (mof_pos hkx)) rfl ?_ ?_
        rotate_left
        · skip
          rintro ch41 w42 ⟨e9, cs9, vv9, hbd, hne, rfl, hc9, hs⟩
          repeat (first | refine Jm_then_panic ?_ | refine Jm_block_panic ?_)
          replace hs := hs.front 2 rfl
          simp only [List.cons_append, List.nil_append, List.eraseIdx_cons_zero, List.eraseIdx_cons_succ] at hs
          replace hs := hs.front 2 rfl
          simp only [List.cons_append, List.nil_append, List.eraseIdx_cons_zero, List.eraseIdx_cons_succ] at hs
          replace hs := hs.erase 2
          simp only [List.cons_append, List.nil_append, List.eraseIdx_cons_zero, List.eraseIdx_cons_succ] at hs
          replace hs := hs.erase 2
          simp only [List.cons_append, List.nil_append, List.eraseIdx_cons_zero, List.eraseIdx_cons_succ] at hs
          have hM : Mdec l = (MC0, e9) := by rw [Mdec_t htr1 hkx hhd.symm]; exact tailD_e hbd hne
          refine Jm_leaveP (Φ := fun w' => Sat w w' [Blk b2 [.int .i64 0, .int .i64 0, .int .i64 0, .int .i64 0, .int .i64 0, .int .i64 0, .slice none 0 0, .slice none 0 0, .slice none 0 0] 26, Blk b4 [.int .i64 (e9)] 29]) Try.func77 nm77 rfl ((catch_c w _ _ b2 b4 _ _ (e9) hs hc9).mono ?_) ?_
          · rintro e' u' w' ⟨rfl, v9, rfl, rfl, hs9⟩; exact ⟨rfl, rfl, hs9⟩
          · intro w' hs9 a ha
            exact ⟨_, res_CC rfl agg26 inf26 sc29 rfl (hs9.blk_cells 0 rfl 0 9) (hs9.blk_at 1 rfl 0 rfl) ha rfl rfl, _, rfl, MP0, by rw [hM]; rfl, by rw [hM]; exact ((hs9.forget.own_nil 42 3).own_nil 38 1).own_nil 3 1⟩
        rintro v39 w40 ⟨rfl, xm, pm, rz, Az, cz, hbd, hbz, hlz, hrz, hs⟩
        refine Ls_nil ?_
        refine Jm_seq ?_
        refine St_seq ?_
        refine St_seq ?_
        refine St_region ?_
        refine Ls_run (run_move rfl) rfl ?_
        refine Ls_run (run_nilCheck rfl) rfl ?_
        refine Ls_run (run_as (run_field Try.underlying103 rfl inf28 (by decide) rfl) (show _ = Value.pointer (some ⟨b6, 0, none⟩) from rfl)) rfl ?_
        refine Ls_run (run_load sc28 rfl (hs.blk_at 0 rfl 0 rfl)) rfl ?_
        refine Ls_run (run_len Try.underlying28 rfl) rfl ?_
        refine Ls_run (run_gtr rfl rfl) rfl ?_
        refine Ls_nil ?_
        refine Jm_seq ?_
        refine St_ifP rfl (fun h43 => ?_) (fun h43 => ?_)
        · skip
          refine St_region ?_
          refine Ls_callP Try.func79 nm79 rfl rfl (must_c w40 5) rfl ?_ ?_
          rotate_left
          · skip
            rintro ch46 w47 ⟨rfl, hne, rfl⟩
            repeat (first | refine Jm_then_panic ?_ | refine Jm_block_panic ?_)
            replace hs := hs.front 5 rfl
            simp only [List.cons_append, List.nil_append, List.eraseIdx_cons_zero, List.eraseIdx_cons_succ] at hs
            replace hs := hs.front 2 rfl
            simp only [List.cons_append, List.nil_append, List.eraseIdx_cons_zero, List.eraseIdx_cons_succ] at hs
            replace hs := hs.erase 2
            simp only [List.cons_append, List.nil_append, List.eraseIdx_cons_zero, List.eraseIdx_cons_succ] at hs
            replace hs := hs.erase 2
            simp only [List.cons_append, List.nil_append, List.eraseIdx_cons_zero, List.eraseIdx_cons_succ] at hs
            replace hs := hs.erase 2
            simp only [List.cons_append, List.nil_append, List.eraseIdx_cons_zero, List.eraseIdx_cons_succ] at hs
            replace hs := hs.erase 2
            simp only [List.cons_append, List.nil_append, List.eraseIdx_cons_zero, List.eraseIdx_cons_succ] at hs
            replace hs := hs.erase 2
            simp only [List.cons_append, List.nil_append, List.eraseIdx_cons_zero, List.eraseIdx_cons_succ] at hs
            have hM : Mdec l = (MC0, 5) := by rw [Mdec_t htr1 hkx hhd.symm]; exact tailD_5 hbd (by omega)
            refine Jm_leaveP (Φ := fun w' => Sat w w' [Blk b2 [.int .i64 0, .int .i64 0, .int .i64 0, .int .i64 0, .int .i64 0, .int .i64 0, .slice none 0 0, .slice none 0 0, .slice none 0 0] 26, Blk b4 [.int .i64 (5)] 29]) Try.func77 nm77 rfl ((catch_c w _ _ b2 b4 _ _ (5) hs (by first | rfl | (simp [mh]; omega))).mono ?_) ?_
            · rintro e' u' w' ⟨rfl, v9, rfl, rfl, hs9⟩; exact ⟨rfl, rfl, hs9⟩
            · intro w' hs9 a ha
              exact ⟨_, res_CC rfl agg26 inf26 sc29 rfl (hs9.blk_cells 0 rfl 0 9) (hs9.blk_at 1 rfl 0 rfl) ha rfl rfl, _, rfl, MP0, by rw [hM]; rfl, by rw [hM]; exact ((hs9.forget.own_nil 42 3).own_nil 38 1).own_nil 3 1⟩
          rintro v44 w45 ⟨rfl, he0, rfl⟩
          exact absurd he0 (by decide)
        · skip
          refine St_skip ?_
          refine Jm_seq ?_
          refine St_seq ?_
          refine St_seq ?_
          refine St_region ?_
          refine Ls_run (run_as (run_load_agg agg26 inf26 rfl rfl (hs.blk_cells 1 rfl 0 9)) (show _ = Value.agg #[.int .i64 xm.k, .int .i64 xm.f, .int .i64 xm.t, .int .i64 xm.b, .int .i64 xm.a, .int .i64 xm.c, .slice pm.eA pm.en pm.ec, .slice pm.kA pm.kn pm.kc, .slice pm.pA pm.pn pm.pc] from rfl)) rfl ?_
          have hmz : MRd w40 xm pm := ⟨hs.rd_at 2 rfl, hs.rd_at 3 rfl, hs.rd_at 4 rfl⟩
          have hz1 := hmz.en
          have hz2 := hmz.kn
          have hz3 := hmz.pn
          refine Ls_call Try.func18 nm18 rfl rfl (Sound_c w40 xm pm hmz (hs.own_le 2 rfl) (hs.own_le 3 rfl) (hs.own_le 4 rfl)) rfl ?_
          rintro v48 w49 ⟨rfl, hsQ50⟩
          replace hs := hs.trans hsQ50
          refine Ls_run (run_not rfl) rfl ?_
          refine Ls_nil ?_
          refine Jm_seq ?_
          refine St_ifN rfl (fun h51 => ?_) (fun h51 => ?_)
          · skip
            refine St_region ?_
            refine Ls_callP Try.func79 nm79 rfl rfl (must_c w49 150) rfl ?_ ?_
            rotate_left
            · skip
              rintro ch54 w55 ⟨rfl, hne, rfl⟩
              repeat (first | refine Jm_then_panic ?_ | refine Jm_block_panic ?_)
              replace hs := hs.front 5 rfl
              simp only [List.cons_append, List.nil_append, List.eraseIdx_cons_zero, List.eraseIdx_cons_succ] at hs
              replace hs := hs.front 2 rfl
              simp only [List.cons_append, List.nil_append, List.eraseIdx_cons_zero, List.eraseIdx_cons_succ] at hs
              replace hs := hs.erase 2
              simp only [List.cons_append, List.nil_append, List.eraseIdx_cons_zero, List.eraseIdx_cons_succ] at hs
              replace hs := hs.erase 2
              simp only [List.cons_append, List.nil_append, List.eraseIdx_cons_zero, List.eraseIdx_cons_succ] at hs
              replace hs := hs.erase 2
              simp only [List.cons_append, List.nil_append, List.eraseIdx_cons_zero, List.eraseIdx_cons_succ] at hs
              replace hs := hs.erase 2
              simp only [List.cons_append, List.nil_append, List.eraseIdx_cons_zero, List.eraseIdx_cons_succ] at hs
              replace hs := hs.erase 2
              simp only [List.cons_append, List.nil_append, List.eraseIdx_cons_zero, List.eraseIdx_cons_succ] at hs
              have hM : Mdec l = (MC0, 150) := by rw [Mdec_t htr1 hkx hhd.symm]; exact tailD_150 hbd (by omega) (by assumption)
              refine Jm_leaveP (Φ := fun w' => Sat w w' [Blk b2 [.int .i64 0, .int .i64 0, .int .i64 0, .int .i64 0, .int .i64 0, .int .i64 0, .slice none 0 0, .slice none 0 0, .slice none 0 0] 26, Blk b4 [.int .i64 (150)] 29]) Try.func77 nm77 rfl ((catch_c w _ _ b2 b4 _ _ (150) hs (by first | rfl | (simp [mh]; omega))).mono ?_) ?_
              · rintro e' u' w' ⟨rfl, v9, rfl, rfl, hs9⟩; exact ⟨rfl, rfl, hs9⟩
              · intro w' hs9 a ha
                exact ⟨_, res_CC rfl agg26 inf26 sc29 rfl (hs9.blk_cells 0 rfl 0 9) (hs9.blk_at 1 rfl 0 rfl) ha rfl rfl, _, rfl, MP0, by rw [hM]; rfl, by rw [hM]; exact ((hs9.forget.own_nil 42 3).own_nil 38 1).own_nil 3 1⟩
            rintro v52 w53 ⟨rfl, he0, rfl⟩
            exact absurd he0 (by decide)
          · skip
            refine St_skip ?_
            refine Jm_seq ?_
            refine St_seq ?_
            refine St_region ?_
            refine Ls_run (run_as (run_load_agg agg26 inf26 rfl rfl (hs.blk_cells 1 rfl 0 9)) (show _ = Value.agg #[.int .i64 xm.k, .int .i64 xm.f, .int .i64 xm.t, .int .i64 xm.b, .int .i64 xm.a, .int .i64 xm.c, .slice pm.eA pm.en pm.ec, .slice pm.kA pm.kn pm.kc, .slice pm.pA pm.pn pm.pc] from rfl)) rfl ?_
            replace hs := hs.front 1 rfl
            simp only [List.cons_append, List.nil_append, List.eraseIdx_cons_zero, List.eraseIdx_cons_succ] at hs
            refine Ls_storeAgg hs inf26 rfl rfl rfl rfl (by simp [Value.oneCell']) ?_
            intro w56 hs
            replace hs := hs.front 5 rfl
            simp only [List.cons_append, List.nil_append, List.eraseIdx_cons_zero, List.eraseIdx_cons_succ] at hs
            refine Ls_store hs inf29 rfl rfl rfl rfl ?_
            intro w57 hs
            try simp only [List.set_cons_zero, List.set_cons_succ] at hs
            refine Ls_nil ?_
            refine Jm_seq ?_
            refine St_ret ?_
            replace hs := hs.front 5 rfl
            simp only [List.cons_append, List.nil_append, List.eraseIdx_cons_zero, List.eraseIdx_cons_succ] at hs
            replace hs := hs.front 5 rfl
            simp only [List.cons_append, List.nil_append, List.eraseIdx_cons_zero, List.eraseIdx_cons_succ] at hs
            replace hs := hs.front 5 rfl
            simp only [List.cons_append, List.nil_append, List.eraseIdx_cons_zero, List.eraseIdx_cons_succ] at hs
            replace hs := hs.front 3 rfl
            simp only [List.cons_append, List.nil_append, List.eraseIdx_cons_zero, List.eraseIdx_cons_succ] at hs
            replace hs := hs.front 4 rfl
            simp only [List.cons_append, List.nil_append, List.eraseIdx_cons_zero, List.eraseIdx_cons_succ] at hs
            replace hs := hs.erase 5
            simp only [List.cons_append, List.nil_append, List.eraseIdx_cons_zero, List.eraseIdx_cons_succ] at hs
            replace hs := hs.erase 5
            simp only [List.cons_append, List.nil_append, List.eraseIdx_cons_zero, List.eraseIdx_cons_succ] at hs
            have hM : Mdec l = (xm, 0) := by rw [Mdec_t htr1 hkx hhd.symm]; exact tailD_ok hbd (by omega) (by assumption)
            refine Jm_leave (Φ := fun w' => Sat w w' [Blk b2 (mcells xm pm) 26, Blk b4 [.int .i64 0] 29, Own 3 1 (.slice pm.eA pm.en pm.ec) pm.en ((El.int .i64).flat xm.es), Own 38 1 (.slice pm.kA pm.kn pm.kc) pm.kn ((El.int .u64).flat xm.ks), Own 42 3 (.slice pm.pA pm.pn pm.pc) pm.pn (KP.flat xm.ps)]) Try.func77 nm77 rfl ((idle_c w _ _ _ _ hs).mono ?_) ?_
            · rintro e' u' w' ⟨rfl, v9, rfl, rfl, hs9⟩; exact ⟨rfl, rfl, hs9⟩
            · intro w' hs9 a ha
              refine ⟨_, res_CC rfl agg26 inf26 sc29 rfl (hs9.blk_cells 0 rfl 0 9) (hs9.blk_at 1 rfl 0 rfl) ha rfl rfl, _, rfl, pm, by rw [hM]; rfl, ?_⟩
              rw [hM]
              replace hs9 := (hs9.erase 1).erase 0
              simp only [List.cons_append, List.nil_append, List.eraseIdx_cons_zero, List.eraseIdx_cons_succ] at hs9
              exact hs9
end Go.Proofs.Ytipkfdeiallifaa.Lg
