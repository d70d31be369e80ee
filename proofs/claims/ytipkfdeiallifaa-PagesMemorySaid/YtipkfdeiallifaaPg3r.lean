/-
  Pages: the reference's Open; Format of any number. By program (gen/pg3r.py).
-/
import Derived.Test.YtipkfdeiallifaaPg3
set_option linter.unusedVariables false
set_option linter.unusedSimpArgs false
namespace Go.Proofs.Ytipkfdeiallifaa.Lg
open Go Go.RowKit Go.Proofs.Ytipkfdeiallifaa.WirePure
theorem broots_1 {S : Type} {o : DOps S} {d d1 : S} {l : List Int} {e : Int} (h : o.nb d < 2) (hr : o.rd d 0 = (l, e, d1)) : broots o d = (l, [], d1) := by unfold broots; rw [if_pos h, hr]
theorem broots_2 {S : Type} {o : DOps S} {d d1 d2 : S} {l l2 : List Int} {e e2 : Int} (h : ¬ o.nb d < 2) (hr : o.rd d 0 = (l, e, d1)) (hr2 : o.rd d1 1 = (l2, e2, d2)) : broots o d = (l, l2, d2) := by unfold broots; rw [if_neg h, hr]; simp only; rw [hr2]
set_option maxRecDepth 100000 in
set_option maxHeartbeats 1000000 in
theorem rBOpen_g (B w : World) (L : List Assn) (b : Nat) (d : RSt) (hs : Sat B w (RefA 135 28 5 b d :: L)) (hdok : ROk d) (hl1 : 1 ≤ d.bl.length) :
    Calls Try.prog 48 [.pointer (some ⟨b, 0, none⟩)].toArray w (Ret (fun v' w' => ∃ q, v' = .tuple #[.pointer q, .int .i64 (bopen rO d).1] ∧ Sat B w' (QO 138 3 q (some ⟨b, 0, none⟩) (bopen rO d).2.1 :: RefA 135 28 5 b (bopen rO d).2.2 :: L))) := by
  refine Calls_body Try.func48 rfl rfl rfl (envE_cons (i := 0) (v := .pointer (some ⟨b, 0, none⟩)) rfl envE_nil) ?_
  refine St_seq ?_
  refine St_region ?_
  refine Ls_run (run_assign rfl) rfl ?_
  refine Ls_run (run_assign rfl) rfl ?_
  refine Ls_nil ?_
  refine Jm_seq ?_
  refine St_seq ?_
  refine St_seq ?_
  refine St_region ?_
  refine Ls_run (run_move rfl) rfl ?_
  refine Ls_run (run_asB (c := false) (run_eql_ptr_nil Try.underlying71 rfl rfl) rfl) rfl ?_
  refine Ls_nil ?_
  refine Jm_seq ?_
  refine St_iff rfl ?_
  refine St_skip ?_
  refine Jm_seq ?_
  refine St_seq ?_
  refine St_seq ?_
  refine St_region ?_
  refine Ls_run (run_move rfl) rfl ?_
  obtain ⟨A0, c0, hd0⟩ := hs.rhd
  refine Ls_call Try.func104 nm104 rfl rfl (rDown_c w b d A0 c0 hd0) rfl ?_
  rintro v2 w3 ⟨rfl, rfl⟩
  refine Ls_nil ?_
  refine Jm_seq ?_
  refine St_if rfl (fun h4 => ?_) (fun h4 => ?_)
  · skip
    refine St_seq ?_
    refine St_region ?_
    refine Ls_run (run_assign rfl) rfl ?_
    refine Ls_run (run_assign rfl) rfl ?_
    refine Ls_nil ?_
    refine Jm_seq ?_
    refine St_ret ?_
    refine Jm_then_ret  ?_
    refine Jm_ret2 rfl rfl rfl ?_
    rw [bopen_down (o := rO) (by assumption)]
    exact ⟨_, rfl, none, rfl, hs.toQoNone⟩
  · skip
    have hdn0 : d.down = false := h4
    refine St_skip ?_
    refine Jm_seq ?_
    refine St_seq ?_
    refine St_region ?_
    refine Ls_run (run_move rfl) rfl ?_
    refine Ls_call Try.func103 nm103 rfl rfl (rRead_c B w _ b d hs hdok.len 0) rfl ?_
    rintro v5 w6 ⟨Ara, cra, rfl, hs⟩
    have hbra := rread_bytes hdok 0
    have hkd1 := hdok.rd 0
    obtain ⟨⟨lra, era, d1⟩, hrdra⟩ : ∃ q, rread d 0 = q := ⟨_, rfl⟩
    simp only [hrdra] at hs hbra hkd1 ⊢
    refine Ls_run (run_move rfl) rfl ?_
    refine Ls_run (run_extract rfl rfl) rfl ?_
    refine Ls_run (run_extract rfl rfl) rfl ?_
    refine Ls_run (run_assign rfl) rfl ?_
    refine Ls_run (run_assign rfl) rfl ?_
    refine Ls_nil ?_
    refine Jm_seq ?_
    refine St_seq ?_
    refine St_region ?_
    refine Ls_literal [] hs Try.underlying28 inf5 rfl rfl rfl rfl rfl rfl ?_
    intro b7 w9 hs
    simp only [List.flatMap_cons, List.flatMap_nil, Value.cells, List.cons_append, List.nil_append] at hs
    replace hs := Sat.own_block hs 1 0 rfl (by decide)
    refine Ls_run (run_assign rfl) rfl ?_
    refine Ls_nil ?_
    refine Jm_seq ?_
    refine St_seq ?_
    refine St_seq ?_
    refine St_region ?_
    refine Ls_run (run_move rfl) rfl ?_
    replace hs := hs.front 1 rfl
    simp only [List.cons_append, List.nil_append, List.eraseIdx_cons_zero, List.eraseIdx_cons_succ] at hs
    obtain ⟨A0, c0, hd0⟩ := hs.rhd
    refine Ls_call Try.func97 nm97 rfl rfl (rBlocks_c w9 b d1 A0 c0 hd0) rfl ?_
    rintro v10 w11 ⟨rfl, rfl⟩
    rw [hkd1.2.1]
    refine Ls_run (run_gtr rfl rfl) rfl ?_
    refine Ls_nil ?_
    refine Jm_seq ?_
    refine St_ifP rfl (fun h12 => ?_) (fun h12 => ?_)
    · skip
      refine St_region ?_
      refine Ls_run (run_move rfl) rfl ?_
      refine Ls_call Try.func103 nm103 rfl rfl (rRead_c B w9 _ b d1 hs hkd1.1.len 1) rfl ?_
      rintro v13 w14 ⟨Arb, crb, rfl, hs⟩
      have hbrb := rread_bytes hkd1.1 1
      have hkd2 := hkd1.1.rd 1
      obtain ⟨⟨lrb, erb, d2⟩, hrdrb⟩ : ∃ q, rread d1 1 = q := ⟨_, rfl⟩
      simp only [hrdrb] at hs hbrb hkd2 ⊢
      refine Ls_run (run_move rfl) rfl ?_
      refine Ls_run (run_extract rfl rfl) rfl ?_
      refine Ls_run (run_extract rfl rfl) rfl ?_
      refine Ls_run (run_assign rfl) rfl ?_
      refine Ls_nil ?_
      refine Jm_seq ?_
      refine St_seq ?_
      refine St_region ?_
      refine Ls_run (run_move rfl) rfl ?_
      refine Ls_run (run_move rfl) rfl ?_
      obtain ⟨A0, c0, hd0⟩ := hs.rhd
      refine Ls_call Try.func97 nm97 rfl rfl (rBlocks_c w14 b d2 A0 c0 hd0) rfl ?_
      rintro v15 w16 ⟨rfl, rfl⟩
      rw [(hkd2.2.1.trans hkd1.2.1)]
      refine Ls_call Try.func105 nm105 rfl rfl (Right_c w14 _ _ _ lra (d.bl.length : Int) (hs.rd_at 3 rfl) hbra.1 (by omega) (by have := hdok.2.1; omega)) rfl ?_
      rintro v17 w18 ⟨At1, ct1, rfl, hsG⟩
      replace hs := hs.trans hsG
      simp only [List.cons_append, List.nil_append] at hs
      obtain ⟨⟨g1, tg1⟩, hG1⟩ : ∃ q, rG lra (d.bl.length : Int) = q := ⟨_, rfl⟩
      simp only [show (rroot lra (d.bl.length : Int)).getD (0, []) = (g1, tg1) from hG1] at hs ⊢
      refine Ls_run (run_move rfl) rfl ?_
      refine Ls_run (run_extract rfl rfl) rfl ?_
      refine Ls_run (run_extract rfl rfl) rfl ?_
      refine Ls_run (run_assign rfl) rfl ?_
      refine Ls_run (run_assign rfl) rfl ?_
      refine Ls_nil ?_
      refine Jm_seq ?_
      refine St_seq ?_
      refine St_region ?_
      refine Ls_run (run_move rfl) rfl ?_
      refine Ls_run (run_move rfl) rfl ?_
      replace hs := hs.front 1 rfl
      simp only [List.cons_append, List.nil_append, List.eraseIdx_cons_zero, List.eraseIdx_cons_succ] at hs
      obtain ⟨A0, c0, hd0⟩ := hs.rhd
      refine Ls_call Try.func97 nm97 rfl rfl (rBlocks_c w18 b d2 A0 c0 hd0) rfl ?_
      rintro v19 w20 ⟨rfl, rfl⟩
      rw [(hkd2.2.1.trans hkd1.2.1)]
      refine Ls_call Try.func105 nm105 rfl rfl (Right_c w18 _ _ _ lrb (d.bl.length : Int) (hs.rd_at 2 rfl) hbrb.1 (by omega) (by have := hdok.2.1; omega)) rfl ?_
      rintro v21 w22 ⟨At2, ct2, rfl, hsG⟩
      replace hs := hs.trans hsG
      simp only [List.cons_append, List.nil_append] at hs
      obtain ⟨⟨g2, tg2⟩, hG2⟩ : ∃ q, rG lrb (d.bl.length : Int) = q := ⟨_, rfl⟩
      simp only [show (rroot lrb (d.bl.length : Int)).getD (0, []) = (g2, tg2) from hG2] at hs ⊢
      refine Ls_run (run_move rfl) rfl ?_
      refine Ls_run (run_extract rfl rfl) rfl ?_
      refine Ls_run (run_extract rfl rfl) rfl ?_
      refine Ls_run (run_assign rfl) rfl ?_
      refine Ls_run (run_assign rfl) rfl ?_
      refine Ls_nil ?_
      refine Jm_seq ?_
      refine St_seq ?_
      refine St_seq ?_
      refine St_region ?_
      refine Ls_run (run_move rfl) rfl ?_
      refine Ls_run (run_eql rfl rfl) rfl ?_
      refine Ls_run (run_move rfl) rfl ?_
      refine Ls_partP (t := 45) rfl (fun h23 => ?_) (fun h23 => ?_)
      · skip
        refine Ls_on rfl rfl ?_
        refine Ls_run (run_move rfl) rfl ?_
        refine Ls_on rfl rfl ?_
        refine Ls_run (run_eql rfl rfl) rfl ?_
        refine Ls_run (run_pick_t rfl rfl) rfl ?_
        refine Ls_nil ?_
        refine Jm_seq ?_
        refine St_ifP rfl (fun h24 => ?_) (fun h24 => ?_)
        · skip
          refine St_seq ?_
          refine St_region ?_
          refine Ls_run (run_assign rfl) rfl ?_
          refine Ls_run (run_assign rfl) rfl ?_
          refine Ls_nil ?_
          refine Jm_seq ?_
          refine St_ret ?_
          refine Jm_then_ret  ?_
          refine Jm_ret2 rfl rfl rfl ?_
          have hbr : broots rO d = (lra, lrb, d2) := (broots_2 (o := rO) (by show ¬ d.bl.length < 2; omega) hrdra hrdrb)
          have hdn : rO.down d = false := hdn0
          replace hs := hs.erase 0
          simp only [List.cons_append, List.nil_append, List.eraseIdx_cons_zero, List.eraseIdx_cons_succ] at hs
          replace hs := hs.erase 1
          simp only [List.cons_append, List.nil_append, List.eraseIdx_cons_zero, List.eraseIdx_cons_succ] at hs
          replace hs := hs.erase 1
          simp only [List.cons_append, List.nil_append, List.eraseIdx_cons_zero, List.eraseIdx_cons_succ] at hs
          replace hs := hs.erase 1
          simp only [List.cons_append, List.nil_append, List.eraseIdx_cons_zero, List.eraseIdx_cons_succ] at hs
          replace hs := hs.erase 1
          simp only [List.cons_append, List.nil_append, List.eraseIdx_cons_zero, List.eraseIdx_cons_succ] at hs
          rw [ropen_none (o := rO) hdn hbr (by show (rG lra (d.bl.length : Int)).1 = 0; rw [hG1]; assumption) (by show (rG lrb (d.bl.length : Int)).1 = 0; rw [hG2]; assumption)]
          exact ⟨_, rfl, none, rfl, hs.toQoNone⟩
        · skip
          refine St_skip ?_
          refine Jm_seq ?_
          refine St_seq ?_
          refine St_seq ?_
          refine St_region ?_
          refine Ls_run (run_move rfl) rfl ?_
          refine Ls_run (run_move rfl) rfl ?_
          refine Ls_run (run_gtr rfl rfl) rfl ?_
          refine Ls_nil ?_
          refine Jm_seq ?_
          refine St_ifP rfl (fun h25 => ?_) (fun h25 => ?_)
          · skip
            refine St_seq ?_
            refine St_region ?_
            refine Ls_run (run_move rfl) rfl ?_
            refine Ls_run (run_move rfl) rfl ?_
            refine Ls_run (run_move rfl) rfl ?_
            refine Ls_run (run_buildO (pv := [(0, _), (1, _), (2, _), (3, _)]) rfl (bld138_0_1_2_3 _ _ _ _ _ _)) rfl ?_
            refine Ls_box hs rfl rfl ?_
            intro b27 w26 hs
            refine Ls_run (run_assign rfl) rfl ?_
            refine Ls_run (run_assign rfl) rfl ?_
            refine Ls_nil ?_
            refine Jm_seq ?_
            refine St_ret ?_
            refine Jm_then_ret  ?_
            refine Jm_ret2 rfl rfl rfl ?_
            have hbr : broots rO d = (lra, lrb, d2) := (broots_2 (o := rO) (by show ¬ d.bl.length < 2; omega) hrdra hrdrb)
            have hdn : rO.down d = false := hdn0
            replace hs := hs.erase 3
            simp only [List.cons_append, List.nil_append, List.eraseIdx_cons_zero, List.eraseIdx_cons_succ] at hs
            replace hs := hs.erase 3
            simp only [List.cons_append, List.nil_append, List.eraseIdx_cons_zero, List.eraseIdx_cons_succ] at hs
            replace hs := hs.erase 3
            simp only [List.cons_append, List.nil_append, List.eraseIdx_cons_zero, List.eraseIdx_cons_succ] at hs
            replace hs := hs.erase 3
            simp only [List.cons_append, List.nil_append, List.eraseIdx_cons_zero, List.eraseIdx_cons_succ] at hs
            replace hs := hs.front 2 rfl
            simp only [List.cons_append, List.nil_append, List.eraseIdx_cons_zero, List.eraseIdx_cons_succ] at hs
            replace hs := hs.front 2 rfl
            simp only [List.cons_append, List.nil_append, List.eraseIdx_cons_zero, List.eraseIdx_cons_succ] at hs
            replace hs := hs.front 2 rfl
            simp only [List.cons_append, List.nil_append, List.eraseIdx_cons_zero, List.eraseIdx_cons_succ] at hs
            rw [ropen_some (o := rO) hdn hbr (by show bpick (rroot lra (d.bl.length : Int)) (rroot lrb (d.bl.length : Int)) = some ⟨tg2, g2, 1, false⟩; rw [pick_other (by rw [hG1, hG2]; assumption), hG2])]
            exact ⟨_, rfl, _, rfl, Sat.toQoSome (Sat.qshut (s := ⟨tg2, g2, 1, false⟩) hs)⟩
          · skip
            refine St_skip ?_
            refine Jm_seq ?_
            refine St_seq ?_
            refine St_region ?_
            refine Ls_run (run_move rfl) rfl ?_
            refine Ls_run (run_move rfl) rfl ?_
            refine Ls_run (run_move rfl) rfl ?_
            refine Ls_run (run_buildO (pv := [(0, _), (1, _), (2, _)]) rfl (bld138_0_1_2 _ _ _ _ _)) rfl ?_
            refine Ls_box hs rfl rfl ?_
            intro b29 w28 hs
            refine Ls_run (run_assign rfl) rfl ?_
            refine Ls_run (run_assign rfl) rfl ?_
            refine Ls_nil ?_
            refine Jm_seq ?_
            refine St_ret ?_
            refine Jm_ret2 rfl rfl rfl ?_
            have hbr : broots rO d = (lra, lrb, d2) := (broots_2 (o := rO) (by show ¬ d.bl.length < 2; omega) hrdra hrdrb)
            have hdn : rO.down d = false := hdn0
            replace hs := hs.erase 1
            simp only [List.cons_append, List.nil_append, List.eraseIdx_cons_zero, List.eraseIdx_cons_succ] at hs
            replace hs := hs.erase 3
            simp only [List.cons_append, List.nil_append, List.eraseIdx_cons_zero, List.eraseIdx_cons_succ] at hs
            replace hs := hs.erase 3
            simp only [List.cons_append, List.nil_append, List.eraseIdx_cons_zero, List.eraseIdx_cons_succ] at hs
            replace hs := hs.erase 3
            simp only [List.cons_append, List.nil_append, List.eraseIdx_cons_zero, List.eraseIdx_cons_succ] at hs
            replace hs := hs.front 1 rfl
            simp only [List.cons_append, List.nil_append, List.eraseIdx_cons_zero, List.eraseIdx_cons_succ] at hs
            replace hs := hs.front 2 rfl
            simp only [List.cons_append, List.nil_append, List.eraseIdx_cons_zero, List.eraseIdx_cons_succ] at hs
            replace hs := hs.front 2 rfl
            simp only [List.cons_append, List.nil_append, List.eraseIdx_cons_zero, List.eraseIdx_cons_succ] at hs
            rw [ropen_some (o := rO) hdn hbr (by show bpick (rroot lra (d.bl.length : Int)) (rroot lrb (d.bl.length : Int)) = some ⟨tg1, g1, 0, false⟩; rw [pick_first (by rw [hG1, hG2]; assumption) (by rw [hG1, hG2]; simp_all), hG1])]
            exact ⟨_, rfl, _, rfl, Sat.toQoSome (Sat.qshut (s := ⟨tg1, g1, 0, false⟩) hs)⟩
      · skip
        refine Ls_off rfl rfl rfl rfl ?_
        refine Ls_off rfl rfl rfl rfl ?_
        refine Ls_run (run_pick_f rfl rfl) rfl ?_
        refine Ls_nil ?_
        refine Jm_seq ?_
        refine St_iff rfl ?_
        refine St_skip ?_
        refine Jm_seq ?_
        refine St_seq ?_
        refine St_seq ?_
        refine St_region ?_
        refine Ls_run (run_move rfl) rfl ?_
        refine Ls_run (run_move rfl) rfl ?_
        refine Ls_run (run_gtr rfl rfl) rfl ?_
        refine Ls_nil ?_
        refine Jm_seq ?_
        refine St_ifP rfl (fun h31 => ?_) (fun h31 => ?_)
        · skip
          refine St_seq ?_
          refine St_region ?_
          refine Ls_run (run_move rfl) rfl ?_
          refine Ls_run (run_move rfl) rfl ?_
          refine Ls_run (run_move rfl) rfl ?_
          refine Ls_run (run_buildO (pv := [(0, _), (1, _), (2, _), (3, _)]) rfl (bld138_0_1_2_3 _ _ _ _ _ _)) rfl ?_
          refine Ls_box hs rfl rfl ?_
          intro b33 w32 hs
          refine Ls_run (run_assign rfl) rfl ?_
          refine Ls_run (run_assign rfl) rfl ?_
          refine Ls_nil ?_
          refine Jm_seq ?_
          refine St_ret ?_
          refine Jm_then_ret  ?_
          refine Jm_ret2 rfl rfl rfl ?_
          have hbr : broots rO d = (lra, lrb, d2) := (broots_2 (o := rO) (by show ¬ d.bl.length < 2; omega) hrdra hrdrb)
          have hdn : rO.down d = false := hdn0
          replace hs := hs.erase 3
          simp only [List.cons_append, List.nil_append, List.eraseIdx_cons_zero, List.eraseIdx_cons_succ] at hs
          replace hs := hs.erase 3
          simp only [List.cons_append, List.nil_append, List.eraseIdx_cons_zero, List.eraseIdx_cons_succ] at hs
          replace hs := hs.erase 3
          simp only [List.cons_append, List.nil_append, List.eraseIdx_cons_zero, List.eraseIdx_cons_succ] at hs
          replace hs := hs.erase 3
          simp only [List.cons_append, List.nil_append, List.eraseIdx_cons_zero, List.eraseIdx_cons_succ] at hs
          replace hs := hs.front 2 rfl
          simp only [List.cons_append, List.nil_append, List.eraseIdx_cons_zero, List.eraseIdx_cons_succ] at hs
          replace hs := hs.front 2 rfl
          simp only [List.cons_append, List.nil_append, List.eraseIdx_cons_zero, List.eraseIdx_cons_succ] at hs
          replace hs := hs.front 2 rfl
          simp only [List.cons_append, List.nil_append, List.eraseIdx_cons_zero, List.eraseIdx_cons_succ] at hs
          rw [ropen_some (o := rO) hdn hbr (by show bpick (rroot lra (d.bl.length : Int)) (rroot lrb (d.bl.length : Int)) = some ⟨tg2, g2, 1, false⟩; rw [pick_other (by rw [hG1, hG2]; assumption), hG2])]
          exact ⟨_, rfl, _, rfl, Sat.toQoSome (Sat.qshut (s := ⟨tg2, g2, 1, false⟩) hs)⟩
        · skip
          refine St_skip ?_
          refine Jm_seq ?_
          refine St_seq ?_
          refine St_region ?_
          refine Ls_run (run_move rfl) rfl ?_
          refine Ls_run (run_move rfl) rfl ?_
          refine Ls_run (run_move rfl) rfl ?_
          refine Ls_run (run_buildO (pv := [(0, _), (1, _), (2, _)]) rfl (bld138_0_1_2 _ _ _ _ _)) rfl ?_
          refine Ls_box hs rfl rfl ?_
          intro b35 w34 hs
          refine Ls_run (run_assign rfl) rfl ?_
          refine Ls_run (run_assign rfl) rfl ?_
          refine Ls_nil ?_
          refine Jm_seq ?_
          refine St_ret ?_
          refine Jm_ret2 rfl rfl rfl ?_
          have hbr : broots rO d = (lra, lrb, d2) := (broots_2 (o := rO) (by show ¬ d.bl.length < 2; omega) hrdra hrdrb)
          have hdn : rO.down d = false := hdn0
          replace hs := hs.erase 1
          simp only [List.cons_append, List.nil_append, List.eraseIdx_cons_zero, List.eraseIdx_cons_succ] at hs
          replace hs := hs.erase 3
          simp only [List.cons_append, List.nil_append, List.eraseIdx_cons_zero, List.eraseIdx_cons_succ] at hs
          replace hs := hs.erase 3
          simp only [List.cons_append, List.nil_append, List.eraseIdx_cons_zero, List.eraseIdx_cons_succ] at hs
          replace hs := hs.erase 3
          simp only [List.cons_append, List.nil_append, List.eraseIdx_cons_zero, List.eraseIdx_cons_succ] at hs
          replace hs := hs.front 1 rfl
          simp only [List.cons_append, List.nil_append, List.eraseIdx_cons_zero, List.eraseIdx_cons_succ] at hs
          replace hs := hs.front 2 rfl
          simp only [List.cons_append, List.nil_append, List.eraseIdx_cons_zero, List.eraseIdx_cons_succ] at hs
          replace hs := hs.front 2 rfl
          simp only [List.cons_append, List.nil_append, List.eraseIdx_cons_zero, List.eraseIdx_cons_succ] at hs
          rw [ropen_some (o := rO) hdn hbr (by show bpick (rroot lra (d.bl.length : Int)) (rroot lrb (d.bl.length : Int)) = some ⟨tg1, g1, 0, false⟩; rw [pick_first (by rw [hG1, hG2]; assumption) (by rw [hG1, hG2]; simp_all), hG1])]
          exact ⟨_, rfl, _, rfl, Sat.toQoSome (Sat.qshut (s := ⟨tg1, g1, 0, false⟩) hs)⟩
    · skip
      refine St_skip ?_
      refine Jm_seq ?_
      refine St_seq ?_
      refine St_region ?_
      refine Ls_run (run_move rfl) rfl ?_
      refine Ls_run (run_move rfl) rfl ?_
      obtain ⟨A0, c0, hd0⟩ := hs.rhd
      refine Ls_call Try.func97 nm97 rfl rfl (rBlocks_c w9 b d1 A0 c0 hd0) rfl ?_
      rintro v36 w37 ⟨rfl, rfl⟩
      rw [hkd1.2.1]
      refine Ls_call Try.func105 nm105 rfl rfl (Right_c w9 _ _ _ lra (d.bl.length : Int) (hs.rd_at 2 rfl) hbra.1 (by omega) (by have := hdok.2.1; omega)) rfl ?_
      rintro v38 w39 ⟨At1, ct1, rfl, hsG⟩
      replace hs := hs.trans hsG
      simp only [List.cons_append, List.nil_append] at hs
      obtain ⟨⟨g1, tg1⟩, hG1⟩ : ∃ q, rG lra (d.bl.length : Int) = q := ⟨_, rfl⟩
      simp only [show (rroot lra (d.bl.length : Int)).getD (0, []) = (g1, tg1) from hG1] at hs ⊢
      refine Ls_run (run_move rfl) rfl ?_
      refine Ls_run (run_extract rfl rfl) rfl ?_
      refine Ls_run (run_extract rfl rfl) rfl ?_
      refine Ls_run (run_assign rfl) rfl ?_
      refine Ls_run (run_assign rfl) rfl ?_
      refine Ls_nil ?_
      refine Jm_seq ?_
      refine St_seq ?_
      refine St_region ?_
      refine Ls_run (run_move rfl) rfl ?_
      refine Ls_run (run_move rfl) rfl ?_
      replace hs := hs.front 1 rfl
      simp only [List.cons_append, List.nil_append, List.eraseIdx_cons_zero, List.eraseIdx_cons_succ] at hs
      obtain ⟨A0, c0, hd0⟩ := hs.rhd
      refine Ls_call Try.func97 nm97 rfl rfl (rBlocks_c w39 b d1 A0 c0 hd0) rfl ?_
      rintro v40 w41 ⟨rfl, rfl⟩
      rw [hkd1.2.1]
      refine Ls_call Try.func105 nm105 rfl rfl (Right_c w39 _ _ _ [] (d.bl.length : Int) (hs.rd_at 2 rfl) (by simp [IsBytes]) (by decide) (by have := hdok.2.1; omega)) rfl ?_
      rintro v42 w43 ⟨At2, ct2, rfl, hsG⟩
      replace hs := hs.trans hsG
      simp only [List.cons_append, List.nil_append] at hs
      obtain ⟨⟨g2, tg2⟩, hG2⟩ : ∃ q, rG [] (d.bl.length : Int) = q := ⟨_, rfl⟩
      simp only [show (rroot [] (d.bl.length : Int)).getD (0, []) = (g2, tg2) from hG2] at hs ⊢
      refine Ls_run (run_move rfl) rfl ?_
      refine Ls_run (run_extract rfl rfl) rfl ?_
      refine Ls_run (run_extract rfl rfl) rfl ?_
      refine Ls_run (run_assign rfl) rfl ?_
      refine Ls_run (run_assign rfl) rfl ?_
      refine Ls_nil ?_
      refine Jm_seq ?_
      refine St_seq ?_
      refine St_seq ?_
      refine St_region ?_
      refine Ls_run (run_move rfl) rfl ?_
      refine Ls_run (run_eql rfl rfl) rfl ?_
      refine Ls_run (run_move rfl) rfl ?_
      refine Ls_partP (t := 45) rfl (fun h44 => ?_) (fun h44 => ?_)
      · skip
        refine Ls_on rfl rfl ?_
        refine Ls_run (run_move rfl) rfl ?_
        refine Ls_on rfl rfl ?_
        refine Ls_run (run_eql rfl rfl) rfl ?_
        refine Ls_run (run_pick_t rfl rfl) rfl ?_
        refine Ls_nil ?_
        refine Jm_seq ?_
        refine St_ifP rfl (fun h45 => ?_) (fun h45 => ?_)
        · skip
          refine St_seq ?_
          refine St_region ?_
          refine Ls_run (run_assign rfl) rfl ?_
          refine Ls_run (run_assign rfl) rfl ?_
          refine Ls_nil ?_
          refine Jm_seq ?_
          refine St_ret ?_
          refine Jm_then_ret  ?_
          refine Jm_ret2 rfl rfl rfl ?_
          have hbr : broots rO d = (lra, [], d1) := (broots_1 (o := rO) (by show d.bl.length < 2; omega) hrdra)
          have hdn : rO.down d = false := hdn0
          replace hs := hs.erase 0
          simp only [List.cons_append, List.nil_append, List.eraseIdx_cons_zero, List.eraseIdx_cons_succ] at hs
          replace hs := hs.erase 1
          simp only [List.cons_append, List.nil_append, List.eraseIdx_cons_zero, List.eraseIdx_cons_succ] at hs
          replace hs := hs.erase 1
          simp only [List.cons_append, List.nil_append, List.eraseIdx_cons_zero, List.eraseIdx_cons_succ] at hs
          replace hs := hs.erase 1
          simp only [List.cons_append, List.nil_append, List.eraseIdx_cons_zero, List.eraseIdx_cons_succ] at hs
          rw [ropen_none (o := rO) hdn hbr (by show (rG lra (d.bl.length : Int)).1 = 0; rw [hG1]; assumption) (by show (rG [] (d.bl.length : Int)).1 = 0; rw [hG2]; assumption)]
          exact ⟨_, rfl, none, rfl, hs.toQoNone⟩
        · skip
          refine St_skip ?_
          refine Jm_seq ?_
          refine St_seq ?_
          refine St_seq ?_
          refine St_region ?_
          refine Ls_run (run_move rfl) rfl ?_
          refine Ls_run (run_move rfl) rfl ?_
          refine Ls_run (run_gtr rfl rfl) rfl ?_
          refine Ls_nil ?_
          refine Jm_seq ?_
          refine St_ifP rfl (fun h46 => ?_) (fun h46 => ?_)
          · skip
            refine St_seq ?_
            refine St_region ?_
            refine Ls_run (run_move rfl) rfl ?_
            refine Ls_run (run_move rfl) rfl ?_
            refine Ls_run (run_move rfl) rfl ?_
            refine Ls_run (run_buildO (pv := [(0, _), (1, _), (2, _), (3, _)]) rfl (bld138_0_1_2_3 _ _ _ _ _ _)) rfl ?_
            refine Ls_box hs rfl rfl ?_
            intro b48 w47 hs
            refine Ls_run (run_assign rfl) rfl ?_
            refine Ls_run (run_assign rfl) rfl ?_
            refine Ls_nil ?_
            refine Jm_seq ?_
            refine St_ret ?_
            refine Jm_then_ret  ?_
            refine Jm_ret2 rfl rfl rfl ?_
            have hbr : broots rO d = (lra, [], d1) := (broots_1 (o := rO) (by show d.bl.length < 2; omega) hrdra)
            have hdn : rO.down d = false := hdn0
            replace hs := hs.erase 3
            simp only [List.cons_append, List.nil_append, List.eraseIdx_cons_zero, List.eraseIdx_cons_succ] at hs
            replace hs := hs.erase 3
            simp only [List.cons_append, List.nil_append, List.eraseIdx_cons_zero, List.eraseIdx_cons_succ] at hs
            replace hs := hs.erase 3
            simp only [List.cons_append, List.nil_append, List.eraseIdx_cons_zero, List.eraseIdx_cons_succ] at hs
            replace hs := hs.front 2 rfl
            simp only [List.cons_append, List.nil_append, List.eraseIdx_cons_zero, List.eraseIdx_cons_succ] at hs
            replace hs := hs.front 2 rfl
            simp only [List.cons_append, List.nil_append, List.eraseIdx_cons_zero, List.eraseIdx_cons_succ] at hs
            replace hs := hs.front 2 rfl
            simp only [List.cons_append, List.nil_append, List.eraseIdx_cons_zero, List.eraseIdx_cons_succ] at hs
            rw [ropen_some (o := rO) hdn hbr (by show bpick (rroot lra (d.bl.length : Int)) (rroot [] (d.bl.length : Int)) = some ⟨tg2, g2, 1, false⟩; rw [pick_other (by rw [hG1, hG2]; assumption), hG2])]
            exact ⟨_, rfl, _, rfl, Sat.toQoSome (Sat.qshut (s := ⟨tg2, g2, 1, false⟩) hs)⟩
          · skip
            refine St_skip ?_
            refine Jm_seq ?_
            refine St_seq ?_
            refine St_region ?_
            refine Ls_run (run_move rfl) rfl ?_
            refine Ls_run (run_move rfl) rfl ?_
            refine Ls_run (run_move rfl) rfl ?_
            refine Ls_run (run_buildO (pv := [(0, _), (1, _), (2, _)]) rfl (bld138_0_1_2 _ _ _ _ _)) rfl ?_
            refine Ls_box hs rfl rfl ?_
            intro b50 w49 hs
            refine Ls_run (run_assign rfl) rfl ?_
            refine Ls_run (run_assign rfl) rfl ?_
            refine Ls_nil ?_
            refine Jm_seq ?_
            refine St_ret ?_
            refine Jm_ret2 rfl rfl rfl ?_
            have hbr : broots rO d = (lra, [], d1) := (broots_1 (o := rO) (by show d.bl.length < 2; omega) hrdra)
            have hdn : rO.down d = false := hdn0
            replace hs := hs.erase 1
            simp only [List.cons_append, List.nil_append, List.eraseIdx_cons_zero, List.eraseIdx_cons_succ] at hs
            replace hs := hs.erase 3
            simp only [List.cons_append, List.nil_append, List.eraseIdx_cons_zero, List.eraseIdx_cons_succ] at hs
            replace hs := hs.erase 3
            simp only [List.cons_append, List.nil_append, List.eraseIdx_cons_zero, List.eraseIdx_cons_succ] at hs
            replace hs := hs.front 1 rfl
            simp only [List.cons_append, List.nil_append, List.eraseIdx_cons_zero, List.eraseIdx_cons_succ] at hs
            replace hs := hs.front 2 rfl
            simp only [List.cons_append, List.nil_append, List.eraseIdx_cons_zero, List.eraseIdx_cons_succ] at hs
            replace hs := hs.front 2 rfl
            simp only [List.cons_append, List.nil_append, List.eraseIdx_cons_zero, List.eraseIdx_cons_succ] at hs
            rw [ropen_some (o := rO) hdn hbr (by show bpick (rroot lra (d.bl.length : Int)) (rroot [] (d.bl.length : Int)) = some ⟨tg1, g1, 0, false⟩; rw [pick_first (by rw [hG1, hG2]; assumption) (by rw [hG1, hG2]; simp_all), hG1])]
            exact ⟨_, rfl, _, rfl, Sat.toQoSome (Sat.qshut (s := ⟨tg1, g1, 0, false⟩) hs)⟩
      · skip
        refine Ls_off rfl rfl rfl rfl ?_
        refine Ls_off rfl rfl rfl rfl ?_
        refine Ls_run (run_pick_f rfl rfl) rfl ?_
        refine Ls_nil ?_
        refine Jm_seq ?_
        refine St_iff rfl ?_
        refine St_skip ?_
        refine Jm_seq ?_
        refine St_seq ?_
        refine St_seq ?_
        refine St_region ?_
        refine Ls_run (run_move rfl) rfl ?_
        refine Ls_run (run_move rfl) rfl ?_
        refine Ls_run (run_gtr rfl rfl) rfl ?_
        refine Ls_nil ?_
        refine Jm_seq ?_
        refine St_ifP rfl (fun h52 => ?_) (fun h52 => ?_)
        · skip
          refine St_seq ?_
          refine St_region ?_
          refine Ls_run (run_move rfl) rfl ?_
          refine Ls_run (run_move rfl) rfl ?_
          refine Ls_run (run_move rfl) rfl ?_
          refine Ls_run (run_buildO (pv := [(0, _), (1, _), (2, _), (3, _)]) rfl (bld138_0_1_2_3 _ _ _ _ _ _)) rfl ?_
          refine Ls_box hs rfl rfl ?_
          intro b54 w53 hs
          refine Ls_run (run_assign rfl) rfl ?_
          refine Ls_run (run_assign rfl) rfl ?_
          refine Ls_nil ?_
          refine Jm_seq ?_
          refine St_ret ?_
          refine Jm_then_ret  ?_
          refine Jm_ret2 rfl rfl rfl ?_
          have hbr : broots rO d = (lra, [], d1) := (broots_1 (o := rO) (by show d.bl.length < 2; omega) hrdra)
          have hdn : rO.down d = false := hdn0
          replace hs := hs.erase 3
          simp only [List.cons_append, List.nil_append, List.eraseIdx_cons_zero, List.eraseIdx_cons_succ] at hs
          replace hs := hs.erase 3
          simp only [List.cons_append, List.nil_append, List.eraseIdx_cons_zero, List.eraseIdx_cons_succ] at hs
          replace hs := hs.erase 3
          simp only [List.cons_append, List.nil_append, List.eraseIdx_cons_zero, List.eraseIdx_cons_succ] at hs
          replace hs := hs.front 2 rfl
          simp only [List.cons_append, List.nil_append, List.eraseIdx_cons_zero, List.eraseIdx_cons_succ] at hs
          replace hs := hs.front 2 rfl
          simp only [List.cons_append, List.nil_append, List.eraseIdx_cons_zero, List.eraseIdx_cons_succ] at hs
          replace hs := hs.front 2 rfl
          simp only [List.cons_append, List.nil_append, List.eraseIdx_cons_zero, List.eraseIdx_cons_succ] at hs
          rw [ropen_some (o := rO) hdn hbr (by show bpick (rroot lra (d.bl.length : Int)) (rroot [] (d.bl.length : Int)) = some ⟨tg2, g2, 1, false⟩; rw [pick_other (by rw [hG1, hG2]; assumption), hG2])]
          exact ⟨_, rfl, _, rfl, Sat.toQoSome (Sat.qshut (s := ⟨tg2, g2, 1, false⟩) hs)⟩
        · skip
          refine St_skip ?_
          refine Jm_seq ?_
          refine St_seq ?_
          refine St_region ?_
          refine Ls_run (run_move rfl) rfl ?_
          refine Ls_run (run_move rfl) rfl ?_
          refine Ls_run (run_move rfl) rfl ?_
          refine Ls_run (run_buildO (pv := [(0, _), (1, _), (2, _)]) rfl (bld138_0_1_2 _ _ _ _ _)) rfl ?_
          refine Ls_box hs rfl rfl ?_
          intro b56 w55 hs
          refine Ls_run (run_assign rfl) rfl ?_
          refine Ls_run (run_assign rfl) rfl ?_
          refine Ls_nil ?_
          refine Jm_seq ?_
          refine St_ret ?_
          refine Jm_ret2 rfl rfl rfl ?_
          have hbr : broots rO d = (lra, [], d1) := (broots_1 (o := rO) (by show d.bl.length < 2; omega) hrdra)
          have hdn : rO.down d = false := hdn0
          replace hs := hs.erase 1
          simp only [List.cons_append, List.nil_append, List.eraseIdx_cons_zero, List.eraseIdx_cons_succ] at hs
          replace hs := hs.erase 3
          simp only [List.cons_append, List.nil_append, List.eraseIdx_cons_zero, List.eraseIdx_cons_succ] at hs
          replace hs := hs.erase 3
          simp only [List.cons_append, List.nil_append, List.eraseIdx_cons_zero, List.eraseIdx_cons_succ] at hs
          replace hs := hs.front 1 rfl
          simp only [List.cons_append, List.nil_append, List.eraseIdx_cons_zero, List.eraseIdx_cons_succ] at hs
          replace hs := hs.front 2 rfl
          simp only [List.cons_append, List.nil_append, List.eraseIdx_cons_zero, List.eraseIdx_cons_succ] at hs
          replace hs := hs.front 2 rfl
          simp only [List.cons_append, List.nil_append, List.eraseIdx_cons_zero, List.eraseIdx_cons_succ] at hs
          rw [ropen_some (o := rO) hdn hbr (by show bpick (rroot lra (d.bl.length : Int)) (rroot [] (d.bl.length : Int)) = some ⟨tg1, g1, 0, false⟩; rw [pick_first (by rw [hG1, hG2]; assumption) (by rw [hG1, hG2]; simp_all), hG1])]
          exact ⟨_, rfl, _, rfl, Sat.toQoSome (Sat.qshut (s := ⟨tg1, g1, 0, false⟩) hs)⟩
theorem BFormatO_c (B w : World) (L : List Assn) (b : Nat) (d : DSt) (hs : Sat B w (DiskA 129 28 5 b d :: L)) (hdok : DOk d) (n : Int) :
    Calls Try.prog 37 [.pointer (some ⟨b, 0, none⟩), .int .i64 n].toArray w (Ret (fun v' w' => ∃ q, v' = .tuple #[.pointer q, .int .i64 (bformat dO d n).1] ∧ Sat B w' (BO 122 3 q (some ⟨b, 0, none⟩) (bformat dO d n).2.1 :: DiskA 129 28 5 b (bformat dO d n).2.2 :: L))) := by
  by_cases h : n < 1 ∨ 8 < n
  · rw [bformat_1 h]
    exact (BFormat_bad w b n h).mono fun e w' ⟨v, he, hw, hv⟩ => ⟨v, he, none, hv, by subst hw; exact hs.toBoNone⟩
  · obtain ⟨m, rfl⟩ : ∃ m : Nat, n = (m : Int) := ⟨n.toNat, by omega⟩
    exact BFormat_g B w L b d hs hdok m (by omega) (by omega)
theorem rBFormatO_c (B w : World) (L : List Assn) (b : Nat) (d : RSt) (hs : Sat B w (RefA 135 28 5 b d :: L)) (hdok : ROk d) (n : Int) :
    Calls Try.prog 40 [.pointer (some ⟨b, 0, none⟩), .int .i64 n].toArray w (Ret (fun v' w' => ∃ q, v' = .tuple #[.pointer q, .int .i64 (bformat rO d n).1] ∧ Sat B w' (QO 138 3 q (some ⟨b, 0, none⟩) (bformat rO d n).2.1 :: RefA 135 28 5 b (bformat rO d n).2.2 :: L))) := by
  by_cases h : n < 1 ∨ 8 < n
  · rw [bformat_1 h]
    exact (rBFormat_bad w b n h).mono fun e w' ⟨v, he, hw, hv⟩ => ⟨v, he, none, hv, by subst hw; exact hs.toQoNone⟩
  · obtain ⟨m, rfl⟩ : ∃ m : Nat, n = (m : Int) := ⟨n.toNat, by omega⟩
    exact rBFormat_g B w L b d hs hdok m (by omega) (by omega)
end Go.Proofs.Ytipkfdeiallifaa.Lg
