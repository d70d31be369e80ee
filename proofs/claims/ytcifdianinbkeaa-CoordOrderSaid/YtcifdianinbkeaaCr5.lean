/-
  The law CoordOrder: the tries are the batches right behind the committed one, one each, each from where the one ahead of it ends, and messages go out for the right batch alone. For every plan and every list of acts: no condition.
-/
import Derived.Test.YtcifdianinbkeaaCr4
import Derived.Test.YtcifdianinbkeaaRows
set_option linter.unusedVariables false
set_option linter.unusedSimpArgs false
namespace Go.Proofs.Ytcifdianinbkeaa.Lg
open Go Go.RowKit Go.Proofs.Ytcifdianinbkeaa.WirePure Go.Proofs.Ytcifdianinbkeaa.PlanPure
abbrev tns : TNs := ⟨79, 43, 108, 3, 122, 125, 5, 41, 31⟩
theorem wopen19 {B w : World} {bw : Nat} {p : PlanA} {ops : OpL} {tr : List TSt} {e : Bool} {j : JSt} {d : DSt} {n : Nat} {L : List Assn} (hs : Sat B w (WA tns bw p ops tr e j d n :: L)) : ∃ bd bc bj Ao co sA sc vs, (∀ x ∈ vs, MSent x) ∧ vs.length ≤ n ∧
    Sat B w (Blk bw (wcells p bd bc sA vs.length sc) 31 :: CA 79 43 bc bd bj (re p Ao co) ops tr e :: JA 108 3 bj (some ⟨bd, 0, none⟩) j :: DiskA 122 125 5 bd d :: Own 41 9 (.slice sA vs.length sc) vs.length (KM.flat vs) :: Keep (SK vs) :: L) := hs.wopen
theorem wshut19 {B w : World} {bw : Nat} {p : PlanA} {ops : OpL} {tr : List TSt} {e : Bool} {j : JSt} {d : DSt} {n : Nat} {L : List Assn} {bd bc bj : Nat} {Ao : Option Addr} {co : Nat} {sA : Option Addr} {sc : Nat} {vs : List (MC × MP)} (h1 : ∀ x ∈ vs, MSent x) (h2 : vs.length ≤ n)
    (hs : Sat B w (Blk bw (wcells p bd bc sA vs.length sc) 31 :: CA 79 43 bc bd bj (re p Ao co) ops tr e :: JA 108 3 bj (some ⟨bd, 0, none⟩) j :: DiskA 122 125 5 bd d :: Own 41 9 (.slice sA vs.length sc) vs.length (KM.flat vs) :: Keep (SK vs) :: L)) : Sat B w (WA tns bw p ops tr e j d n :: L) := Sat.wshut (T := tns) h1 h2 hs
theorem wnew19 {B w : World} {bw : Nat} {p : PlanA} {ops : OpL} {tr : List TSt} {e : Bool} {j : JSt} {d : DSt} {L : List Assn} {bd bc bj : Nat} {Ao : Option Addr} {co : Nat} (hs : Sat B w (Blk bw (wcells p bd bc none 0 0) 31 :: CA 79 43 bc bd bj (re p Ao co) ops tr e :: JA 108 3 bj (some ⟨bd, 0, none⟩) j :: DiskA 122 125 5 bd d :: L)) : Sat B w (WA tns bw p ops tr e j d 0 :: L) := Sat.wnew (T := tns) hs
theorem ActR.er {N : Int} {p : PlanA} {ops : OpL} {j : JSt} {d : DSt} {er : Int} {en : Bool} {out : Option MC} {tr2 : List TSt} {j2 : JSt} {d2 : DSt} {A : Option Addr} {c : Nat} (h : ActR N (re p A c) ops j d er en out tr2 j2 d2) : ActR N p ops j d er en out tr2 j2 d2 := by
  rcases h with ⟨h1, h2, h3, h4⟩ | h
  · exact .inl ⟨h1, h2, h3.er, ⟨h4.att, h4.ba, h4.out⟩⟩
  · exact .inr h
theorem KM_snoc (vs : List (MC × MP)) (m : MC) (q : MP) (l : List Value) (h : l = mcells m q) : KM.flat vs ++ l = KM.flat (vs ++ [(m, q)]) := by rw [El.flat_append, h, ← mcells_1]
set_option maxRecDepth 100000 in
set_option maxHeartbeats 4000000 in
theorem act_c (B w : World) (L : List Assn) (bw : Nat) (p : PlanA) (ops : OpL) (tr : List TSt) (j : JSt) (d : DSt) (sn : Nat) (N : Int) (hs : Sat B w (WA tns bw p ops tr false j d sn :: L)) (hr : Rd B p.oA p.on p.oc 3 (KOp.flat ops)) (hn : p.on ≤ 67108864) (hci : CI N p ops tr j d) (hN : N < 1099511627770) (hsn : sn ≤ 100000) (kd K : Int) (A1 : Option Addr) (n1 c1 : Nat) (ol : List Int) (hr1 : Rd B A1 n1 c1 1 (KI.flat ol)) (hn1 : n1 ≤ 9223372036854775807) :
    Calls Try.prog 18 [.pointer (some ⟨bw, 0, none⟩), .agg #[.int .i64 kd, .int .i64 K, .slice A1 n1 c1]].toArray w (Ret (fun v' w' => ∃ v out tr' j' d' n', v' = .tuple #[v, .bool true] ∧ Sat B w' (MO 41 3 v out :: WA tns bw p ops tr' false j' d' n' :: L) ∧ CI (N + 1) p ops tr' j' d' ∧ StepR p ops j.n j'.n out ∧ n' ≤ sn + 1 ∧ (kd = 1 → d.armed = false → ctick p ops tr false j d = (out, 0, tr', false, j', d')))) := by
  have hlens := hci.lens
  have hk0 := hci.nums
  unfold numsOk at hk0
  obtain ⟨bd, bc, bj, Ao, co, sA, sc, vs, hvs, hvl, hs⟩ := wopen19 hs
  unfold wcells at hs
  refine Zb Try.func18 rfl rfl rfl (Zs (Ls_box hs rfl rfl (fun b2 w1 hs => (Za rfl (Za rfl (Zt (Zm rfl (Zk rfl (Zf un31 inf28 rfl 9 rfl (Zl sc28 rfl (hs.blk_at 1 rfl 9 rfl) ?_))))))))))
  replace hs := hs.F2
  refine Zc fn12 rfl (cTries_c B w1 _ bc bd bj (re p Ao co) ops tr false hs (by omega) (fun t ht => by have := hlens.2 t ht; omega)) rfl ?_
  rintro v3 w4 ⟨vo, oA, oc, hvo, rfl, hs⟩
  replace hs := hs.triesK hvo
  have hvol : vo.length = tr.length := by rw [← hvo, List.length_map]
  refine Za rfl (Zt (Za rfl (Zt (Za rfl (Zj (St_seq (Zs (Zf un60 inf3 rfl 0 rfl (Zl sc3 rfl (hs.blk_at 2 rfl 0 rfl) (Zj (St_block (Zs (Zr (run_eql rfl rfl) rfl (Za rfl (Zj ?_)))))))))))))))
  obtain ⟨En5, hEn5⟩ := ex8 fun (v : Value) (out : Option MC) (er : Int) (en : Bool) (tr2 : List TSt) (j2 : JSt) (d2 : DSt) (n2 : Nat) => ([(0, .pointer (some ⟨bw, 0, none⟩)), (7, v), (8, .int .i64 er)] : Env)
  obtain ⟨Iv6, hIv6⟩ := ew8 fun (v : Value) (out : Option MC) (er : Int) (en : Bool) (tr2 : List TSt) (j2 : JSt) (d2 : DSt) (n2 : Nat) (w7 : World) => Sat B w7 (MO 41 3 v out :: WA tns bw p ops tr2 en j2 d2 n2 :: L) ∧ ActR N p ops j d er en out tr2 j2 d2 ∧ n2 ≤ sn + 1 ∧ (kd = 1 → ctick p ops tr false j d = (out, er, tr2, en, j2, d2))
  refine St_join En5 Iv6 ?_ ?_
  · refine St_ifP rfl (fun h8 => ?_) (fun h8 => ?_)
    · refine St_region (Zm rfl (Zk rfl (Zf un31 inf28 rfl 9 rfl (Zl sc28 rfl (hs.blk_at 3 rfl 9 rfl) ?_))))
      replace hs := hs.F5.F5.F3
      refine Zc fn11 rfl (cTick_c B w4 _ bc bd bj (re p Ao co) ops tr false j d hs (fun t ht => by have := hlens.2 t ht; omega) (by omega) (hci.re Ao co).ageLens hci.jo hci.rows (by show p.on ≤ _; omega)) rfl ?_
      rintro v9 w10 ⟨vt, rfl, hs⟩
      have hR := ((hci.re Ao co).tickR hN).er
      obtain ⟨⟨out, er, tr2, en, j2, d2⟩, ho⟩ : ∃ z, ctick (re p Ao co) ops tr false j d = z := ⟨_, rfl⟩
      rw [ho] at hs hR ⊢
      simp only at hs hR ⊢
      refine Zm rfl (Zr (run_extract rfl rfl) rfl (Zr (run_extract rfl rfl) rfl (Za rfl (Za rfl (Ls_nil ?_)))))
      replace hs := hs.F8.F8.F5.F5.F5.F8
      replace hs := wshut19 hvs hvl hs
      replace hs := hs.E2.E2.F1
      refine Jm_join (vt, out, er, en, tr2, j2, d2, sn) ?_ ?_
      · rw [hEn5]; exact sE ⟨rfl, rfl, rfl, trivial⟩
      rw [hIv6]
      exact ⟨hs, hR, by omega, fun _ => ho⟩
    refine St_seq (Zs (Zr (run_eql rfl rfl) rfl (Za rfl (Zj (St_ifPK rfl (fun h11 => ?_) (fun h11 => ?_))))))
    · refine St_skip (Zq (St_ift rfl (St_seq (Zs (Zm rfl (Zr (run_len un44 rfl) rfl (Zr (run_eql rfl rfl) rfl (Zj (St_ifP rfl (fun h13 => ?_) (fun h13 => ?_))))))))))
      · refine Zs (Za rfl (Za rfl (Zj (St_ret (Jm_then_ret (Jm_then_ret (Jm_block_ret (Jm_then_ret (Jm_ret2 rfl rfl rfl ?_)))))))))
        replace hs := hs.E0.E1.F5.F5.F5.F5.F4.F5
        replace hs := wshut19 hvs hvl hs
        exact ⟨_, rfl, _, none, tr, j, d, sn, rfl, hs.toMoNone, hci.mono (by omega), StepR.same _, by omega, fun q => by omega⟩
      refine St_skip (Zq (St_seq (St_hold (Hold.of (Ls := [_]) hs) mixed (fun w14 q15 => ?_))))
      replace hs := hs.quiet q15
      have hH := Hold.of (Ls := [_]) hs
      refine Ym hH 0 rfl (by kernel_rfl) rfl ?_
      obtain ⟨x0, hx0⟩ : ∃ z, vo.getD 0 T0 = z := ⟨_, rfl⟩
      have hx0m : x0 ∈ vo := by rw [← hx0]; exact getD_mem3 (by omega)
      have hx0t : x0.1 = tr.getD 0 T0.1 := by rw [← hx0, ← hvo, fst_getD]
      have hx0n : x0.1 ∈ tr := by rw [hx0t]; exact getD_mem3 (by omega)
      refine An_index 1  (KT) rfl (by kernel_rfl) (by kernel_rfl) (by kernel_rfl) (fun _ _ _ _ h => h) hH (fun x hx => ((hx.choose_spec.kept 0 rfl).1)) un44 inf43 rfl rfl (by omega) (by omega) hx0 rfl (fun b16 o17 hc18 => (Ya hH 2 rfl (by kernel_rfl) (fun x hx => run_as (run_load_agg agg43 inf43 rfl rfl (hc18 x hx)) (show _ = Value.agg #[.int .i64 x0.1.b, .int .i64 x0.1.a, .int .i64 x0.1.nd, .int .i64 x0.1.ph, .int .i64 x0.1.ti, .slice x0.2.fA x0.1.fr.length x0.2.fc, .slice x0.2.tA x0.1.to.length x0.2.tc] from rfl)) (Ym hH 3 rfl (by kernel_rfl) rfl (An_index 4  (KT) rfl (by kernel_rfl) (by kernel_rfl) (by kernel_rfl) (fun _ _ _ _ h => h) hH (fun x hx => ((hx.choose_spec.kept 0 rfl).1)) un44 inf43 rfl rfl (by omega) (by omega) hx0 rfl (fun b19 o20 hc21 => (Ya hH 5 rfl (by kernel_rfl) (fun x hx => run_field un43 rfl inf25 (by decide) rfl) (Ya hH 6 rfl (by kernel_rfl) (fun x hx => run_load sc25 rfl ((hc21 x hx) 6 _ rfl)) (An_two 7 8 (by kernel_rfl) rfl rfl ?_ ?_))))))))
      · refine Zc fn16 rfl (labout_c w14 8 x0 _ _ _) rfl ?_
        rintro v22 w23 ⟨rfl, hsF⟩
        replace hs := hs.T hsF
        replace hH := Hold.of (Ls := [_]) hs
        refine Ls_nil (Jm_An hH (An_only 8 (by kernel_rfl) rfl (Ls_alloc hs inf41 rfl (fun b25 w24 hs => ?_))))
        replace hs := hs.F1
        replace hH := Hold.of (Ls := [_]) hs
        refine Ls_nil (Jm_An hH (An_only 9 (by kernel_rfl) rfl ?_))
        replace hs := hs.F1
        refine Ls_storeAgg hs inf41 rfl rfl rfl rfl (by simp [Value.oneCell', Value.cells, mcells, tcells]) (fun w26 hs => ?_)
        replace hs := hs.F1
        replace hH := Hold.of (Ls := [_]) hs
        refine Ls_nil (Jm_An hH (An_done (by kernel_rfl) (Zq (St_seq (Zs (Zf un60 inf3 rfl 0 rfl (Zl sc3 rfl (hs.blk_at 3 rfl 0 rfl) (Zr (run_asB (c := true) (run_eql rfl rfl) (by rw [decide_eq_true_eq]; assumption)) rfl (Zj (St_ift rfl (Zs (Zm rfl (Zf un60 inf3 rfl 1 rfl (Zl sc3 rfl (hs.blk_at 3 rfl 1 rfl) ?_))))))))))))))
        obtain ⟨u, hu, hub⟩ := u64_nat' K
        have hul : u % vo.length < vo.length := Nat.mod_lt _ (by omega)
        refine Zr (run_conv_int un67 us3 rfl hu) rfl (Zm rfl (Zr (run_len un44 rfl) rfl (Zr (run_conv_int un67 us3 rfl (wu64 (by omega))) rfl (Zr (run_rem rfl rfl (by omega) (rem_nn' u vo.length)) rfl (Zr (run_conv_int un3 us67 rfl (w64 (by omega))) rfl ?_)))))
        obtain ⟨xi, hxi⟩ : ∃ z, vo.getD (u % vo.length) T0 = z := ⟨_, rfl⟩
        have hxim : xi ∈ vo := by rw [← hxi]; exact getD_mem3 hul
        have hxie : xi.1 = tr.getD (u % vo.length) T0.1 := by rw [← hxi, ← hvo, fst_getD]
        have hxit : xi.1 ∈ tr := by rw [hxie]; exact getD_mem3 (by omega)
        refine Ls_index (KT) ((hs.kept 0 rfl).1) un44 inf43 rfl rfl (by omega) (by omega) (show vo.getD ((u % vo.length : Nat) : Int).toNat T0 = xi from hxi) rfl (fun b28 o29 hc30 => (Zr (run_as (run_load_agg agg43 inf43 rfl rfl hc30) (show _ = Value.agg #[.int .i64 xi.1.b, .int .i64 xi.1.a, .int .i64 xi.1.nd, .int .i64 xi.1.ph, .int .i64 xi.1.ti, .slice xi.2.fA xi.1.fr.length xi.2.fc, .slice xi.2.tA xi.1.to.length xi.2.tc] from rfl)) rfl (Ls_alloc hs inf43 rfl (fun b32 w31 hs => (Ls_storeAgg hs inf43 rfl rfl rfl rfl (by simp [Value.oneCell', Value.cells, mcells, tcells]) (fun w33 hs => (Zj ?_)))))))
        replace hs := hs.F1.F4.F5.F3
        refine St_hold (Hold.of (Ls := [_, _, _, _]) hs) mixed (fun w34 q35 => ?_)
        replace hs := hs.quiet q35
        have hH := Hold.of (Ls := [_, _, _, _]) hs
        refine Ya hH 0 rfl (by kernel_rfl) (fun x hx => run_load_agg agg43 inf43 rfl rfl (hx.choose_spec.blk_cells 0 rfl 0 7)) (Ym hH 1 rfl (by kernel_rfl) rfl (Ya hH 2 rfl (by kernel_rfl) (fun x hx => run_nilCheck rfl) (Ya hH 3 rfl (by kernel_rfl) (fun x hx => run_fd un31 inf24 rfl 0 rfl) (Ya hH 4 rfl (by kernel_rfl) (fun x hx => run_load_agg agg24 inf24 rfl rfl (hx.choose_spec.blk_cells 1 rfl 0 8)) (Ya hH 5 rfl (by kernel_rfl) (fun x hx => run_fd un43 inf25 rfl 5 rfl) (Ya hH 6 rfl (by kernel_rfl) (fun x hx => run_load sc25 rfl (hx.choose_spec.blk_at 0 rfl 5 rfl)) (Ya hH 7 rfl (by kernel_rfl) (fun x hx => run_fd un60 inf25 rfl 2 rfl) (Ya hH 8 rfl (by kernel_rfl) (fun x hx => run_load sc25 rfl (hx.choose_spec.blk_at 2 rfl 2 rfl)) (An_only 9 (by kernel_rfl) rfl ?_)))))))))
        obtain ⟨mb, hmb⟩ : ∃ z : Nat, p.ba + 1 = (z : Int) := ⟨(p.ba + 1).toNat, by omega⟩
        refine Zc fn14 rfl (onward_c w34 p xi.2.fA xi.2.fc xi.1.fr (((hs.kept 3 rfl).2 _ hxim).1) A1 n1 c1 ol (hr1.inB hs) hn1 mb hmb (by omega) (by have := hlens.2 xi.1 hxit; omega) (fun y hy => (hlens.2 xi.1 hxit).2.2.1 y hy)) rfl ?_
        rintro v36 w37 ⟨xs, eA, eC, hxo, rfl, hsO⟩
        replace hs := hs.T hsO
        have hxl : xs.length = xi.1.fr.length := hxo.1
        replace hs := hs.F4.F4.F4.F4
        replace hH := Hold.of (Ls := [_, _, _, _]) hs
        refine Ls_nil (Jm_An hH (An_only 10 (by kernel_rfl) rfl (Zc fn16 rfl (labout_c w37 2 xi _ _ _) rfl ?_)))
        rintro v38 w39 ⟨rfl, hsF⟩
        replace hs := hs.T hsF
        replace hs := hs.F3.F3.F3.F3
        replace hH := Hold.of (Ls := [_, _, _, _]) hs
        refine Ls_nil (Jm_An hH (An_only 11 (by kernel_rfl) rfl ?_))
        replace hs := hs.F5
        refine Ls_storeAgg hs inf41 rfl rfl rfl rfl (by simp [Value.oneCell', Value.cells, mcells, tcells]) (fun w40 hs => ?_)
        replace hs := hs.F4.F4.F4.F4
        replace hH := Hold.of (Ls := [_, _, _, _]) hs
        refine Ls_nil (Jm_An hH (An_done (by kernel_rfl) (Zq (St_seq (Zs (Zf un41 inf25 rfl 6 rfl (Zl sc25 rfl (hs.blk_at 4 rfl 6 rfl) ?_)))))))
        have hfr := (hci.ts.ends (note_eb hci.jo.1).1 (u % vo.length) (by omega)).1
        have hk2 := hci.nums
        unfold numsOk at hk2
        rw [← hxie] at hfr
        have hfl := hfr.1
        rw [hci.jp] at hfl
        have hes4 : xs.length ≤ 4 := by omega
        have hsnt : Msound (aboutT 2 xi.1 xs) := by rw [hxie]; exact hci.about hN (by omega) (.inl rfl) (onw_facts hxo hfr).1
        refine Zr (run_len un25 rfl) rfl (Zr (run_asB (c := false) (run_eql rfl rfl) (decide_eq_false (by omega))) rfl (Zj (St_iff rfl (St_skip (Zq (St_seq ?_))))))
        replace hs := hs.F4.F2
        refine St_holdC 10 (Hold.of (Ls := [_, _]) hs) mixed (fun w42 q43 => ?_)
        replace hs := hs.quiet q43
        have hH := Hold.of (Ls := [_, _]) hs
        refine Yr (fun _ => hH) 0 rfl (by kernel_rfl) (fun x => run_move rfl) (Yr (fun _ => hH) 1 rfl (by kernel_rfl) (fun x => run_move rfl) (Yr (fun _ => hH) 2 rfl (by kernel_rfl) (fun x => run_nilCheck rfl) (Yr (fun _ => hH) 3 rfl (by kernel_rfl) (fun x => run_fd un31 inf29 rfl 10 rfl) (Yd hH 4 [10, 4] rfl (by kernel_rfl) (fun x hx => run_load sc29 rfl (hx.choose_spec.blk_at 0 rfl 10 rfl)) (Yd hH 5 [10, 5] rfl (by kernel_rfl) (fun x hx => run_load_agg agg41 inf41 rfl rfl (hx.choose_spec.blk_cells 1 rfl 0 9)) (AnC_only 6 (by kernel_rfl) rfl (Ls_literal [_] hs un29 inf41 rfl rfl rfl rfl rfl rfl (fun b44 w45 hs => ?_))))))))
        simp only [List.flatMap_cons, List.flatMap_nil, Value.cells, List.cons_append, List.nil_append] at hs
        replace hs := hs.F2.F2
        replace hH := Hold.of (Ls := [_, _]) hs
        refine Ls_nil (Jm_AnC (fun _ => hH) (AnC_only 7 (by kernel_rfl) rfl ?_))
        replace hs := hs.F10
        refine Ls_append hs un29 inf41 rfl (by decide) (by decide) rfl rfl (rd_block (hs.is_at 3 rfl).2 9 1 rfl) (by simp [Value.oneCell', mcells]) (by omega) rfl (fun A46 c47 w48 hs => ?_)
        replace hs := hs.E3
        rw [← hxl] at hs ⊢
        rw [KM_snoc vs (aboutT 2 xi.1 xs) (⟨eA, xs.length, eC, none, 0, 0, none, 0, 0⟩ : MP) _ (by simp [mcells, aboutT])] at hs
        obtain ⟨v2, hv2⟩ : ∃ z, vs ++ [(aboutT 2 xi.1 xs, (⟨eA, xs.length, eC, none, 0, 0, none, 0, 0⟩ : MP))] = z := ⟨_, rfl⟩
        have hl2 : vs.length + 1 = v2.length := by rw [← hv2]; simp
        rw [hv2, hl2] at hs
        rw [hl2]
        have hmem : (aboutT 2 xi.1 xs, (⟨eA, xs.length, eC, none, 0, 0, none, 0, 0⟩ : MP)) ∈ v2 := by rw [← hv2]; simp
        replace hs := hs.F2.F2
        replace hH := Hold.of (Ls := [_, _]) hs
        refine Ls_nil (Jm_AnC (fun _ => hH) (Yr (fun _ => hH) 8 rfl (by kernel_rfl) (fun x => run_nilCheck rfl) (Yr (fun _ => hH) 9 rfl (by kernel_rfl) (fun x => run_fd un31 inf29 rfl 10 rfl) (AnC_only 10 (by kernel_rfl) rfl (Ls_store hs inf29 rfl rfl rfl rfl (fun w49 hs => ?_))))))
        try simp only [List.set_cons_zero, List.set_cons_succ] at hs
        refine Ls_nil (Jm_AnC_closed (by kernel_rfl) (AnC_done (by kernel_rfl) (Zq ?_)))
        replace hs := hs.F1.F1
        refine St_hold (Hold.of (Ls := [_, _]) hs) mixed (fun w50 q51 => ?_)
        replace hs := hs.quiet q51
        have hH := Hold.of (Ls := [_, _]) hs
        refine Ym hH 0 rfl (by kernel_rfl) rfl (Ya hH 1 rfl (by kernel_rfl) (fun x hx => run_nilCheck rfl) (Ya hH 2 rfl (by kernel_rfl) (fun x hx => run_fd un31 inf28 rfl 9 rfl) (Ya hH 3 rfl (by kernel_rfl) (fun x hx => run_load sc28 rfl (hx.choose_spec.blk_at 0 rfl 9 rfl)) (Ya hH 4 rfl (by kernel_rfl) (fun x hx => run_load_agg agg41 inf41 rfl rfl (hx.choose_spec.blk_cells 1 rfl 0 9)) (An_only 5 (by kernel_rfl) rfl ?_)))))
        replace hs := hs.F10.F7
        replace hs := hs.ownKeep (H := SK v2) (fun w h1 h2 => hv2 ▸ h2.add (msg_of (t := xi.1) (k := 2) h1))
        replace hs := hs.F9.F9.F9
        have hms := hsnt
        refine Zc fn15 rfl (cTake_c B w50 _ bc bd bj (re p Ao co) ops tr false j d hs hci.jo hci.rows (aboutT 2 xi.1 xs) (⟨eA, xs.length, eC, none, 0, 0, none, 0, 0⟩ : MP) (fun w' X z => (z.kept 1 rfl) _ hmem) rfl (by refine ⟨?_, ?_, ?_⟩ <;> simp only <;> omega) (by omega) (fun t ht => by have := hlens.2 t ht; omega) (fun t ht => by have := hlens.2 t ht; exact ⟨by omega, this.2.2.1⟩)) rfl ?_
        rintro v52 w53 ⟨vt, rfl, hs⟩
        have hR := ((hci.re Ao co).takeR hN hms rfl (.inl rfl)).er
        obtain ⟨⟨out, er, tr2, en, j2, d2⟩, ho⟩ : ∃ z, ctake (re p Ao co) tr false j d (aboutT 2 xi.1 xs) = z := ⟨_, rfl⟩
        rw [ho] at hs hR ⊢
        simp only at hs hR ⊢
        have hvs2 : ∀ x ∈ v2, MSent x := hv2 ▸ MSent.add hvs ⟨⟨rfl, hes4, rfl, rfl⟩, hms, rfl, .inl rfl⟩
        replace hs := hs.F6.F6
        replace hH := Hold.of (Ls := [_, _]) hs
        refine Ls_nil (Jm_An hH (Ym hH 6 rfl (by kernel_rfl) rfl (Ya hH 7 rfl (by kernel_rfl) (fun x hx => run_extract rfl rfl) (Ya hH 8 rfl (by kernel_rfl) (fun x hx => run_extract rfl rfl) (Ya hH 9 rfl (by kernel_rfl) (fun x hx => run_assign rfl) (Ya hH 10 rfl (by kernel_rfl) (fun x hx => run_assign rfl) (An_done (by kernel_rfl) ?_)))))))
        replace hvl : v2.length ≤ sn + 1 := by omega
        clear hvs
        have hvs := hvs2
        replace hs := hs.F6.F7.F7.F7.F7.F5
        replace hs := wshut19 hvs hvl hs
        replace hs := hs.E1.E2.E2.E2.F1
        refine Jm_join (vt, out, er, en, tr2, j2, d2, sn + 1) ?_ ?_
        · rw [hEn5]; exact sE ⟨rfl, rfl, rfl, trivial⟩
        rw [hIv6]
        exact ⟨hs, hR, by omega, fun q => by omega⟩
      refine Ls_alloc hs inf41 rfl (fun b55 w54 hs => ?_)
      replace hs := hs.F1
      replace hH := Hold.of (Ls := [_]) hs
      refine Ls_nil (Jm_An hH (An_only 7 (by kernel_rfl) rfl (Zc fn16 rfl (labout_c w54 8 x0 _ _ _) rfl ?_)))
      rintro v56 w57 ⟨rfl, hsF⟩
      replace hs := hs.T hsF
      replace hH := Hold.of (Ls := [_]) hs
      refine Ls_nil (Jm_An hH (An_only 9 (by kernel_rfl) rfl ?_))
      replace hs := hs.F1
      refine Ls_storeAgg hs inf41 rfl rfl rfl rfl (by simp [Value.oneCell', Value.cells, mcells, tcells]) (fun w58 hs => ?_)
      replace hs := hs.F1
      replace hH := Hold.of (Ls := [_]) hs
      refine Ls_nil (Jm_An hH (An_done (by kernel_rfl) (Zq (St_seq (Zs (Zf un60 inf3 rfl 0 rfl (Zl sc3 rfl (hs.blk_at 3 rfl 0 rfl) (Zr (run_asB (c := true) (run_eql rfl rfl) (by rw [decide_eq_true_eq]; assumption)) rfl (Zj (St_ift rfl (Zs (Zm rfl (Zf un60 inf3 rfl 1 rfl (Zl sc3 rfl (hs.blk_at 3 rfl 1 rfl) ?_))))))))))))))
      obtain ⟨u, hu, hub⟩ := u64_nat' K
      have hul : u % vo.length < vo.length := Nat.mod_lt _ (by omega)
      refine Zr (run_conv_int un67 us3 rfl hu) rfl (Zm rfl (Zr (run_len un44 rfl) rfl (Zr (run_conv_int un67 us3 rfl (wu64 (by omega))) rfl (Zr (run_rem rfl rfl (by omega) (rem_nn' u vo.length)) rfl (Zr (run_conv_int un3 us67 rfl (w64 (by omega))) rfl ?_)))))
      obtain ⟨xi, hxi⟩ : ∃ z, vo.getD (u % vo.length) T0 = z := ⟨_, rfl⟩
      have hxim : xi ∈ vo := by rw [← hxi]; exact getD_mem3 hul
      have hxie : xi.1 = tr.getD (u % vo.length) T0.1 := by rw [← hxi, ← hvo, fst_getD]
      have hxit : xi.1 ∈ tr := by rw [hxie]; exact getD_mem3 (by omega)
      refine Ls_index (KT) ((hs.kept 0 rfl).1) un44 inf43 rfl rfl (by omega) (by omega) (show vo.getD ((u % vo.length : Nat) : Int).toNat T0 = xi from hxi) rfl (fun b60 o61 hc62 => (Zr (run_as (run_load_agg agg43 inf43 rfl rfl hc62) (show _ = Value.agg #[.int .i64 xi.1.b, .int .i64 xi.1.a, .int .i64 xi.1.nd, .int .i64 xi.1.ph, .int .i64 xi.1.ti, .slice xi.2.fA xi.1.fr.length xi.2.fc, .slice xi.2.tA xi.1.to.length xi.2.tc] from rfl)) rfl (Ls_alloc hs inf43 rfl (fun b64 w63 hs => (Ls_storeAgg hs inf43 rfl rfl rfl rfl (by simp [Value.oneCell', Value.cells, mcells, tcells]) (fun w65 hs => (Zj ?_)))))))
      replace hs := hs.F1.F4.F5.F3
      refine St_hold (Hold.of (Ls := [_, _, _, _]) hs) mixed (fun w66 q67 => ?_)
      replace hs := hs.quiet q67
      have hH := Hold.of (Ls := [_, _, _, _]) hs
      refine Ya hH 0 rfl (by kernel_rfl) (fun x hx => run_load_agg agg43 inf43 rfl rfl (hx.choose_spec.blk_cells 0 rfl 0 7)) (Ym hH 1 rfl (by kernel_rfl) rfl (Ya hH 2 rfl (by kernel_rfl) (fun x hx => run_nilCheck rfl) (Ya hH 3 rfl (by kernel_rfl) (fun x hx => run_fd un31 inf24 rfl 0 rfl) (Ya hH 4 rfl (by kernel_rfl) (fun x hx => run_load_agg agg24 inf24 rfl rfl (hx.choose_spec.blk_cells 1 rfl 0 8)) (Ya hH 5 rfl (by kernel_rfl) (fun x hx => run_fd un43 inf25 rfl 5 rfl) (Ya hH 6 rfl (by kernel_rfl) (fun x hx => run_load sc25 rfl (hx.choose_spec.blk_at 0 rfl 5 rfl)) (Ya hH 7 rfl (by kernel_rfl) (fun x hx => run_fd un60 inf25 rfl 2 rfl) (Ya hH 8 rfl (by kernel_rfl) (fun x hx => run_load sc25 rfl (hx.choose_spec.blk_at 2 rfl 2 rfl)) (An_only 9 (by kernel_rfl) rfl ?_)))))))))
      obtain ⟨mb, hmb⟩ : ∃ z : Nat, p.ba + 1 = (z : Int) := ⟨(p.ba + 1).toNat, by omega⟩
      refine Zc fn14 rfl (onward_c w66 p xi.2.fA xi.2.fc xi.1.fr (((hs.kept 3 rfl).2 _ hxim).1) A1 n1 c1 ol (hr1.inB hs) hn1 mb hmb (by omega) (by have := hlens.2 xi.1 hxit; omega) (fun y hy => (hlens.2 xi.1 hxit).2.2.1 y hy)) rfl ?_
      rintro v68 w69 ⟨xs, eA, eC, hxo, rfl, hsO⟩
      replace hs := hs.T hsO
      have hxl : xs.length = xi.1.fr.length := hxo.1
      replace hs := hs.F4.F4.F4.F4
      replace hH := Hold.of (Ls := [_, _, _, _]) hs
      refine Ls_nil (Jm_An hH (An_only 10 (by kernel_rfl) rfl (Zc fn16 rfl (labout_c w69 2 xi _ _ _) rfl ?_)))
      rintro v70 w71 ⟨rfl, hsF⟩
      replace hs := hs.T hsF
      replace hs := hs.F3.F3.F3.F3
      replace hH := Hold.of (Ls := [_, _, _, _]) hs
      refine Ls_nil (Jm_An hH (An_only 11 (by kernel_rfl) rfl ?_))
      replace hs := hs.F5
      refine Ls_storeAgg hs inf41 rfl rfl rfl rfl (by simp [Value.oneCell', Value.cells, mcells, tcells]) (fun w72 hs => ?_)
      replace hs := hs.F4.F4.F4.F4
      replace hH := Hold.of (Ls := [_, _, _, _]) hs
      refine Ls_nil (Jm_An hH (An_done (by kernel_rfl) (Zq (St_seq (Zs (Zf un41 inf25 rfl 6 rfl (Zl sc25 rfl (hs.blk_at 4 rfl 6 rfl) ?_)))))))
      have hfr := (hci.ts.ends (note_eb hci.jo.1).1 (u % vo.length) (by omega)).1
      have hk2 := hci.nums
      unfold numsOk at hk2
      rw [← hxie] at hfr
      have hfl := hfr.1
      rw [hci.jp] at hfl
      have hes4 : xs.length ≤ 4 := by omega
      have hsnt : Msound (aboutT 2 xi.1 xs) := by rw [hxie]; exact hci.about hN (by omega) (.inl rfl) (onw_facts hxo hfr).1
      refine Zr (run_len un25 rfl) rfl (Zr (run_asB (c := false) (run_eql rfl rfl) (decide_eq_false (by omega))) rfl (Zj (St_iff rfl (St_skip (Zq (St_seq ?_))))))
      replace hs := hs.F4.F2
      refine St_holdC 10 (Hold.of (Ls := [_, _]) hs) mixed (fun w74 q75 => ?_)
      replace hs := hs.quiet q75
      have hH := Hold.of (Ls := [_, _]) hs
      refine Yr (fun _ => hH) 0 rfl (by kernel_rfl) (fun x => run_move rfl) (Yr (fun _ => hH) 1 rfl (by kernel_rfl) (fun x => run_move rfl) (Yr (fun _ => hH) 2 rfl (by kernel_rfl) (fun x => run_nilCheck rfl) (Yr (fun _ => hH) 3 rfl (by kernel_rfl) (fun x => run_fd un31 inf29 rfl 10 rfl) (Yd hH 4 [10, 4] rfl (by kernel_rfl) (fun x hx => run_load sc29 rfl (hx.choose_spec.blk_at 0 rfl 10 rfl)) (Yd hH 5 [10, 5] rfl (by kernel_rfl) (fun x hx => run_load_agg agg41 inf41 rfl rfl (hx.choose_spec.blk_cells 1 rfl 0 9)) (AnC_only 6 (by kernel_rfl) rfl (Ls_literal [_] hs un29 inf41 rfl rfl rfl rfl rfl rfl (fun b76 w77 hs => ?_))))))))
      simp only [List.flatMap_cons, List.flatMap_nil, Value.cells, List.cons_append, List.nil_append] at hs
      replace hs := hs.F2.F2
      replace hH := Hold.of (Ls := [_, _]) hs
      refine Ls_nil (Jm_AnC (fun _ => hH) (AnC_only 7 (by kernel_rfl) rfl ?_))
      replace hs := hs.F10
      refine Ls_append hs un29 inf41 rfl (by decide) (by decide) rfl rfl (rd_block (hs.is_at 3 rfl).2 9 1 rfl) (by simp [Value.oneCell', mcells]) (by omega) rfl (fun A78 c79 w80 hs => ?_)
      replace hs := hs.E3
      rw [← hxl] at hs ⊢
      rw [KM_snoc vs (aboutT 2 xi.1 xs) (⟨eA, xs.length, eC, none, 0, 0, none, 0, 0⟩ : MP) _ (by simp [mcells, aboutT])] at hs
      obtain ⟨v2, hv2⟩ : ∃ z, vs ++ [(aboutT 2 xi.1 xs, (⟨eA, xs.length, eC, none, 0, 0, none, 0, 0⟩ : MP))] = z := ⟨_, rfl⟩
      have hl2 : vs.length + 1 = v2.length := by rw [← hv2]; simp
      rw [hv2, hl2] at hs
      rw [hl2]
      have hmem : (aboutT 2 xi.1 xs, (⟨eA, xs.length, eC, none, 0, 0, none, 0, 0⟩ : MP)) ∈ v2 := by rw [← hv2]; simp
      replace hs := hs.F2.F2
      replace hH := Hold.of (Ls := [_, _]) hs
      refine Ls_nil (Jm_AnC (fun _ => hH) (Yr (fun _ => hH) 8 rfl (by kernel_rfl) (fun x => run_nilCheck rfl) (Yr (fun _ => hH) 9 rfl (by kernel_rfl) (fun x => run_fd un31 inf29 rfl 10 rfl) (AnC_only 10 (by kernel_rfl) rfl (Ls_store hs inf29 rfl rfl rfl rfl (fun w81 hs => ?_))))))
      try simp only [List.set_cons_zero, List.set_cons_succ] at hs
      refine Ls_nil (Jm_AnC_closed (by kernel_rfl) (AnC_done (by kernel_rfl) (Zq ?_)))
      replace hs := hs.F1.F1
      refine St_hold (Hold.of (Ls := [_, _]) hs) mixed (fun w82 q83 => ?_)
      replace hs := hs.quiet q83
      have hH := Hold.of (Ls := [_, _]) hs
      refine Ym hH 0 rfl (by kernel_rfl) rfl (Ya hH 1 rfl (by kernel_rfl) (fun x hx => run_nilCheck rfl) (Ya hH 2 rfl (by kernel_rfl) (fun x hx => run_fd un31 inf28 rfl 9 rfl) (Ya hH 3 rfl (by kernel_rfl) (fun x hx => run_load sc28 rfl (hx.choose_spec.blk_at 0 rfl 9 rfl)) (Ya hH 4 rfl (by kernel_rfl) (fun x hx => run_load_agg agg41 inf41 rfl rfl (hx.choose_spec.blk_cells 1 rfl 0 9)) (An_only 5 (by kernel_rfl) rfl ?_)))))
      replace hs := hs.F10.F7
      replace hs := hs.ownKeep (H := SK v2) (fun w h1 h2 => hv2 ▸ h2.add (msg_of (t := xi.1) (k := 2) h1))
      replace hs := hs.F9.F9.F9
      have hms := hsnt
      refine Zc fn15 rfl (cTake_c B w82 _ bc bd bj (re p Ao co) ops tr false j d hs hci.jo hci.rows (aboutT 2 xi.1 xs) (⟨eA, xs.length, eC, none, 0, 0, none, 0, 0⟩ : MP) (fun w' X z => (z.kept 1 rfl) _ hmem) rfl (by refine ⟨?_, ?_, ?_⟩ <;> simp only <;> omega) (by omega) (fun t ht => by have := hlens.2 t ht; omega) (fun t ht => by have := hlens.2 t ht; exact ⟨by omega, this.2.2.1⟩)) rfl ?_
      rintro v84 w85 ⟨vt, rfl, hs⟩
      have hR := ((hci.re Ao co).takeR hN hms rfl (.inl rfl)).er
      obtain ⟨⟨out, er, tr2, en, j2, d2⟩, ho⟩ : ∃ z, ctake (re p Ao co) tr false j d (aboutT 2 xi.1 xs) = z := ⟨_, rfl⟩
      rw [ho] at hs hR ⊢
      simp only at hs hR ⊢
      have hvs2 : ∀ x ∈ v2, MSent x := hv2 ▸ MSent.add hvs ⟨⟨rfl, hes4, rfl, rfl⟩, hms, rfl, .inl rfl⟩
      replace hs := hs.F6.F6
      replace hH := Hold.of (Ls := [_, _]) hs
      refine Ls_nil (Jm_An hH (Ym hH 6 rfl (by kernel_rfl) rfl (Ya hH 7 rfl (by kernel_rfl) (fun x hx => run_extract rfl rfl) (Ya hH 8 rfl (by kernel_rfl) (fun x hx => run_extract rfl rfl) (Ya hH 9 rfl (by kernel_rfl) (fun x hx => run_assign rfl) (Ya hH 10 rfl (by kernel_rfl) (fun x hx => run_assign rfl) (An_done (by kernel_rfl) ?_)))))))
      replace hvl : v2.length ≤ sn + 1 := by omega
      clear hvs
      have hvs := hvs2
      replace hs := hs.F6.F7.F7.F7.F7.F5
      replace hs := wshut19 hvs hvl hs
      replace hs := hs.E1.E2.E2.E2.F1
      refine Jm_join (vt, out, er, en, tr2, j2, d2, sn + 1) ?_ ?_
      · rw [hEn5]; exact sE ⟨rfl, rfl, rfl, trivial⟩
      rw [hIv6]
      exact ⟨hs, hR, by omega, fun q => by omega⟩
    refine St_region (Zr (run_eql rfl rfl) rfl (Za rfl (Zj (St_ifPK rfl (fun h86 => ?_) (fun h86 => ?_)))))
    · refine St_seq (Zs (Zm rfl (Zr (run_len un44 rfl) rfl (Zr (run_eql rfl rfl) rfl (Zj (St_ifP rfl (fun h87 => ?_) (fun h87 => ?_)))))))
      · refine Zs (Za rfl (Za rfl (Zj (St_ret (Jm_then_ret (Jm_then_ret (Jm_block_ret (Jm_then_ret (Jm_ret2 rfl rfl rfl ?_)))))))))
        replace hs := hs.E0.E1.F5.F5.F5.F5.F4.F5
        replace hs := wshut19 hvs hvl hs
        exact ⟨_, rfl, _, none, tr, j, d, sn, rfl, hs.toMoNone, hci.mono (by omega), StepR.same _, by omega, fun q => by omega⟩
      refine St_skip (Zq (St_seq (St_hold (Hold.of (Ls := [_]) hs) mixed (fun w88 q89 => ?_))))
      replace hs := hs.quiet q89
      have hH := Hold.of (Ls := [_]) hs
      refine Ym hH 0 rfl (by kernel_rfl) rfl ?_
      obtain ⟨x0, hx0⟩ : ∃ z, vo.getD 0 T0 = z := ⟨_, rfl⟩
      have hx0m : x0 ∈ vo := by rw [← hx0]; exact getD_mem3 (by omega)
      have hx0t : x0.1 = tr.getD 0 T0.1 := by rw [← hx0, ← hvo, fst_getD]
      have hx0n : x0.1 ∈ tr := by rw [hx0t]; exact getD_mem3 (by omega)
      refine An_index 1  (KT) rfl (by kernel_rfl) (by kernel_rfl) (by kernel_rfl) (fun _ _ _ _ h => h) hH (fun x hx => ((hx.choose_spec.kept 0 rfl).1)) un44 inf43 rfl rfl (by omega) (by omega) hx0 rfl (fun b90 o91 hc92 => (Ya hH 2 rfl (by kernel_rfl) (fun x hx => run_as (run_load_agg agg43 inf43 rfl rfl (hc92 x hx)) (show _ = Value.agg #[.int .i64 x0.1.b, .int .i64 x0.1.a, .int .i64 x0.1.nd, .int .i64 x0.1.ph, .int .i64 x0.1.ti, .slice x0.2.fA x0.1.fr.length x0.2.fc, .slice x0.2.tA x0.1.to.length x0.2.tc] from rfl)) (Ym hH 3 rfl (by kernel_rfl) rfl (An_index 4  (KT) rfl (by kernel_rfl) (by kernel_rfl) (by kernel_rfl) (fun _ _ _ _ h => h) hH (fun x hx => ((hx.choose_spec.kept 0 rfl).1)) un44 inf43 rfl rfl (by omega) (by omega) hx0 rfl (fun b93 o94 hc95 => (Ya hH 5 rfl (by kernel_rfl) (fun x hx => run_field un43 rfl inf25 (by decide) rfl) (Ya hH 6 rfl (by kernel_rfl) (fun x hx => run_load sc25 rfl ((hc95 x hx) 6 _ rfl)) (An_two 7 8 (by kernel_rfl) rfl rfl ?_ ?_))))))))
      · refine Zc fn16 rfl (labout_c w88 8 x0 _ _ _) rfl ?_
        rintro v96 w97 ⟨rfl, hsF⟩
        replace hs := hs.T hsF
        replace hH := Hold.of (Ls := [_]) hs
        refine Ls_nil (Jm_An hH (An_only 8 (by kernel_rfl) rfl (Ls_alloc hs inf41 rfl (fun b99 w98 hs => ?_))))
        replace hs := hs.F1
        replace hH := Hold.of (Ls := [_]) hs
        refine Ls_nil (Jm_An hH (An_only 9 (by kernel_rfl) rfl ?_))
        replace hs := hs.F1
        refine Ls_storeAgg hs inf41 rfl rfl rfl rfl (by simp [Value.oneCell', Value.cells, mcells, tcells]) (fun w100 hs => ?_)
        replace hs := hs.F1
        replace hH := Hold.of (Ls := [_]) hs
        refine Ls_nil (Jm_An hH (An_done (by kernel_rfl) (Zq (St_seq (Zs (Zf un60 inf3 rfl 0 rfl (Zl sc3 rfl (hs.blk_at 3 rfl 0 rfl) (Zr (run_asB (c := false) (run_eql rfl rfl) (by rw [decide_eq_false_iff_not]; assumption)) rfl (Zj (St_iff rfl (St_skip (Zq (St_seq (Zs (Zf un41 inf25 rfl 6 rfl (Zl sc25 rfl (hs.blk_at 1 rfl 6 rfl) (Zr (run_len un25 rfl) rfl (Zr (run_eql rfl rfl) rfl (Zj (St_ifP rfl (fun h102 => ?_) (fun h102 => ?_)))))))))))))))))))))
        · refine Zs (Za rfl (Za rfl (Zj (St_ret (Jm_then_ret (Jm_then_ret (Jm_block_ret (Jm_then_ret (Jm_ret2 rfl rfl rfl ?_)))))))))
          replace hs := hs.E0.E0.E1.F5.F5.F5.F5.F4.F5
          replace hs := wshut19 hvs hvl hs
          exact ⟨_, rfl, _, none, tr, j, d, sn, rfl, hs.toMoNone, hci.mono (by omega), StepR.same _, by omega, fun q => by omega⟩
        have hes4 : x0.1.to.length ≤ 4 := (hlens.2 _ hx0n).2.1
        have hph : (tr.getD 0 T0.1).ph ≠ 1 := fun q => by have h9 := ((hci.ts.at_ 0 (by omega)).rd q).2; rw [← hx0t] at h9; rw [h9] at h102; exact h102 (by simp)
        have hsnt : Msound (aboutT 8 x0.1 x0.1.to) := by rw [hx0t]; exact hci.about hN (by omega) (.inr rfl) ((hci.ts.ends (note_eb hci.jo.1).1 0 (by omega)).2 hph)
        refine St_skip (Zq (St_seq ?_))
        replace hs := hs.F1.F4
        refine St_holdC 10 (Hold.of (Ls := [_, _]) hs) mixed (fun w103 q104 => ?_)
        replace hs := hs.quiet q104
        have hH := Hold.of (Ls := [_, _]) hs
        refine Yr (fun _ => hH) 0 rfl (by kernel_rfl) (fun x => run_move rfl) (Yr (fun _ => hH) 1 rfl (by kernel_rfl) (fun x => run_move rfl) (Yr (fun _ => hH) 2 rfl (by kernel_rfl) (fun x => run_nilCheck rfl) (Yr (fun _ => hH) 3 rfl (by kernel_rfl) (fun x => run_fd un31 inf29 rfl 10 rfl) (Yd hH 4 [10, 4] rfl (by kernel_rfl) (fun x hx => run_load sc29 rfl (hx.choose_spec.blk_at 0 rfl 10 rfl)) (Yd hH 5 [10, 5] rfl (by kernel_rfl) (fun x hx => run_load_agg agg41 inf41 rfl rfl (hx.choose_spec.blk_cells 1 rfl 0 9)) (AnC_only 6 (by kernel_rfl) rfl (Ls_literal [_] hs un29 inf41 rfl rfl rfl rfl rfl rfl (fun b105 w106 hs => ?_))))))))
        simp only [List.flatMap_cons, List.flatMap_nil, Value.cells, List.cons_append, List.nil_append] at hs
        replace hs := hs.F2.F2
        replace hH := Hold.of (Ls := [_, _]) hs
        refine Ls_nil (Jm_AnC (fun _ => hH) (AnC_only 7 (by kernel_rfl) rfl ?_))
        replace hs := hs.F8
        refine Ls_append hs un29 inf41 rfl (by decide) (by decide) rfl rfl (rd_block (hs.is_at 3 rfl).2 9 1 rfl) (by simp [Value.oneCell', mcells]) (by omega) rfl (fun A107 c108 w109 hs => ?_)
        replace hs := hs.E3
        rw [KM_snoc vs (aboutT 8 x0.1 x0.1.to) (⟨x0.2.tA, x0.1.to.length, x0.2.tc, none, 0, 0, none, 0, 0⟩ : MP) _ (by simp [mcells, aboutT])] at hs
        obtain ⟨v2, hv2⟩ : ∃ z, vs ++ [(aboutT 8 x0.1 x0.1.to, (⟨x0.2.tA, x0.1.to.length, x0.2.tc, none, 0, 0, none, 0, 0⟩ : MP))] = z := ⟨_, rfl⟩
        have hl2 : vs.length + 1 = v2.length := by rw [← hv2]; simp
        rw [hv2, hl2] at hs
        rw [hl2]
        have hmem : (aboutT 8 x0.1 x0.1.to, (⟨x0.2.tA, x0.1.to.length, x0.2.tc, none, 0, 0, none, 0, 0⟩ : MP)) ∈ v2 := by rw [← hv2]; simp
        replace hs := hs.F2.F2
        replace hH := Hold.of (Ls := [_, _]) hs
        refine Ls_nil (Jm_AnC (fun _ => hH) (Yr (fun _ => hH) 8 rfl (by kernel_rfl) (fun x => run_nilCheck rfl) (Yr (fun _ => hH) 9 rfl (by kernel_rfl) (fun x => run_fd un31 inf29 rfl 10 rfl) (AnC_only 10 (by kernel_rfl) rfl (Ls_store hs inf29 rfl rfl rfl rfl (fun w110 hs => ?_))))))
        try simp only [List.set_cons_zero, List.set_cons_succ] at hs
        refine Ls_nil (Jm_AnC_closed (by kernel_rfl) (AnC_done (by kernel_rfl) (Zq ?_)))
        replace hs := hs.F1.F1
        refine St_hold (Hold.of (Ls := [_, _]) hs) mixed (fun w111 q112 => ?_)
        replace hs := hs.quiet q112
        have hH := Hold.of (Ls := [_, _]) hs
        refine Ym hH 0 rfl (by kernel_rfl) rfl (Ya hH 1 rfl (by kernel_rfl) (fun x hx => run_nilCheck rfl) (Ya hH 2 rfl (by kernel_rfl) (fun x hx => run_fd un31 inf28 rfl 9 rfl) (Ya hH 3 rfl (by kernel_rfl) (fun x hx => run_load sc28 rfl (hx.choose_spec.blk_at 0 rfl 9 rfl)) (Ya hH 4 rfl (by kernel_rfl) (fun x hx => run_load_agg agg41 inf41 rfl rfl (hx.choose_spec.blk_cells 1 rfl 0 9)) (An_only 5 (by kernel_rfl) rfl ?_)))))
        replace hs := hs.F8.F4
        replace hs := hs.keep2 (H := SK v2) (fun w h1 h2 => hv2 ▸ h2.add (msg_of (t := x0.1) (k := 8) (h1.2 _ hx0m).2))
        replace hs := hs.F7.F7.F6
        have hms := hsnt
        refine Zc fn15 rfl (cTake_c B w111 _ bc bd bj (re p Ao co) ops tr false j d hs hci.jo hci.rows (aboutT 8 x0.1 x0.1.to) (⟨x0.2.tA, x0.1.to.length, x0.2.tc, none, 0, 0, none, 0, 0⟩ : MP) (fun w' X z => (z.kept 1 rfl) _ hmem) rfl (by refine ⟨?_, ?_, ?_⟩ <;> simp only <;> omega) (by omega) (fun t ht => by have := hlens.2 t ht; omega) (fun t ht => by have := hlens.2 t ht; exact ⟨by omega, this.2.2.1⟩)) rfl ?_
        rintro v113 w114 ⟨vt, rfl, hs⟩
        have hR := ((hci.re Ao co).takeR hN hms rfl (.inr rfl)).er
        obtain ⟨⟨out, er, tr2, en, j2, d2⟩, ho⟩ : ∃ z, ctake (re p Ao co) tr false j d (aboutT 8 x0.1 x0.1.to) = z := ⟨_, rfl⟩
        rw [ho] at hs hR ⊢
        simp only at hs hR ⊢
        have hvs2 : ∀ x ∈ v2, MSent x := hv2 ▸ MSent.add hvs ⟨⟨rfl, hes4, rfl, rfl⟩, hms, rfl, .inr rfl⟩
        replace hs := hs.F6.F6
        replace hH := Hold.of (Ls := [_, _]) hs
        refine Ls_nil (Jm_An hH (Ym hH 6 rfl (by kernel_rfl) rfl (Ya hH 7 rfl (by kernel_rfl) (fun x hx => run_extract rfl rfl) (Ya hH 8 rfl (by kernel_rfl) (fun x hx => run_extract rfl rfl) (Ya hH 9 rfl (by kernel_rfl) (fun x hx => run_assign rfl) (Ya hH 10 rfl (by kernel_rfl) (fun x hx => run_assign rfl) (An_done (by kernel_rfl) ?_)))))))
        replace hvl : v2.length ≤ sn + 1 := by omega
        clear hvs
        have hvs := hvs2
        replace hs := hs.F6.F7.F7.F7.F7.F5
        replace hs := wshut19 hvs hvl hs
        replace hs := hs.E1.E2.F1
        refine Jm_join (vt, out, er, en, tr2, j2, d2, sn + 1) ?_ ?_
        · rw [hEn5]; exact sE ⟨rfl, rfl, rfl, trivial⟩
        rw [hIv6]
        exact ⟨hs, hR, by omega, fun q => by omega⟩
      refine Ls_alloc hs inf41 rfl (fun b116 w115 hs => ?_)
      replace hs := hs.F1
      replace hH := Hold.of (Ls := [_]) hs
      refine Ls_nil (Jm_An hH (An_only 7 (by kernel_rfl) rfl (Zc fn16 rfl (labout_c w115 8 x0 _ _ _) rfl ?_)))
      rintro v117 w118 ⟨rfl, hsF⟩
      replace hs := hs.T hsF
      replace hH := Hold.of (Ls := [_]) hs
      refine Ls_nil (Jm_An hH (An_only 9 (by kernel_rfl) rfl ?_))
      replace hs := hs.F1
      refine Ls_storeAgg hs inf41 rfl rfl rfl rfl (by simp [Value.oneCell', Value.cells, mcells, tcells]) (fun w119 hs => ?_)
      replace hs := hs.F1
      replace hH := Hold.of (Ls := [_]) hs
      refine Ls_nil (Jm_An hH (An_done (by kernel_rfl) (Zq (St_seq (Zs (Zf un60 inf3 rfl 0 rfl (Zl sc3 rfl (hs.blk_at 3 rfl 0 rfl) (Zr (run_asB (c := false) (run_eql rfl rfl) (by rw [decide_eq_false_iff_not]; assumption)) rfl (Zj (St_iff rfl (St_skip (Zq (St_seq (Zs (Zf un41 inf25 rfl 6 rfl (Zl sc25 rfl (hs.blk_at 1 rfl 6 rfl) (Zr (run_len un25 rfl) rfl (Zr (run_eql rfl rfl) rfl (Zj (St_ifP rfl (fun h121 => ?_) (fun h121 => ?_)))))))))))))))))))))
      · refine Zs (Za rfl (Za rfl (Zj (St_ret (Jm_then_ret (Jm_then_ret (Jm_block_ret (Jm_then_ret (Jm_ret2 rfl rfl rfl ?_)))))))))
        replace hs := hs.E0.E0.E1.F5.F5.F5.F5.F4.F5
        replace hs := wshut19 hvs hvl hs
        exact ⟨_, rfl, _, none, tr, j, d, sn, rfl, hs.toMoNone, hci.mono (by omega), StepR.same _, by omega, fun q => by omega⟩
      have hes4 : x0.1.to.length ≤ 4 := (hlens.2 _ hx0n).2.1
      have hph : (tr.getD 0 T0.1).ph ≠ 1 := fun q => by have h9 := ((hci.ts.at_ 0 (by omega)).rd q).2; rw [← hx0t] at h9; rw [h9] at h121; exact h121 (by simp)
      have hsnt : Msound (aboutT 8 x0.1 x0.1.to) := by rw [hx0t]; exact hci.about hN (by omega) (.inr rfl) ((hci.ts.ends (note_eb hci.jo.1).1 0 (by omega)).2 hph)
      refine St_skip (Zq (St_seq ?_))
      replace hs := hs.F1.F4
      refine St_holdC 10 (Hold.of (Ls := [_, _]) hs) mixed (fun w122 q123 => ?_)
      replace hs := hs.quiet q123
      have hH := Hold.of (Ls := [_, _]) hs
      refine Yr (fun _ => hH) 0 rfl (by kernel_rfl) (fun x => run_move rfl) (Yr (fun _ => hH) 1 rfl (by kernel_rfl) (fun x => run_move rfl) (Yr (fun _ => hH) 2 rfl (by kernel_rfl) (fun x => run_nilCheck rfl) (Yr (fun _ => hH) 3 rfl (by kernel_rfl) (fun x => run_fd un31 inf29 rfl 10 rfl) (Yd hH 4 [10, 4] rfl (by kernel_rfl) (fun x hx => run_load sc29 rfl (hx.choose_spec.blk_at 0 rfl 10 rfl)) (Yd hH 5 [10, 5] rfl (by kernel_rfl) (fun x hx => run_load_agg agg41 inf41 rfl rfl (hx.choose_spec.blk_cells 1 rfl 0 9)) (AnC_only 6 (by kernel_rfl) rfl (Ls_literal [_] hs un29 inf41 rfl rfl rfl rfl rfl rfl (fun b124 w125 hs => ?_))))))))
      simp only [List.flatMap_cons, List.flatMap_nil, Value.cells, List.cons_append, List.nil_append] at hs
      replace hs := hs.F2.F2
      replace hH := Hold.of (Ls := [_, _]) hs
      refine Ls_nil (Jm_AnC (fun _ => hH) (AnC_only 7 (by kernel_rfl) rfl ?_))
      replace hs := hs.F8
      refine Ls_append hs un29 inf41 rfl (by decide) (by decide) rfl rfl (rd_block (hs.is_at 3 rfl).2 9 1 rfl) (by simp [Value.oneCell', mcells]) (by omega) rfl (fun A126 c127 w128 hs => ?_)
      replace hs := hs.E3
      rw [KM_snoc vs (aboutT 8 x0.1 x0.1.to) (⟨x0.2.tA, x0.1.to.length, x0.2.tc, none, 0, 0, none, 0, 0⟩ : MP) _ (by simp [mcells, aboutT])] at hs
      obtain ⟨v2, hv2⟩ : ∃ z, vs ++ [(aboutT 8 x0.1 x0.1.to, (⟨x0.2.tA, x0.1.to.length, x0.2.tc, none, 0, 0, none, 0, 0⟩ : MP))] = z := ⟨_, rfl⟩
      have hl2 : vs.length + 1 = v2.length := by rw [← hv2]; simp
      rw [hv2, hl2] at hs
      rw [hl2]
      have hmem : (aboutT 8 x0.1 x0.1.to, (⟨x0.2.tA, x0.1.to.length, x0.2.tc, none, 0, 0, none, 0, 0⟩ : MP)) ∈ v2 := by rw [← hv2]; simp
      replace hs := hs.F2.F2
      replace hH := Hold.of (Ls := [_, _]) hs
      refine Ls_nil (Jm_AnC (fun _ => hH) (Yr (fun _ => hH) 8 rfl (by kernel_rfl) (fun x => run_nilCheck rfl) (Yr (fun _ => hH) 9 rfl (by kernel_rfl) (fun x => run_fd un31 inf29 rfl 10 rfl) (AnC_only 10 (by kernel_rfl) rfl (Ls_store hs inf29 rfl rfl rfl rfl (fun w129 hs => ?_))))))
      try simp only [List.set_cons_zero, List.set_cons_succ] at hs
      refine Ls_nil (Jm_AnC_closed (by kernel_rfl) (AnC_done (by kernel_rfl) (Zq ?_)))
      replace hs := hs.F1.F1
      refine St_hold (Hold.of (Ls := [_, _]) hs) mixed (fun w130 q131 => ?_)
      replace hs := hs.quiet q131
      have hH := Hold.of (Ls := [_, _]) hs
      refine Ym hH 0 rfl (by kernel_rfl) rfl (Ya hH 1 rfl (by kernel_rfl) (fun x hx => run_nilCheck rfl) (Ya hH 2 rfl (by kernel_rfl) (fun x hx => run_fd un31 inf28 rfl 9 rfl) (Ya hH 3 rfl (by kernel_rfl) (fun x hx => run_load sc28 rfl (hx.choose_spec.blk_at 0 rfl 9 rfl)) (Ya hH 4 rfl (by kernel_rfl) (fun x hx => run_load_agg agg41 inf41 rfl rfl (hx.choose_spec.blk_cells 1 rfl 0 9)) (An_only 5 (by kernel_rfl) rfl ?_)))))
      replace hs := hs.F8.F4
      replace hs := hs.keep2 (H := SK v2) (fun w h1 h2 => hv2 ▸ h2.add (msg_of (t := x0.1) (k := 8) (h1.2 _ hx0m).2))
      replace hs := hs.F7.F7.F6
      have hms := hsnt
      refine Zc fn15 rfl (cTake_c B w130 _ bc bd bj (re p Ao co) ops tr false j d hs hci.jo hci.rows (aboutT 8 x0.1 x0.1.to) (⟨x0.2.tA, x0.1.to.length, x0.2.tc, none, 0, 0, none, 0, 0⟩ : MP) (fun w' X z => (z.kept 1 rfl) _ hmem) rfl (by refine ⟨?_, ?_, ?_⟩ <;> simp only <;> omega) (by omega) (fun t ht => by have := hlens.2 t ht; omega) (fun t ht => by have := hlens.2 t ht; exact ⟨by omega, this.2.2.1⟩)) rfl ?_
      rintro v132 w133 ⟨vt, rfl, hs⟩
      have hR := ((hci.re Ao co).takeR hN hms rfl (.inr rfl)).er
      obtain ⟨⟨out, er, tr2, en, j2, d2⟩, ho⟩ : ∃ z, ctake (re p Ao co) tr false j d (aboutT 8 x0.1 x0.1.to) = z := ⟨_, rfl⟩
      rw [ho] at hs hR ⊢
      simp only at hs hR ⊢
      have hvs2 : ∀ x ∈ v2, MSent x := hv2 ▸ MSent.add hvs ⟨⟨rfl, hes4, rfl, rfl⟩, hms, rfl, .inr rfl⟩
      replace hs := hs.F6.F6
      replace hH := Hold.of (Ls := [_, _]) hs
      refine Ls_nil (Jm_An hH (Ym hH 6 rfl (by kernel_rfl) rfl (Ya hH 7 rfl (by kernel_rfl) (fun x hx => run_extract rfl rfl) (Ya hH 8 rfl (by kernel_rfl) (fun x hx => run_extract rfl rfl) (Ya hH 9 rfl (by kernel_rfl) (fun x hx => run_assign rfl) (Ya hH 10 rfl (by kernel_rfl) (fun x hx => run_assign rfl) (An_done (by kernel_rfl) ?_)))))))
      replace hvl : v2.length ≤ sn + 1 := by omega
      clear hvs
      have hvs := hvs2
      replace hs := hs.F6.F7.F7.F7.F7.F5
      replace hs := wshut19 hvs hvl hs
      replace hs := hs.E1.E2.F1
      refine Jm_join (vt, out, er, en, tr2, j2, d2, sn + 1) ?_ ?_
      · rw [hEn5]; exact sE ⟨rfl, rfl, rfl, trivial⟩
      rw [hIv6]
      exact ⟨hs, hR, by omega, fun q => by omega⟩
    refine Zs (Zr (run_eql rfl rfl) rfl (Za rfl (Zj (St_ifP rfl (fun h134 => ?_) (fun h134 => ?_)))))
    · refine Zs (Zm rfl (Zk rfl (Zf un31 inf29 rfl 10 rfl (Zl sc29 rfl (hs.blk_at 3 rfl 10 rfl) (Zr (run_len un29 rfl) rfl (Zr (run_gtr rfl rfl) rfl (Zj (St_ifP rfl (fun h135 => ?_) (fun h135 => ?_)))))))))
      · replace hs := hs.F6.F3.F4
        refine St_hold (Hold.of (Ls := [_, _, _]) hs) mixed (fun w136 q137 => ?_)
        replace hs := hs.quiet q137
        have hH := Hold.of (Ls := [_, _, _]) hs
        refine Ym hH 0 rfl (by kernel_rfl) rfl (Ya hH 1 rfl (by kernel_rfl) (fun x hx => run_nilCheck rfl) (Ya hH 2 rfl (by kernel_rfl) (fun x hx => run_fd un31 inf28 rfl 9 rfl) (Ya hH 3 rfl (by kernel_rfl) (fun x hx => run_load sc28 rfl (hx.choose_spec.blk_at 0 rfl 9 rfl)) (Ym hH 4 rfl (by kernel_rfl) rfl (Ya hH 5 rfl (by kernel_rfl) (fun x hx => run_nilCheck rfl) (Ya hH 6 rfl (by kernel_rfl) (fun x hx => run_fd un31 inf29 rfl 10 rfl) (Ya hH 7 rfl (by kernel_rfl) (fun x hx => run_load sc29 rfl (hx.choose_spec.blk_at 0 rfl 10 rfl)) (Ya hH 8 rfl (by kernel_rfl) (fun x hx => run_fd un60 inf3 rfl 1 rfl) (Ya hH 9 rfl (by kernel_rfl) (fun x hx => run_load sc3 rfl (hx.choose_spec.blk_at 1 rfl 1 rfl)) ?_)))))))))
        obtain ⟨u, hu, hub⟩ := u64_nat' K
        have hul : u % vs.length < vs.length := Nat.mod_lt _ (by omega)
        refine Ya hH 10 rfl (by kernel_rfl) (fun x hx => run_conv_int un67 us3 rfl hu) (Ym hH 11 rfl (by kernel_rfl) rfl (Ya hH 12 rfl (by kernel_rfl) (fun x hx => run_nilCheck rfl) (Ya hH 13 rfl (by kernel_rfl) (fun x hx => run_fd un31 inf29 rfl 10 rfl) (Ya hH 14 rfl (by kernel_rfl) (fun x hx => run_load sc29 rfl (hx.choose_spec.blk_at 0 rfl 10 rfl)) (Ya hH 15 rfl (by kernel_rfl) (fun x hx => run_len un29 rfl) (Ya hH 16 rfl (by kernel_rfl) (fun x hx => run_conv_int un67 us3 rfl (wu64 (by omega))) (Ya hH 17 rfl (by kernel_rfl) (fun x hx => run_rem rfl rfl (by omega) (rem_nn' u vs.length)) (Ya hH 18 rfl (by kernel_rfl) (fun x hx => run_conv_int un3 us67 rfl (w64 (by omega))) ?_))))))))
        obtain ⟨⟨m4, q4⟩, hx4⟩ : ∃ z, vs.getD (u % vs.length) (MC0, MP0) = z := ⟨_, rfl⟩
        have hx4m : (m4, q4) ∈ vs := by rw [← hx4]; exact getD_mem3 hul
        refine An_index 19  (KM) rfl (by kernel_rfl) (by kernel_rfl) (by kernel_rfl) (fun _ _ _ _ h => h) hH (fun x hx => (hx.choose_spec.rd_at 2 rfl)) un29 inf41 rfl rfl (by omega) (by omega) (show vs.getD ((u % vs.length : Nat) : Int).toNat (MC0, MP0) = (m4, q4) from hx4) rfl (fun b138 o139 hc140 => (Ya hH 20 rfl (by kernel_rfl) (fun x hx => run_as (run_load_agg agg41 inf41 rfl rfl (hc140 x hx)) (show _ = Value.agg #[.int .i64 m4.k, .int .i64 m4.f, .int .i64 m4.t, .int .i64 m4.b, .int .i64 m4.a, .int .i64 m4.c, .slice q4.eA q4.en q4.ec, .slice q4.kA q4.kn q4.kc, .slice q4.pA q4.pn q4.pc] from rfl)) (An_only 21 (by kernel_rfl) rfl ?_)))
        replace hs := hs.F6.F6.F6
        have hms := hvs _ hx4m
        refine Zc fn15 rfl (cTake_c B w136 _ bc bd bj (re p Ao co) ops tr false j d hs hci.jo hci.rows m4 q4 (fun w' X z => (z.kept 5 rfl) _ hx4m) hms.q.1.symm (by have := hms.q; simp only at this; omega) (by omega) (fun t ht => by have := hlens.2 t ht; omega) (fun t ht => by have := hlens.2 t ht; exact ⟨by omega, this.2.2.1⟩)) rfl ?_
        rintro v141 w142 ⟨vt, rfl, hs⟩
        have hR := ((hci.re Ao co).takeR hN hms.s hms.t hms.k).er
        obtain ⟨⟨out, er, tr2, en, j2, d2⟩, ho⟩ : ∃ z, ctake (re p Ao co) tr false j d m4 = z := ⟨_, rfl⟩
        rw [ho] at hs hR ⊢
        simp only at hs hR ⊢
        replace hs := hs.F6.F6.F6
        replace hH := Hold.of (Ls := [_, _, _]) hs
        refine Ls_nil (Jm_An hH (Ym hH 22 rfl (by kernel_rfl) rfl (Ya hH 23 rfl (by kernel_rfl) (fun x hx => run_extract rfl rfl) (Ya hH 24 rfl (by kernel_rfl) (fun x hx => run_extract rfl rfl) (Ya hH 25 rfl (by kernel_rfl) (fun x hx => run_assign rfl) (Ya hH 26 rfl (by kernel_rfl) (fun x hx => run_assign rfl) (An_done (by kernel_rfl) ?_)))))))
        replace hs := hs.F8.F3.F7.F7.F7.F5
        replace hs := wshut19 hvs hvl hs
        replace hs := hs.E1.E2.F1
        refine Jm_join (vt, out, er, en, tr2, j2, d2, sn) ?_ ?_
        · rw [hEn5]; exact sE ⟨rfl, rfl, rfl, trivial⟩
        rw [hIv6]
        exact ⟨hs, hR, by omega, fun q => by omega⟩
      refine St_skip ?_
      replace hs := hs.F7.F7.F7.F7.F5.F7
      replace hs := wshut19 hvs hvl hs
      replace hs := hs.toMoNone (TM := 41) (TI := 3)
      replace hs := hs.E2.E2
      refine Jm_join (.slice none 0 0, none, 0, false, tr, j, d, sn) ?_ ?_
      · rw [hEn5]; exact sE ⟨rfl, rfl, rfl, trivial⟩
      rw [hIv6]
      exact ⟨hs, (.inl ⟨rfl, rfl, hci.mono (by omega), StepR.same _⟩), by omega, fun q => by omega⟩
    refine Zs (Zr (run_eql rfl rfl) rfl (Za rfl (Zj (St_ifP rfl (fun h143 => ?_) (fun h143 => ?_)))))
    · refine St_region (Zm rfl (Zk rfl (Zf un31 inf27 rfl 8 rfl (Zl sc27 rfl (hs.blk_at 3 rfl 8 rfl) ?_))))
      replace hs := hs.F5
      obtain ⟨vs0, A0, c0, hv0, hs⟩ := hs.dopen
      refine Zc fn42 rfl (Cut_c B w4 _ bd d A0 c0 hs 0) rfl ?_
      rintro v144 w145 ⟨rfl, hs⟩
      replace hs := Sat.dshut (s := dcut d 0) hv0 hs
      refine Ls_nil ?_
      replace hs := hs.F7.F7.F2.F7.F5.F7
      replace hs := wshut19 hvs hvl hs
      replace hs := hs.toMoNone (TM := 41) (TI := 3)
      replace hs := hs.E2.E2
      refine Jm_join (.slice none 0 0, none, 0, false, tr, j, (dcut d 0), sn) ?_ ?_
      · rw [hEn5]; exact sE ⟨rfl, rfl, rfl, trivial⟩
      rw [hIv6]
      exact ⟨hs, (.inl ⟨rfl, rfl, hci.cut0, StepR.same _⟩), by omega, fun q => by omega⟩
    refine Zs (Zr (run_eql rfl rfl) rfl (Za rfl (Zj (St_ifP rfl (fun h146 => ?_) (fun h146 => ?_)))))
    · refine Zs (Zm rfl (Zk rfl (Zf un31 inf27 rfl 8 rfl (Zl sc27 rfl (hs.blk_at 3 rfl 8 rfl) ?_))))
      replace hs := hs.F5
      obtain ⟨vs0, A0, c0, hv0, hs⟩ := hs.dopen
      refine Zc fn20 rfl (On_c B w4 _ bd d A0 c0 hs) rfl ?_
      rintro v147 w148 ⟨rfl, hs⟩
      replace hs := Sat.dshut (s := don d) hv0 hs
      obtain ⟨hop, hrows, hbl1, hciO⟩ := hci.back (d2 := don d) rfl rfl rfl
      refine Zj ?_
      replace hs := hs.F4
      refine St_holdC 15 (Hold.of (Ls := [_]) hs) mixed (fun w149 q150 => ?_)
      replace hs := hs.quiet q150
      have hH := Hold.of (Ls := [_]) hs
      refine Yr (fun _ => hH) 0 rfl (by kernel_rfl) (fun x => run_move rfl) (Yr (fun _ => hH) 1 rfl (by kernel_rfl) (fun x => run_move rfl) (Yr (fun _ => hH) 2 rfl (by kernel_rfl) (fun x => run_nilCheck rfl) (Yr (fun _ => hH) 3 rfl (by kernel_rfl) (fun x => run_fd un31 inf24 rfl 0 rfl) (Yd hH 4 [15, 4] rfl (by kernel_rfl) (fun x hx => run_load_agg agg24 inf24 rfl rfl (hx.choose_spec.blk_cells 0 rfl 0 8)) (Yr (fun _ => hH) 5 rfl (by kernel_rfl) (fun x => run_move rfl) (Yr (fun _ => hH) 6 rfl (by kernel_rfl) (fun x => run_nilCheck rfl) (Yr (fun _ => hH) 7 rfl (by kernel_rfl) (fun x => run_fd un31 inf27 rfl 8 rfl) (Yd hH 8 [15, 8] rfl (by kernel_rfl) (fun x hx => run_load sc27 rfl (hx.choose_spec.blk_at 0 rfl 8 rfl)) (AnC_only 9 (by kernel_rfl) rfl ?_)))))))))
      replace hs := hs.E3.E4.F1
      refine Zc fn21 rfl (cOpen_c B w149 _ bd p ops (don d) (dread_k (don d) 2) j hs hr hn hci.ck hrows hbl1 hop) rfl ?_
      rintro v151 w152 ⟨bc2, bj2, Ao2, co2, rfl, hs⟩
      replace hs := hs.F3
      replace hH := Hold.of (Ls := [_]) hs
      refine Ls_nil (Jm_AnC (fun _ => hH) (Yr (fun _ => hH) 10 rfl (by kernel_rfl) (fun x => run_move rfl) (Yr (fun _ => hH) 11 rfl (by kernel_rfl) (fun x => run_extract rfl rfl) (Yr (fun _ => hH) 12 rfl (by kernel_rfl) (fun x => run_extract rfl rfl) (Yr (fun _ => hH) 13 rfl (by kernel_rfl) (fun x => run_nilCheck rfl) (Yr (fun _ => hH) 14 rfl (by kernel_rfl) (fun x => run_fd un31 inf28 rfl 9 rfl) (AnC_only 15 (by kernel_rfl) rfl (Ls_store hs inf28 rfl rfl rfl rfl (fun w153 hs => ?_)))))))))
      try simp only [List.set_cons_zero, List.set_cons_succ] at hs
      refine Ls_nil (Jm_AnC_closed (by kernel_rfl) (AnC_switch (H' := fun _ => True) 17 (by kernel_rfl) ?_))
      replace hH := trivial
      refine Yr (fun _ => hH) 16 rfl (by kernel_rfl) (fun x => run_assign rfl) (AnC_done (by kernel_rfl) ?_)
      replace hs := hs.F7.F7.F5.F5.F5.F5
      replace hs := wshut19 hvs hvl hs
      replace hs := hs.toMoNone (TM := 41) (TI := 3)
      replace hs := hs.E2.E2
      refine Jm_join (.slice none 0 0, none, 0, false, [], j, (dread_k (don d) 2), sn) ?_ ?_
      · rw [hEn5]; exact sE ⟨rfl, rfl, rfl, trivial⟩
      rw [hIv6]
      exact ⟨hs, (.inl ⟨rfl, rfl, hciO, StepR.same _⟩), by omega, fun q => by omega⟩
    refine St_skip ?_
    replace hs := hs.F7.F7.F7.F7.F5.F7
    replace hs := wshut19 hvs hvl hs
    replace hs := hs.toMoNone (TM := 41) (TI := 3)
    replace hs := hs.E2.E2
    refine Jm_join (.slice none 0 0, none, 0, false, tr, j, d, sn) ?_ ?_
    · rw [hEn5]; exact sE ⟨rfl, rfl, rfl, trivial⟩
    rw [hIv6]
    exact ⟨hs, (.inl ⟨rfl, rfl, hci.mono (by omega), StepR.same _⟩), by omega, fun q => by omega⟩
  rintro ⟨v, out, er, en, tr2, j2, d2, n2⟩ w7 hI154
  rw [hIv6] at hI154
  obtain ⟨hs, hR, hn2, hk1⟩ := hI154
  refine Jm_eqE (hEn5 _ _ _ _ _ _ _ _) (Jm_block_normal (Zq (St_seq (Zs (Zm rfl (Zr (run_eql rfl rfl) rfl (Zj (St_ifP rfl (fun h155 => ?_) (fun h155 => ?_)))))))))
  · have hR2 := hR.resolve_left (fun q => by have := q.1; omega)
    obtain ⟨rfl, rfl, rfl, rfl, rfl⟩ := hR2
    clear hR
    obtain ⟨hvn, h9⟩ := hs.moNone
    subst hvn
    replace hs := h9
    obtain ⟨bd, bc, bj, Ao, co, sA, sc, vs, hvs, hvl, hs⟩ := wopen19 hs
    unfold wcells at hs
    refine St_seq (Zs (Zm rfl (Zk rfl (Zf un31 inf27 rfl 8 rfl (Zl sc27 rfl (hs.blk_at 0 rfl 8 rfl) ?_)))))
    replace hs := hs.F3
    obtain ⟨A0, c0, hd0⟩ := hs.dhd
    refine Zc fn43 rfl (Down_c w7 bd (doff d) A0 c0 hd0) rfl ?_
    rintro v156 w157 ⟨rfl, rfl⟩
    refine Zr (run_not rfl) rfl (Zm rfl (Zo rfl (Zm rfl (Zo rfl (Zk rfl (Zo rfl (Zf un31 inf28 rfl 9 rfl (Zo rfl (Zl sc28 rfl (hs.blk_at 1 rfl 9 rfl) (Zo rfl ?_))))))))))
    replace hs := hs.F2
    refine Zc fn29 rfl (cEnded_c B w7 _ bc bd bj (re p Ao co) ops tr2 true hs) rfl ?_
    rintro v158 w159 ⟨rfl, rfl⟩
    refine Zo rfl (Zr (run_not rfl) rfl (Zr (run_pick_f rfl rfl) rfl (Zm rfl (Zo rfl (Zm rfl (Zo rfl (Zr (run_len un29 rfl) rfl (Zo rfl (Zr (run_asB (c := false) (run_neq rfl rfl) (by decide)) rfl (Zr (run_pick_f rfl rfl) rfl (Zj (St_iff rfl (St_skip (Zq (Zs (Zm rfl (Zk rfl (Zf un31 inf27 rfl 8 rfl (Zl sc27 rfl (hs.blk_at 2 rfl 8 rfl) ?_)))))))))))))))))))
    replace hs := hs.F1
    obtain ⟨vs0, A0, c0, hv0, hs⟩ := hs.dopen
    refine Zc fn20 rfl (On_c B w7 _ bd (doff d) A0 c0 hs) rfl ?_
    rintro v161 w162 ⟨rfl, hs⟩
    replace hs := Sat.dshut (s := don (doff d)) hv0 hs
    obtain ⟨hop, hrows, hbl1, hciO⟩ := hci.back (d2 := don (doff d)) rfl rfl rfl
    refine Zj ?_
    replace hs := hs.F2
    refine St_holdC 15 (Hold.of (Ls := [_]) hs) mixed (fun w163 q164 => ?_)
    replace hs := hs.quiet q164
    have hH := Hold.of (Ls := [_]) hs
    refine Yr (fun _ => hH) 0 rfl (by kernel_rfl) (fun x => run_move rfl) (Yr (fun _ => hH) 1 rfl (by kernel_rfl) (fun x => run_move rfl) (Yr (fun _ => hH) 2 rfl (by kernel_rfl) (fun x => run_nilCheck rfl) (Yr (fun _ => hH) 3 rfl (by kernel_rfl) (fun x => run_fd un31 inf24 rfl 0 rfl) (Yd hH 4 [15, 4] rfl (by kernel_rfl) (fun x hx => run_load_agg agg24 inf24 rfl rfl (hx.choose_spec.blk_cells 0 rfl 0 8)) (Yr (fun _ => hH) 5 rfl (by kernel_rfl) (fun x => run_move rfl) (Yr (fun _ => hH) 6 rfl (by kernel_rfl) (fun x => run_nilCheck rfl) (Yr (fun _ => hH) 7 rfl (by kernel_rfl) (fun x => run_fd un31 inf27 rfl 8 rfl) (Yd hH 8 [15, 8] rfl (by kernel_rfl) (fun x hx => run_load sc27 rfl (hx.choose_spec.blk_at 0 rfl 8 rfl)) (AnC_only 9 (by kernel_rfl) rfl ?_)))))))))
    replace hs := hs.E2.E2.F1
    refine Zc fn21 rfl (cOpen_c B w163 _ bd p ops (don (doff d)) (dread_k (don (doff d)) 2) j hs hr hn hci.ck hrows hbl1 hop) rfl ?_
    rintro v165 w166 ⟨bc2, bj2, Ao2, co2, rfl, hs⟩
    replace hs := hs.F3
    replace hH := Hold.of (Ls := [_]) hs
    refine Ls_nil (Jm_AnC (fun _ => hH) (Yr (fun _ => hH) 10 rfl (by kernel_rfl) (fun x => run_move rfl) (Yr (fun _ => hH) 11 rfl (by kernel_rfl) (fun x => run_extract rfl rfl) (Yr (fun _ => hH) 12 rfl (by kernel_rfl) (fun x => run_extract rfl rfl) (Yr (fun _ => hH) 13 rfl (by kernel_rfl) (fun x => run_nilCheck rfl) (Yr (fun _ => hH) 14 rfl (by kernel_rfl) (fun x => run_fd un31 inf28 rfl 9 rfl) (AnC_only 15 (by kernel_rfl) rfl (Ls_store hs inf28 rfl rfl rfl rfl (fun w167 hs => ?_)))))))))
    try simp only [List.set_cons_zero, List.set_cons_succ] at hs
    refine Ls_nil (Jm_AnC_closed (by kernel_rfl) (AnC_switch (H' := fun _ => True) 17 (by kernel_rfl) ?_))
    replace hH := trivial
    refine Yr (fun _ => hH) 16 rfl (by kernel_rfl) (fun x => run_assign rfl) (AnC_done (by kernel_rfl) (Zq (Zs (Zm rfl (Zm rfl (Zr (run_asB (c := true) (run_eql rfl rfl) (by decide)) rfl (Za rfl (Za rfl (Zj (St_ret (Jm_ret2 rfl rfl rfl ?_)))))))))))
    replace hs := hs.F5.F5.F5.F5.F5.F5
    replace hs := wshut19 hvs hvl hs
    exact ⟨_, rfl, _, none, [], j, _, n2, rfl, hs.toMoNone, hciO, StepR.same _, hn2, fun q ha => absurd (hci.tick_er hN ha) (by rw [hk1 q]; show ¬ (80 : Int) = 0; decide)⟩
  refine St_skip (Zq (Zs (Zm rfl (Zm rfl (Zr (run_eql rfl rfl) rfl (Za rfl (Za rfl (Zj (St_ret (Jm_ret2 rfl rfl rfl ?_))))))))))
  rcases hR with ⟨rfl, rfl, hc, hst⟩ | ⟨rfl, _⟩
  · exact ⟨_, rfl, v, out, tr2, j2, d2, n2, rfl, hs, hc, hst, hn2, fun q _ => hk1 q⟩
  · exact absurd rfl (by assumption)
end Go.Proofs.Ytcifdianinbkeaa.Lg
set_option linter.unusedVariables false
set_option linter.unusedSimpArgs false
namespace Go.Proofs.Ytcifdianinbkeaa.Lg
open Go Go.RowKit Go.Proofs.Ytcifdianinbkeaa.WirePure Go.Proofs.Ytcifdianinbkeaa.PlanPure
/-- Where a try begins: its address and its room; its ends. -/
def frA (cA : Option Addr) (cc : Nat) (vo : List TT) (k : Nat) : Option Addr × Nat := if k = 0 then (cA, cc) else ((vo.getD (k - 1) T0).2.tA, (vo.getD (k - 1) T0).2.tc)
def frL (cur : List Int) (vo : List TT) (k : Nat) : List Int := if k = 0 then cur else (vo.getD (k - 1) T0).1.to
def TK2 (A : Option Addr) (c : Nat) (vo : List TT) (cA : Option Addr) (cc : Nat) (cur : List Int) : World → Prop := fun w => TK A c vo w ∧ Rd w cA cur.length cc 1 (KI.flat cur)
theorem tk2_from {w : World} {A : Option Addr} {c : Nat} {vo : List TT} {cA : Option Addr} {cc : Nat} {cur : List Int} (h : TK2 A c vo cA cc cur w) {k : Nat} (hk : k < vo.length) : Rd w (frA cA cc vo k).1 (frL cur vo k).length (frA cA cc vo k).2 1 (KI.flat (frL cur vo k)) := by
  unfold frA frL
  by_cases e : k = 0
  · simp only [if_pos e]; exact h.2
  · simp only [if_neg e]; exact (h.1.2 _ (getD_mem3 (by omega))).2
set_option maxRecDepth 100000 in
set_option maxHeartbeats 4000000 in
theorem CoordOrder_ok (w : World) (p : PlanA) (ops : OpL) (hr : Rd w p.oA p.on p.oc 3 (KOp.flat ops)) (hn : p.on ≤ 67108864) (hck : chk p ops = 0) (A1 : Option Addr) (n1 c1 : Nat) (al : List AL) (hra : Rd w A1 n1 c1 3 (KAct.flat al)) (hao : ∀ x ∈ al, AOk w x) (hn1 : n1 ≤ 9223372036854775807) :
    Calls Try.prog 7 [.agg #[.int .i64 p.pa, .int .i64 p.st, .int .i64 p.wo, .slice p.oA p.on p.oc, .int .i64 p.ag, .int .i64 p.ba, .int .i64 p.wi, .int .i64 p.gu], .slice A1 n1 c1].toArray w (Ret (fun v' w' => v' = .bool true ∧ Below w.heap.size w w')) := by
  have hs := Sat.start w
  have hk2 := chk_ok hck
  unfold numsOk at hk2
  refine Zb Try.func7 rfl rfl rfl (Zs (Ls_box hs rfl rfl (fun b2 w1 hs => (Za rfl (Zj (St_seq (Zs (Zc fn8 rfl (awake19_c w1) rfl ?_))))))))
  rintro v3 w4 ⟨rfl, hsA5⟩
  replace hs := hs.T hsA5
  refine Zr (run_not rfl) rfl (Zj (St_iff rfl (St_skip (Zq (Zs (Zr (run_load_agg agg24 inf24 rfl rfl (hs.blk_cells 0 rfl 0 8)) rfl (Zc fn9 rfl (laid19_c w4 p ops (hr.inB hs) hn hck) rfl ?_)))))))
  rintro v7 w9 ⟨bd, bc, bj, Ao, co, m, d, hm, rfl, hsF, hg, hdj⟩
  replace hs := hs.T hsF
  have hCI : CI 0 p ops [] (jnew m) d := CI.new hck hm hg hdj
  have hnt0 := hCI.note
  refine Zm rfl (Zr (run_extract rfl rfl) rfl (Zr (run_extract rfl rfl) rfl (Ls_alloc hs inf31 rfl (fun b11 w10 hs => (Ls_storeAgg hs inf31 rfl rfl rfl rfl (by simp [Value.oneCell', Value.cells, mcells, tcells]) (fun w12 hs => ?_))))))
  replace hs := hs.F3.F3.F3.F3
  replace hs := wnew19 (p := p) (Ao := Ao) (co := co) hs
  refine Za rfl (Zj (St_seq (Zs (Zm rfl (Zr (run_not rfl) rfl (Zj (St_iff rfl (St_skip (Zq (St_seq (Zs (Za rfl (Zj (St_block ?_))))))))))))))
  obtain ⟨En14, hEn14⟩ := ex5 fun (i : Nat) (tr : List TSt) (j : JSt) (d : DSt) (sn : Nat) => ([(1, .slice A1 n1 c1), (2, .pointer (some ⟨b2, 0, none⟩)), (5, .pointer (some ⟨b11, 0, none⟩)), (7, .int .i64 (i : Int))] : Env)
  obtain ⟨Iv15, hIv15⟩ := ew5 fun (i : Nat) (tr : List TSt) (j : JSt) (d : DSt) (sn : Nat) (wr : World) => Sat w wr [WA tns b11 p ops tr false j d sn, Blk b2 [.int .i64 p.pa, .int .i64 p.st, .int .i64 p.wo, .slice p.oA p.on p.oc, .int .i64 p.ag, .int .i64 p.ba, .int .i64 p.wi, .int .i64 p.gu] 24] ∧ CI (i : Int) p ops tr j d ∧ sn ≤ i ∧ i ≤ n1 ∧ i ≤ 600
  obtain ⟨ms16, hms16⟩ := ex5 fun (i : Nat) (tr : List TSt) (j : JSt) (d : DSt) (sn : Nat) => (n1 - i : Nat)
  refine St_loop En14 Iv15 ms16 (0, [], jnew m, d, 0) ?_ ?_ ?_
  · rw [hIv15]
    exact ⟨hs, hCI, Nat.le_refl _, Nat.zero_le _, Nat.zero_le _⟩
  · rw [hEn14]; exact sE ⟨rfl, rfl, rfl, rfl, trivial⟩
  rintro ⟨i, tr, j, d, sn⟩ wr hI17
  rw [hIv15] at hI17
  obtain ⟨hs, hci, hsn, hi, hi6⟩ := hI17
  refine St_eqE (hEn14 _ _ _ _ _) (St_seq (Zs (Zm rfl (Zm rfl (Zr (run_len un56 rfl) rfl (Zr (run_lss rfl rfl) rfl (Zm rfl (Ls_partP (t := 32) rfl (fun h18 => ?_) (fun h18 => ?_)))))))))
  · refine Zo rfl (Zm rfl (Zo rfl (Zr (run_lss rfl rfl) rfl (Zr (run_pick_t rfl rfl) rfl (Zj (St_ifP rfl (fun h19 => ?_) (fun h19 => ?_)))))))
    · refine St_skip (Zq (St_seq (St_block (Zs (Zm rfl (Zm rfl ?_))))))
      obtain ⟨xa, hxa⟩ : ∃ z, al.getD i (0, 0, none, 0, 0) = z := ⟨_, rfl⟩
      have hal : al.length = n1 := lenKAct hra
      have hxam : xa ∈ al := by rw [← hxa]; exact getD_mem3 (by omega)
      obtain ⟨⟨ol, hol⟩, hol2⟩ := hao _ hxam
      refine Ls_index (KAct) (hra.inB hs) un56 inf60 rfl rfl (by omega) (by omega) hxa rfl (fun b20 o21 hc22 => (Zr (run_as (run_load_agg agg60 inf60 rfl rfl hc22) (show _ = Value.agg #[.int .i64 xa.1, .int .i64 xa.2.1, .slice xa.2.2.1 xa.2.2.2.1 xa.2.2.2.2] from rfl)) rfl (Zc fn18 rfl (act_c w wr _ b11 p ops tr j d sn (i : Int) hs hr hn hci (by omega) (by omega) xa.1 xa.2.1 xa.2.2.1 xa.2.2.2.1 xa.2.2.2.2 ol hol hol2) rfl ?_)))
      rintro v23 w24 ⟨va, out, tr2, j2, d2, n2, rfl, hs, hc2, hst, hn2, hkk⟩
      obtain ⟨mA, mc, ml, rfl, hml, hs⟩ := hs.moK (fun m hm => (hst.out m hm).2.2.2)
      have hml1 : ml.length ≤ 1 := by rw [← List.length_map (f := Prod.fst), hml]; cases out <;> simp
      have hnt2 := hc2.note
      have hatt := hst.att
      have hbat := hst.ba
      refine Zm rfl (Zr (run_extract rfl rfl) rfl (Zr (run_extract rfl rfl) rfl (Za rfl (Za rfl (Zt ?_)))))
      replace hs := hs.F1
      obtain ⟨bd, bc, bj, Ao, co, sA, sc, vs, hvs, hvl, hs⟩ := wopen19 hs
      unfold wcells at hs
      have hlens := hc2.lens
      have hbd := hc2.bd
      have hw1 := within_hi hc2.jo.1.1
      have hw2 := within_hi hc2.jo.1.2.1
      have htl := hc2.ts.len
      refine Zf un31 inf28 rfl 9 rfl (Zl sc28 rfl (hs.blk_at 0 rfl 9 rfl) ?_)
      replace hs := hs.F2.F2
      refine Zc fn17 rfl (cNote_c w w24 _ bc bd bj (re p Ao co) ops tr2 false j2 hs (by omega)) rfl ?_
      rintro v25 w26 ⟨Nnp2, nnp2, Nnc2, nnc2, rfl, hs⟩
      refine Ls_alloc hs inf53 rfl (fun b28 w27 hs => (Ls_storeAgg hs inf53 rfl rfl rfl rfl (by simp [Value.oneCell', Value.cells, mcells, tcells]) (fun w29 hs => (Zt (Zf un31 inf28 rfl 9 rfl (Zl sc28 rfl (hs.blk_at 5 rfl 9 rfl) ?_))))))
      replace hs := hs.F3
      refine Zc fn12 rfl (cTries_c w w29 _ bc bd bj (re p Ao co) ops tr2 false hs (by omega) (fun t ht => by have := hlens.2 t ht; omega)) rfl ?_
      rintro v30 w31 ⟨vo, oA, oc, hvo, rfl, hs⟩
      replace hs := hs.triesK hvo
      have hvol : vo.length = tr2.length := by rw [← hvo, List.length_map]
      refine Za rfl ?_
      replace hs := hs.F9.F9.F9.F8.F5.F9
      replace hs := wshut19 hvs hvl hs
      replace hs := hs.F1.F4
      replace hs := hs.ownKeep (H := TK2 oA oc vo Nnc2 nnc2 j2.n.cur) (fun w h1 h2 => ⟨h2, h1⟩)
      refine Zj (St_seq (Zs (Zm rfl (Zr (run_not rfl) rfl (Zm rfl (Zo rfl (Zm rfl (Zo rfl (Zr (run_len un44 rfl) rfl (Zo rfl (Zf un24 inf3 rfl 6 rfl (Zo rfl (Zl sc3 rfl (hs.blk_at 5 rfl 6 rfl) (Zo rfl (Zr (run_asB (c := false) (run_gtr rfl rfl) (decide_eq_false (by omega))) rfl (Zr (run_pick_f rfl rfl) rfl (Zj (St_iff rfl (St_skip (Zq (St_seq (Zs (Za rfl (Zj (St_block ?_)))))))))))))))))))))))))
      replace hs := hs.E3.F4.F3.F4.F3.F4
      obtain ⟨En33, hEn33⟩ := ex1 fun (k : Nat) => ([(1, .slice A1 n1 c1), (2, .pointer (some ⟨b2, 0, none⟩)), (5, .pointer (some ⟨b11, 0, none⟩)), (7, .int .i64 (i : Int)), (8, .slice mA ml.length mc), (10, .pointer (some ⟨b28, 0, none⟩)), (11, .slice oA vo.length oc), (12, .int .i64 (k : Int))] : Env)
      obtain ⟨Iv34, hIv34⟩ := ew1 fun (k : Nat) (wr : World) => Sat w wr [WA tns b11 p ops tr2 false j2 d2 n2, Keep (TK2 oA oc vo Nnc2 nnc2 j2.n.cur), Keep (MK mA mc ml), Blk b28 [.int .i64 j2.n.batch, .slice Nnp2 j2.n.prev.length nnp2, .slice Nnc2 j2.n.cur.length nnc2, .int .i64 j2.n.att] 53, Blk b2 [.int .i64 p.pa, .int .i64 p.st, .int .i64 p.wo, .slice p.oA p.on p.oc, .int .i64 p.ag, .int .i64 p.ba, .int .i64 p.wi, .int .i64 p.gu] 24] ∧ k ≤ ml.length
      obtain ⟨ms35, hms35⟩ := ex1 fun (k : Nat) => (ml.length - k : Nat)
      refine St_loop En33 Iv34 ms35 (0) ?_ ?_ ?_
      · rw [hIv34]
        exact ⟨hs, Nat.zero_le _⟩
      · rw [hEn33]; exact sE ⟨rfl, rfl, rfl, rfl, rfl, rfl, rfl, rfl, trivial⟩
      rintro k wr hI36
      rw [hIv34] at hI36
      obtain ⟨hs, hkm⟩ := hI36
      refine St_eqE (hEn33 _) (St_seq (Zs (Zm rfl (Zm rfl (Zr (run_len un29 rfl) rfl (Zr (run_lss rfl rfl) rfl (Zj (St_ifP rfl (fun h37 => ?_) (fun h37 => ?_)))))))))
      · refine St_skip (Zq (St_seq (St_block (St_seq (St_draw (fun x => Below wr.heap.size wr x) mixed (fun w38 q39 => ?_))))))
        have hH := q39.below
        replace hs := hs.quiet q39
        refine An_grow hH ?_
        replace hH := Below.refl w38.heap.size w38
        refine Ym hH 0 rfl (by kernel_rfl) rfl (Ym hH 1 rfl (by kernel_rfl) rfl ?_)
        obtain ⟨⟨m0, q0⟩, hmx⟩ : ∃ z, ml.getD k (MC0, MP0) = z := ⟨_, rfl⟩
        have hmxm : (m0, q0) ∈ ml := by rw [← hmx]; exact getD_mem3 (by omega)
        have hout : out = some m0 := by
          have h9 : m0 ∈ ml.map Prod.fst := List.mem_map_of_mem hmxm
          rw [hml] at h9
          cases out with
          | none => cases h9
          | some y => rw [Option.toList_some, List.mem_singleton] at h9; rw [h9]
        obtain ⟨hmf, hmk, hmo, _⟩ := hst.out m0 hout
        refine An_index 2  (KM) rfl (by kernel_rfl) (by kernel_rfl) (by kernel_rfl) (fun _ _ _ _ h => h) hH (fun x hx => (((hs.kept 2 rfl).1).grow hx)) un29 inf41 rfl rfl (by omega) (by omega) hmx rfl (fun b40 o41 hc42 => (Ya hH 3 rfl (by kernel_rfl) (fun x hx => run_field un41 rfl inf3 (by decide) rfl) (Ya hH 4 rfl (by kernel_rfl) (fun x hx => run_as (run_load sc3 rfl ((hc42 x hx) 1 _ rfl)) (show _ = Value.int .i64 m0.f from rfl)) (Ya hH 5 rfl (by kernel_rfl) (fun x hx => run_asB (c := false) (run_neq rfl rfl) (decide_eq_false (by omega))) (Ym hH 6 rfl (by kernel_rfl) rfl (Yo hH 7 rfl (by kernel_rfl) rfl (fun x hx => run_load_agg agg24 inf24 rfl rfl ((hs.grow hx).blk_cells 4 rfl 0 8)) (Yo hH 8 rfl (by kernel_rfl) rfl (fun x hx => run_move rfl) (Yo hH 9 rfl (by kernel_rfl) rfl (fun x hx => run_move rfl) (An_index_on 10  (KM) rfl (by kernel_rfl) (by kernel_rfl) (by kernel_rfl) rfl rfl (fun _ _ _ _ h => h) hH (fun x hx => (((hs.kept 2 rfl).1).grow hx)) un29 inf41 rfl rfl (by omega) (by omega) hmx rfl (fun b43 o44 hc45 => (Yo hH 11 rfl (by kernel_rfl) rfl (fun x hx => run_field un41 rfl inf3 (by decide) rfl) (Yo hH 12 rfl (by kernel_rfl) rfl (fun x hx => run_as (run_load sc3 rfl ((hc45 x hx) 2 _ rfl)) (show _ = Value.int .i64 m0.t from rfl)) (An_only 13 (by kernel_rfl) rfl (Zo rfl (Zc fn24 rfl (Kind_c w38 p ops (hr.inB hs) (by omega) m0.t) rfl ?_)))))))))))))))
        rintro v46 w47 ⟨rfl, hsF⟩
        replace hs := hs.T hsF
        rw [hmk]
        replace hH := (hsF.below : Below w38.heap.size w38 w47)
        refine Ls_nil (Jm_An hH (An_grow hH ?_))
        replace hH := Below.refl w47.heap.size w47
        refine Yo hH 14 rfl (by kernel_rfl) rfl (fun x hx => run_asB (c := false) (run_neq rfl rfl) (by decide)) (Ya hH 15 rfl (by kernel_rfl) (fun x hx => run_pick_f rfl rfl) (Ym hH 16 rfl (by kernel_rfl) rfl (Yo hH 17 rfl (by kernel_rfl) rfl (fun x hx => run_move rfl) (Yo hH 18 rfl (by kernel_rfl) rfl (fun x hx => run_move rfl) (An_index_on 19  (KM) rfl (by kernel_rfl) (by kernel_rfl) (by kernel_rfl) rfl rfl (fun _ _ _ _ h => h) hH (fun x hx => (((hs.kept 2 rfl).1).grow hx)) un29 inf41 rfl rfl (by omega) (by omega) hmx rfl (fun b48 o49 hc50 => (Yo hH 20 rfl (by kernel_rfl) rfl (fun x hx => run_field un41 rfl inf3 (by decide) rfl) (Yo hH 21 rfl (by kernel_rfl) rfl (fun x hx => run_as (run_load sc3 rfl ((hc50 x hx) 0 _ rfl)) (show _ = Value.int .i64 m0.k from rfl)) (Yo hH 22 rfl (by kernel_rfl) rfl (fun x hx => run_eql rfl rfl) (Yo hH 23 rfl (by kernel_rfl) rfl (fun x hx => run_move rfl) (An_partP (t := 90) rfl (fun h51 => ?_) (fun h51 => ?_))))))))))))
        · refine Yo hH 24 rfl (by kernel_rfl) rfl (fun x hx => run_move rfl) (Yo hH 25 rfl (by kernel_rfl) rfl (fun x hx => run_move rfl) (An_index_on 26  (KM) rfl (by kernel_rfl) (by kernel_rfl) (by kernel_rfl) rfl rfl (fun _ _ _ _ h => h) hH (fun x hx => (((hs.kept 2 rfl).1).grow hx)) un29 inf41 rfl rfl (by omega) (by omega) hmx rfl (fun b52 o53 hc54 => (Yo hH 27 rfl (by kernel_rfl) rfl (fun x hx => run_field un41 rfl inf3 (by decide) rfl) (Yo hH 28 rfl (by kernel_rfl) rfl (fun x hx => run_as (run_load sc3 rfl ((hc54 x hx) 3 _ rfl)) (show _ = Value.int .i64 m0.b from rfl)) (Yo hH 29 rfl (by kernel_rfl) rfl (fun x hx => run_fd un53 inf51 rfl 0 rfl) (Yo hH 30 rfl (by kernel_rfl) rfl (fun x hx => run_fd un51 inf3 rfl 0 rfl) (Yo hH 31 rfl (by kernel_rfl) rfl (fun x hx => run_load sc3 rfl ((hs.grow hx).blk_at 3 rfl 0 rfl)) (Yo hH 32 rfl (by kernel_rfl) rfl (fun x hx => run_add rfl rfl (w64 (by omega))) (Yo hH 33 rfl (by kernel_rfl) rfl (fun x hx => run_asB (c := false) (run_neq rfl rfl) (decide_eq_false (by omega))) (Yo hH 34 rfl (by kernel_rfl) rfl (fun x hx => run_pick_t rfl rfl) (Ya hH 35 rfl (by kernel_rfl) (fun x hx => run_pick_f rfl rfl) (Ym hH 36 rfl (by kernel_rfl) rfl (Yo hH 37 rfl (by kernel_rfl) rfl (fun x hx => run_move rfl) (Yo hH 38 rfl (by kernel_rfl) rfl (fun x hx => run_move rfl) (An_index_on 39  (KM) rfl (by kernel_rfl) (by kernel_rfl) (by kernel_rfl) rfl rfl (fun _ _ _ _ h => h) hH (fun x hx => (((hs.kept 2 rfl).1).grow hx)) un29 inf41 rfl rfl (by omega) (by omega) hmx rfl (fun b55 o56 hc57 => (Yo hH 40 rfl (by kernel_rfl) rfl (fun x hx => run_field un41 rfl inf3 (by decide) rfl) (Yo hH 41 rfl (by kernel_rfl) rfl (fun x hx => run_as (run_load sc3 rfl ((hc57 x hx) 0 _ rfl)) (show _ = Value.int .i64 m0.k from rfl)) (Yo hH 42 rfl (by kernel_rfl) rfl (fun x hx => run_asB (c := false) (run_neq rfl rfl) (decide_eq_false (by omega))) (Yo hH 43 rfl (by kernel_rfl) rfl (fun x hx => run_move rfl) (Yf hH 44 rfl (by kernel_rfl) rfl (Yf hH 45 rfl (by kernel_rfl) rfl (Yf hH 46 rfl (by kernel_rfl) rfl (Yf hH 47 rfl (by kernel_rfl) rfl (Yf hH 48 rfl (by kernel_rfl) rfl (Yf hH 49 rfl (by kernel_rfl) rfl (Yo hH 50 rfl (by kernel_rfl) rfl (fun x hx => run_pick_f rfl rfl) (Ya hH 51 rfl (by kernel_rfl) (fun x hx => run_pick_f rfl rfl) (An_done (by kernel_rfl) (Zq (St_iff rfl (St_skip (Jm_block_normal (Zq (St_region (Zm rfl (Zr (run_add rfl rfl (w64 (by omega))) rfl (Za rfl (Ls_nil (Jm_round (k + 1) ?_ ?_ ?_)))))))))))))))))))))))))))))))))))))))))
          · rw [hEn33]; exact sE ⟨rfl, rfl, rfl, rfl, rfl, rfl, rfl, rfl, trivial⟩
          · rw [hIv34]
            exact ⟨hs, by omega⟩
          rw [hms35, hms35]
          omega
        refine Yf hH 24 rfl (by kernel_rfl) rfl (Yf hH 25 rfl (by kernel_rfl) rfl (Yf hH 26 rfl (by kernel_rfl) rfl (Yf hH 27 rfl (by kernel_rfl) rfl (Yf hH 28 rfl (by kernel_rfl) rfl (Yf hH 29 rfl (by kernel_rfl) rfl (Yf hH 30 rfl (by kernel_rfl) rfl (Yf hH 31 rfl (by kernel_rfl) rfl (Yf hH 32 rfl (by kernel_rfl) rfl (Yf hH 33 rfl (by kernel_rfl) rfl (Yo hH 34 rfl (by kernel_rfl) rfl (fun x hx => run_pick_f rfl rfl) (Ya hH 35 rfl (by kernel_rfl) (fun x hx => run_pick_f rfl rfl) (Ym hH 36 rfl (by kernel_rfl) rfl (Yo hH 37 rfl (by kernel_rfl) rfl (fun x hx => run_move rfl) (Yo hH 38 rfl (by kernel_rfl) rfl (fun x hx => run_move rfl) (An_index_on 39  (KM) rfl (by kernel_rfl) (by kernel_rfl) (by kernel_rfl) rfl rfl (fun _ _ _ _ h => h) hH (fun x hx => (((hs.kept 2 rfl).1).grow hx)) un29 inf41 rfl rfl (by omega) (by omega) hmx rfl (fun b59 o60 hc61 => (Yo hH 40 rfl (by kernel_rfl) rfl (fun x hx => run_field un41 rfl inf3 (by decide) rfl) (Yo hH 41 rfl (by kernel_rfl) rfl (fun x hx => run_as (run_load sc3 rfl ((hc61 x hx) 0 _ rfl)) (show _ = Value.int .i64 m0.k from rfl)) (Yo hH 42 rfl (by kernel_rfl) rfl (fun x hx => run_asB (c := true) (run_neq rfl rfl) (decide_eq_true (by omega))) (Yo hH 43 rfl (by kernel_rfl) rfl (fun x hx => run_move rfl) (Yo hH 44 rfl (by kernel_rfl) rfl (fun x hx => run_move rfl) (Yo hH 45 rfl (by kernel_rfl) rfl (fun x hx => run_move rfl) (An_index_on 46  (KM) rfl (by kernel_rfl) (by kernel_rfl) (by kernel_rfl) rfl rfl (fun _ _ _ _ h => h) hH (fun x hx => (((hs.kept 2 rfl).1).grow hx)) un29 inf41 rfl rfl (by omega) (by omega) hmx rfl (fun b62 o63 hc64 => (Yo hH 47 rfl (by kernel_rfl) rfl (fun x hx => run_field un41 rfl inf3 (by decide) rfl) (Yo hH 48 rfl (by kernel_rfl) rfl (fun x hx => run_as (run_load sc3 rfl ((hc64 x hx) 0 _ rfl)) (show _ = Value.int .i64 m0.k from rfl)) (Yo hH 49 rfl (by kernel_rfl) rfl (fun x hx => run_asB (c := false) (run_neq rfl rfl) (decide_eq_false (by omega))) (Yo hH 50 rfl (by kernel_rfl) rfl (fun x hx => run_pick_t rfl rfl) (Ya hH 51 rfl (by kernel_rfl) (fun x hx => run_pick_f rfl rfl) (An_done (by kernel_rfl) (Zq (St_iff rfl (St_skip (Jm_block_normal (Zq (St_region (Zm rfl (Zr (run_add rfl rfl (w64 (by omega))) rfl (Za rfl (Ls_nil (Jm_round (k + 1) ?_ ?_ ?_)))))))))))))))))))))))))))))))))))))))))
        · rw [hEn33]; exact sE ⟨rfl, rfl, rfl, rfl, rfl, rfl, rfl, rfl, trivial⟩
        · rw [hIv34]
          exact ⟨hs, by omega⟩
        rw [hms35, hms35]
        omega
      refine St_exit (Jm_then_exit (Jm_then_exit (Jm_block_same (Zq (Zs (Zf un53 inf51 rfl 0 rfl (Zf un51 inf25 rfl 2 rfl (Zl sc25 rfl (hs.blk_at 3 rfl 2 rfl) (Za rfl (Zt (Za rfl (Zj (St_block ?_)))))))))))))
      obtain ⟨En66, hEn66⟩ := ex4 fun (k : Nat) (fA : Option Addr) (fc : Nat) (fl : List Int) => ([(1, .slice A1 n1 c1), (2, .pointer (some ⟨b2, 0, none⟩)), (5, .pointer (some ⟨b11, 0, none⟩)), (7, .int .i64 (i : Int)), (8, .slice mA ml.length mc), (10, .pointer (some ⟨b28, 0, none⟩)), (11, .slice oA vo.length oc), (13, .slice fA fl.length fc), (14, .int .i64 (k : Int))] : Env)
      obtain ⟨Iv67, hIv67⟩ := ew4 fun (k : Nat) (fA : Option Addr) (fc : Nat) (fl : List Int) (wr : World) => Sat w wr [WA tns b11 p ops tr2 false j2 d2 n2, Keep (TK2 oA oc vo Nnc2 nnc2 j2.n.cur), Keep (MK mA mc ml), Blk b28 [.int .i64 j2.n.batch, .slice Nnp2 j2.n.prev.length nnp2, .slice Nnc2 j2.n.cur.length nnc2, .int .i64 j2.n.att] 53, Blk b2 [.int .i64 p.pa, .int .i64 p.st, .int .i64 p.wo, .slice p.oA p.on p.oc, .int .i64 p.ag, .int .i64 p.ba, .int .i64 p.wi, .int .i64 p.gu] 24] ∧ k ≤ vo.length ∧ (k < vo.length → fA = (frA Nnc2 nnc2 vo k).1 ∧ fc = (frA Nnc2 nnc2 vo k).2 ∧ fl = frL j2.n.cur vo k)
      obtain ⟨ms68, hms68⟩ := ex4 fun (k : Nat) (fA : Option Addr) (fc : Nat) (fl : List Int) => (vo.length - k : Nat)
      refine St_loop En66 Iv67 ms68 (0, Nnc2, nnc2, j2.n.cur) ?_ ?_ ?_
      · rw [hIv67]
        exact ⟨hs, Nat.zero_le _, fun _ => ⟨rfl, rfl, rfl⟩⟩
      · rw [hEn66]; exact sE ⟨rfl, rfl, rfl, rfl, rfl, rfl, rfl, rfl, rfl, trivial⟩
      rintro ⟨k, fA, fc, fl⟩ wr hI69
      rw [hIv67] at hI69
      obtain ⟨hs, hkv, hfr0⟩ := hI69
      refine St_eqE (hEn66 _ _ _ _) (St_seq (Zs (Zm rfl (Zm rfl (Zr (run_len un44 rfl) rfl (Zr (run_lss rfl rfl) rfl (Zj (St_ifP rfl (fun h70 => ?_) (fun h70 => ?_)))))))))
      · refine St_skip (Zq (St_seq (St_block (Zs (Zm rfl (Zm rfl ?_))))))
        obtain ⟨x, hx0⟩ : ∃ z, vo.getD k T0 = z := ⟨_, rfl⟩
        have hxm : x ∈ vo := by rw [← hx0]; exact getD_mem3 (by omega)
        have hxe : x.1 = tr2.getD k T0.1 := by rw [← hx0, ← hvo, fst_getD]
        have hok := hc2.ts.at_ k (by omega)
        have hxl := hlens.2 x.1 (by rw [hxe]; exact getD_mem3 (by omega))
        have hfe : x.1.fr = frL j2.n.cur vo k := by
          rw [hxe, hok.fr]; unfold frL
          by_cases e : k = 0
          · rw [if_pos e, if_pos e]
          · rw [if_neg e, if_neg e, ← fst_getD vo, hvo]
        obtain ⟨hf1, hf2, hf3⟩ := hfr0 (by omega)
        have hfl : fl = x.1.fr := by rw [hf3, hfe]
        obtain ⟨hb1, ha1, hnd1, hti1, hfr1, hph1, hgo1, hfst1, hrd1, hen1⟩ := hok
        rw [← hxe] at hb1 ha1 hnd1 hti1 hfr1 hph1 hgo1 hfst1 hrd1 hen1
        refine Ls_index (KT) ((hs.kept 1 rfl).1.1) un44 inf43 rfl rfl (by omega) (by omega) hx0 rfl (fun b71 o72 hc73 => (Zr (run_as (run_load_agg agg43 inf43 rfl rfl hc73) (show _ = Value.agg #[.int .i64 x.1.b, .int .i64 x.1.a, .int .i64 x.1.nd, .int .i64 x.1.ph, .int .i64 x.1.ti, .slice x.2.fA x.1.fr.length x.2.fc, .slice x.2.tA x.1.to.length x.2.tc] from rfl)) rfl (Ls_alloc hs inf43 rfl (fun b75 w74 hs => (Ls_storeAgg hs inf43 rfl rfl rfl rfl (by simp [Value.oneCell', Value.cells, mcells, tcells]) (fun w76 hs => (Zj (St_seq (St_seq (St_draw (fun x => Below w76.heap.size w76 x) mixed (fun w77 q78 => ?_)))))))))))
        have hH := q78.below
        replace hs := hs.quiet q78
        refine An_grow hH ?_
        replace hH := Below.refl w77.heap.size w77
        refine Ya hH 0 rfl (by kernel_rfl) (fun x hx => run_fd un43 inf3 rfl 0 rfl) (Ya hH 1 rfl (by kernel_rfl) (fun x hx => run_load sc3 rfl ((hs.grow hx).blk_at 0 rfl 0 rfl)) (Ya hH 2 rfl (by kernel_rfl) (fun x hx => run_fd un53 inf51 rfl 0 rfl) (Ya hH 3 rfl (by kernel_rfl) (fun x hx => run_fd un51 inf3 rfl 0 rfl) (Ya hH 4 rfl (by kernel_rfl) (fun x hx => run_load sc3 rfl ((hs.grow hx).blk_at 4 rfl 0 rfl)) (Ya hH 5 rfl (by kernel_rfl) (fun x hx => run_add rfl rfl (w64 (by omega))) (Ym hH 6 rfl (by kernel_rfl) rfl (Ya hH 7 rfl (by kernel_rfl) (fun x hx => run_add rfl rfl (w64 (by omega))) (Ya hH 8 rfl (by kernel_rfl) (fun x hx => run_asB (c := false) (run_neq rfl rfl) (decide_eq_false (by omega))) (Ym hH 9 rfl (by kernel_rfl) rfl (Yo hH 10 rfl (by kernel_rfl) rfl (fun x hx => run_fd un43 inf25 rfl 5 rfl) (Yo hH 11 rfl (by kernel_rfl) rfl (fun x hx => run_load sc25 rfl ((hs.grow hx).blk_at 0 rfl 5 rfl)) (Yo hH 12 rfl (by kernel_rfl) rfl (fun x hx => run_move rfl) (An_only 13 (by kernel_rfl) rfl (Zo rfl (Zc fn13 rfl (ints19_c w77 _ _ _ x.1.fr _ _ _ fl (((hs.kept 2 rfl).1.2 _ hxm).1) (by rw [hf1, hf2, hf3]; exact tk2_from (hs.kept 2 rfl) (by omega)) (by omega)) rfl ?_)))))))))))))))
        rintro v79 w80 ⟨rfl, hsF⟩
        replace hs := hs.T hsF
        rw [decide_eq_true hfl.symm]
        replace hH := (hsF.below : Below w77.heap.size w77 w80)
        refine Ls_nil (Jm_An hH (An_grow hH ?_))
        replace hH := Below.refl w80.heap.size w80
        refine Yo hH 14 rfl (by kernel_rfl) rfl (fun x hx => run_not rfl) (Ya hH 15 rfl (by kernel_rfl) (fun x hx => run_pick_f rfl rfl) (Ym hH 16 rfl (by kernel_rfl) rfl (Yo hH 17 rfl (by kernel_rfl) rfl (fun x hx => run_fd un43 inf3 rfl 2 rfl) (Yo hH 18 rfl (by kernel_rfl) rfl (fun x hx => run_load sc3 rfl ((hs.grow hx).blk_at 0 rfl 2 rfl)) (Yo hH 19 rfl (by kernel_rfl) rfl (fun x hx => run_load_agg agg24 inf24 rfl rfl ((hs.grow hx).blk_cells 5 rfl 0 8)) (Yo hH 20 rfl (by kernel_rfl) rfl (fun x hx => run_fd un43 inf3 rfl 1 rfl) (Yo hH 21 rfl (by kernel_rfl) rfl (fun x hx => run_load sc3 rfl ((hs.grow hx).blk_at 0 rfl 1 rfl)) (An_only 22 (by kernel_rfl) rfl (Zo rfl (Zc fn25 rfl (WorkerOf_c w80 p ops (hr.inB hs) (by omega) x.1.a (by omega)) rfl ?_))))))))))
        rintro v81 w82 ⟨rfl, hsF⟩
        replace hs := hs.T hsF
        rw [← hnd1]
        replace hH := (hsF.below : Below w80.heap.size w80 w82)
        refine Ls_nil (Jm_An hH (An_grow hH ?_))
        replace hH := Below.refl w82.heap.size w82
        refine Yo hH 23 rfl (by kernel_rfl) rfl (fun x hx => run_asB (c := false) (run_neq rfl rfl) (decide_eq_false (by omega))) (Ya hH 24 rfl (by kernel_rfl) (fun x hx => run_pick_f rfl rfl) (Ym hH 25 rfl (by kernel_rfl) rfl (Yo hH 26 rfl (by kernel_rfl) rfl (fun x hx => run_fd un43 inf3 rfl 1 rfl) (Yo hH 27 rfl (by kernel_rfl) rfl (fun x hx => run_load sc3 rfl ((hs.grow hx).blk_at 0 rfl 1 rfl)) (Yo hH 28 rfl (by kernel_rfl) rfl (fun x hx => run_fd un53 inf3 rfl 3 rfl) (Yo hH 29 rfl (by kernel_rfl) rfl (fun x hx => run_load sc3 rfl ((hs.grow hx).blk_at 4 rfl 3 rfl)) (Yo hH 30 rfl (by kernel_rfl) rfl (fun x hx => run_asB (c := false) (run_gtr rfl rfl) (decide_eq_false (by omega))) (Ya hH 31 rfl (by kernel_rfl) (fun x hx => run_pick_f rfl rfl) (Ym hH 32 rfl (by kernel_rfl) rfl (Yo hH 33 rfl (by kernel_rfl) rfl (fun x hx => run_fd un43 inf3 rfl 4 rfl) (Yo hH 34 rfl (by kernel_rfl) rfl (fun x hx => run_load sc3 rfl ((hs.grow hx).blk_at 0 rfl 4 rfl)) (Yo hH 35 rfl (by kernel_rfl) rfl (fun x hx => run_asB (c := false) (run_lss rfl rfl) (decide_eq_false (by omega))) (Ya hH 36 rfl (by kernel_rfl) (fun x hx => run_pick_f rfl rfl) (Ym hH 37 rfl (by kernel_rfl) rfl (Yo hH 38 rfl (by kernel_rfl) rfl (fun x hx => run_fd un43 inf3 rfl 4 rfl) (Yo hH 39 rfl (by kernel_rfl) rfl (fun x hx => run_load sc3 rfl ((hs.grow hx).blk_at 0 rfl 4 rfl)) (Yo hH 40 rfl (by kernel_rfl) rfl (fun x hx => run_fd un24 inf3 rfl 7 rfl) (Yo hH 41 rfl (by kernel_rfl) rfl (fun x hx => run_load sc3 rfl ((hs.grow hx).blk_at 5 rfl 7 rfl)) (Yo hH 42 rfl (by kernel_rfl) rfl (fun x hx => run_asB (c := false) (run_geq rfl rfl) (decide_eq_false (by omega))) (Ya hH 43 rfl (by kernel_rfl) (fun x hx => run_pick_f rfl rfl) (An_done (by kernel_rfl) (Zq (St_iff rfl (St_skip (Zq (St_seq (St_seq ?_)))))))))))))))))))))))))))
        obtain ⟨En84, hEn84⟩ := ex1 fun (dum : Nat) => ([(1, .slice A1 n1 c1), (2, .pointer (some ⟨b2, 0, none⟩)), (5, .pointer (some ⟨b11, 0, none⟩)), (7, .int .i64 (i : Int)), (8, .slice mA ml.length mc), (10, .pointer (some ⟨b28, 0, none⟩)), (11, .slice oA vo.length oc), (13, .slice fA fl.length fc), (14, .int .i64 (k : Int)), (15, .pointer (some ⟨b75, 0, none⟩)), (198, .bool false)] : Env)
        obtain ⟨Iv85, hIv85⟩ := ew1 fun (dum : Nat) (w86 : World) => Sat w w86 [Blk b75 [.int .i64 x.1.b, .int .i64 x.1.a, .int .i64 x.1.nd, .int .i64 x.1.ph, .int .i64 x.1.ti, .slice x.2.fA x.1.fr.length x.2.fc, .slice x.2.tA x.1.to.length x.2.tc] 43, WA tns b11 p ops tr2 false j2 d2 n2, Keep (TK2 oA oc vo Nnc2 nnc2 j2.n.cur), Keep (MK mA mc ml), Blk b28 [.int .i64 j2.n.batch, .slice Nnp2 j2.n.prev.length nnp2, .slice Nnc2 j2.n.cur.length nnc2, .int .i64 j2.n.att] 53, Blk b2 [.int .i64 p.pa, .int .i64 p.st, .int .i64 p.wo, .slice p.oA p.on p.oc, .int .i64 p.ag, .int .i64 p.ba, .int .i64 p.wi, .int .i64 p.gu] 24]
        refine St_join En84 Iv85 ?_ ?_
        · refine St_region (Zf un43 inf3 rfl 3 rfl (Zl sc3 rfl (hs.blk_at 0 rfl 3 rfl) (Zr (run_eql rfl rfl) rfl (Zm rfl (Zr (run_eql rfl rfl) rfl (Zm rfl (Ls_partP (t := 181) rfl (fun h87 => ?_) (fun h87 => ?_))))))))
          · refine Zo rfl (Zf un43 inf3 rfl 3 rfl (Zo rfl (Zl sc3 rfl (hs.blk_at 0 rfl 3 rfl) (Zo rfl (Zr (run_neq rfl rfl) rfl (Zr (run_pick_t rfl rfl) rfl (Zr (run_asB (c := false) (run_neq_bool un4 rfl rfl) (by have e9 : decide (x.1.ph = 3) = decide (x.1.ph ≠ 1) := decide_eq_decide.2 (by omega); rw [e9]; simp)) rfl (Zm rfl (Zo rfl (Zf un43 inf3 rfl 3 rfl (Zo rfl (Zl sc3 rfl (hs.blk_at 0 rfl 3 rfl) (Zo rfl (Zr (run_eql rfl rfl) rfl (Zo rfl (Zm rfl (Ls_partP (t := 191) rfl (fun h88 => ?_) (fun h88 => ?_))))))))))))))))))
            · refine Zo rfl (Zm rfl (Zo rfl (Zm rfl (Zo rfl (Zr (run_len un44 rfl) rfl (Zo rfl (Zr (run_sub rfl rfl (w64 (by omega))) rfl (Zo rfl (Zr (run_asB (c := false) (run_lss rfl rfl) (decide_eq_false (by omega))) rfl (Zo rfl (Zr (run_pick_t rfl rfl) rfl (Zr (run_pick_f rfl rfl) rfl (Ls_nil (Jm_join 0 ?_ ?_))))))))))))))
              · rw [hEn84]; exact sE ⟨rfl, rfl, rfl, rfl, rfl, rfl, rfl, rfl, rfl, rfl, rfl, trivial⟩
              rw [hIv85]
              exact hs
            refine Zx rfl (Zx rfl (Zx rfl (Zx rfl (Zx rfl (Zo rfl (Zr (run_pick_f rfl rfl) rfl (Zr (run_pick_f rfl rfl) rfl (Ls_nil (Jm_join 0 ?_ ?_)))))))))
            · rw [hEn84]; exact sE ⟨rfl, rfl, rfl, rfl, rfl, rfl, rfl, rfl, rfl, rfl, rfl, trivial⟩
            rw [hIv85]
            exact hs
          refine Zx rfl (Zx rfl (Zx rfl (Zr (run_pick_f rfl rfl) rfl (Zr (run_asB (c := false) (run_neq_bool un4 rfl rfl) (by have e9 : decide (x.1.ph = 3) = false := decide_eq_false (by omega); rw [e9]; rfl)) rfl (Zm rfl (Zo rfl (Zf un43 inf3 rfl 3 rfl (Zo rfl (Zl sc3 rfl (hs.blk_at 0 rfl 3 rfl) (Zo rfl (Zr (run_eql rfl rfl) rfl (Zo rfl (Zm rfl (Ls_partP (t := 191) rfl (fun h89 => ?_) (fun h89 => ?_)))))))))))))))
          · refine Zo rfl (Zm rfl (Zo rfl (Zm rfl (Zo rfl (Zr (run_len un44 rfl) rfl (Zo rfl (Zr (run_sub rfl rfl (w64 (by omega))) rfl (Zo rfl (Zr (run_asB (c := false) (run_lss rfl rfl) (decide_eq_false (by omega))) rfl (Zo rfl (Zr (run_pick_t rfl rfl) rfl (Zr (run_pick_f rfl rfl) rfl (Ls_nil (Jm_join 0 ?_ ?_))))))))))))))
            · rw [hEn84]; exact sE ⟨rfl, rfl, rfl, rfl, rfl, rfl, rfl, rfl, rfl, rfl, rfl, trivial⟩
            rw [hIv85]
            exact hs
          refine Zx rfl (Zx rfl (Zx rfl (Zx rfl (Zx rfl (Zo rfl (Zr (run_pick_f rfl rfl) rfl (Zr (run_pick_f rfl rfl) rfl (Ls_nil (Jm_join 0 ?_ ?_)))))))))
          · rw [hEn84]; exact sE ⟨rfl, rfl, rfl, rfl, rfl, rfl, rfl, rfl, rfl, rfl, rfl, trivial⟩
          rw [hIv85]
          exact hs
        rintro dum w86 hI90
        rw [hIv85] at hI90
        replace hs := hI90
        refine Jm_eqE (hEn84 _) (Zq (St_iff rfl (St_skip (Zq (St_seq (Zs (Zf un43 inf3 rfl 3 rfl (Zl sc3 rfl (hs.blk_at 0 rfl 3 rfl) (Zr (run_eql rfl rfl) rfl (Zj (St_ifP rfl (fun h92 => ?_) (fun h92 => ?_))))))))))))
        · refine St_seq (Zs (Zf un43 inf25 rfl 6 rfl (Zl sc25 rfl (hs.blk_at 0 rfl 6 rfl) (Zr (run_len un25 rfl) rfl (Zr (run_asB (c := false) (run_neq rfl rfl) (decide_eq_false (by rw [(hrd1 (by assumption)).2]; simp))) rfl (Zj (St_iff rfl (St_skip (Zq (St_exit (Jm_then_exit (Jm_block_same (Zq (St_region (Zm rfl (Zr (run_add rfl rfl (w64 (by omega))) rfl (Za rfl (Ls_nil ?_))))))))))))))))))
          replace hs := hs.E0.F4.F4.F4.F4.F4
          refine Jm_round (k + 1, fA, fc, fl) ?_ ?_ ?_
          · rw [hEn66]; exact sE ⟨rfl, rfl, rfl, rfl, rfl, rfl, rfl, rfl, rfl, trivial⟩
          · rw [hIv67]
            exact ⟨hs, by omega, fun q => by omega⟩
          rw [hms68, hms68]
          omega
        refine St_skip (Zq (St_seq (Zs (Zm rfl (Zf un43 inf25 rfl 6 rfl (Zl sc25 rfl (hs.blk_at 0 rfl 6 rfl) (Zc fn19 rfl (Forward_c w86 _ _ _ fl _ _ _ x.1.to (by rw [hf1, hf2, hf3]; exact tk2_from (hs.kept 2 rfl) (by omega)) (((hs.kept 2 rfl).1.2 _ hxm).2) (by rw [hfl]; omega)) rfl ?_)))))))
        rintro v94 w95 ⟨rfl, hsF⟩
        replace hs := hs.T hsF
        rw [decide_eq_true (hfl ▸ (hen1 (by assumption)).1)]
        refine Zr (run_not rfl) rfl (Zm rfl (Zo rfl (Zm rfl (Zo rfl (Zf un43 inf25 rfl 6 rfl (Zo rfl (Zl sc25 rfl (hs.blk_at 0 rfl 6 rfl) (Zo rfl (Zc fn13 rfl (ints19_c w95 _ _ _ fl _ _ _ x.1.to (by rw [hf1, hf2, hf3]; exact tk2_from (hs.kept 2 rfl) (by omega)) (((hs.kept 2 rfl).1.2 _ hxm).2) (by rw [hfl]; omega)) rfl ?_)))))))))
        rintro v96 w97 ⟨rfl, hsF⟩
        replace hs := hs.T hsF
        rw [decide_eq_false (fun q => (hen1 (by assumption)).2.1 (hfl ▸ q))]
        refine Zr (run_pick_f rfl rfl) rfl (Zj (St_iff rfl (St_skip (Zq (St_region (Zf un43 inf25 rfl 6 rfl (Zl sc25 rfl (hs.blk_at 0 rfl 6 rfl) (Za rfl (Ls_nil (Jm_block_normal (Zq (St_region (Zm rfl (Zr (run_add rfl rfl (w64 (by omega))) rfl (Za rfl (Ls_nil ?_))))))))))))))))
        replace hs := hs.E0.F4.F4.F4.F4.F4
        refine Jm_round (k + 1, x.2.tA, x.2.tc, x.1.to) ?_ ?_ ?_
        · rw [hEn66]; exact sE ⟨rfl, rfl, rfl, rfl, rfl, rfl, rfl, rfl, rfl, trivial⟩
        · rw [hIv67]
          refine ⟨hs, by omega, fun q => ?_⟩
          unfold frA frL
          rw [if_neg (by omega), if_neg (by omega), Nat.add_sub_cancel, hx0]
          exact ⟨rfl, rfl, rfl⟩
        rw [hms68, hms68]
        omega
      refine St_exit (Jm_then_exit (Jm_then_exit (Jm_block_same (Jm_block_normal (Zq (St_region (Zm rfl (Zr (run_add rfl rfl (w64 (by omega))) rfl (Za rfl (Ls_nil ?_))))))))))
      replace hs := hs.E1.E1.E1.F1.F1
      refine Jm_round (i + 1, tr2, j2, d2, n2) ?_ ?_ ?_
      · rw [hEn14]; exact sE ⟨rfl, rfl, rfl, rfl, trivial⟩
      · rw [hIv15]
        exact ⟨hs, (show ((i : Int) + 1) = ((i + 1 : Nat) : Int) by omega) ▸ hc2, by omega, by omega, by omega⟩
      rw [hms16, hms16]
      omega
    refine St_exit (Jm_then_exit (Jm_then_exit (Jm_block_same (Zq (Zs (Za rfl (Zj (St_ret (Jm_ret1 rfl rfl ?_)))))))))
    exact ⟨_, rfl, rfl, hs.below⟩
  refine Zx rfl (Zx rfl (Zr (run_pick_f rfl rfl) rfl (Zj (St_iff rfl (St_exit (Jm_then_exit (Jm_then_exit (Jm_block_same (Zq (Zs (Za rfl (Zj (St_ret (Jm_ret1 rfl rfl ?_))))))))))))))
  exact ⟨_, rfl, rfl, hs.below⟩
end Go.Proofs.Ytcifdianinbkeaa.Lg
set_option linter.unusedVariables false
set_option linter.unusedSimpArgs false
namespace Go.Proofs.Ytcifdianinbkeaa.coordOrder
open Go.ChangeShapes Go.WideShapes Go.ChangeAt Go.RowKit
open Go.Proofs.Ytcifdianinbkeaa.Lg Go.Proofs.Ytcifdianinbkeaa.PlanPure
theorem own : ownKnob Try.prog.godebug = none := by kernel_rfl
theorem laidOut : laidOutB Try.prog = true := by kernel_rfl
set_option maxRecDepth 100000 in
theorem lifted (os : Os) (started : os.Started) (H : Type) (enc : TypeId × Value → H) :
    ReturnsInHanded {} Try.checked os 7 .any (Rows.coordOrderSpec.pre6 enc Try.prog Try.f7 Rows.coordOrderRow.domain false) (Rows.coordOrderSpec.post enc Try.prog Try.f7 false true false false) := by
  refine returnsInHanded_of_change_sized (C := Try.checked) own started (by kernel_rfl) Try.func7
    (ChangeSpec.witness6 (enc := enc) (C := Try.checked) false ⟨#[], #[.agg #[.int .i64 0, .int .i64 0, .int .i64 0, .slice none 0 0, .int .i64 0, .int .i64 0, .int .i64 0, .int .i64 0], .slice none 0 0], []⟩ 8 (by kernel_rfl) (by kernel_rfl) (by kernel_rfl) (by kernel_rfl)) ?_
  intro W base args ds gs before hval0 hW hcnd hsz0 _
  have hsz : (DataW.weightsEach Try.prog (Try.f7.params.toList ++ Rows.coordOrderSpec.plain.varTypes Try.prog) (ds ++ gs)).all (· ≤ reachBytes) = true := hsz0
  have hval : ∀ (j : Nat) t v, Try.f7.params[j]? = some t → args[j]? = some v → Value.okWide Try.prog W .any base t v := hval0
  have hW' := hW
  obtain ⟨p, q, hA0, hV, rfl, hfz, hnd⟩ := hW
  have hA : DataW.TrodAll enc Try.prog W 0 (fun _ => true) true Try.f7.params.toList args.toList ds p := hA0
  rw [Try.params7] at hA hval hsz
  obtain ⟨v0, vs0, d0, ds0, p0, q0, hargs, rfl, rfl, h0, r0⟩ := trodAll_cons hA
  obtain ⟨v1, vs1, d1, ds1, p1, q1, rfl, rfl, rfl, h1, r1⟩ := trodAll_cons r0
  obtain ⟨rfl, rfl, rfl⟩ := trodAll_nil r1
  obtain rfl : args = #[v0, v1] := by cases args; simp_all
  obtain ⟨rfl, rfl⟩ := trodVars_none hV
  obtain ⟨cs0, rfl, _⟩ := okWide_struct Try.underlying24 (hval 0 24 v0 rfl rfl)
  have k0 := h0
  have lt0 : ∀ x ∈ p0, x.block < W.heap.size := by obtain ⟨m, hm⟩ := k0; exact DataW.trod_lt m _ _ _ hm
  obtain ⟨fu0, hf0⟩ := h0
  obtain ⟨s0_0, s0_1, s0_2, s0_3, s0_3n, s0_3c, s0_4, s0_5, s0_6, s0_7, ec0, g0_0, g0_1, g0_2, g0_3, g0_4, g0_5, g0_6, g0_7, g0_8, g0_9⟩ := dec24 hf0
  obtain rfl : cs0 = #[.int .i64 s0_0, .int .i64 s0_1, .int .i64 s0_2, .slice s0_3 s0_3n s0_3c, .int .i64 s0_4, .int .i64 s0_5, .int .i64 s0_6, .int .i64 s0_7] := Array.ext' ec0
  obtain ⟨od0, op0, ot0, _⟩ := g0_3
  obtain ⟨ops0, rdo0, _, _⟩ := rd_slice' KOp (fun _ => True) Try.underlying22 (by kernel_rfl) (by decide) (fun n cs y hy => by obtain ⟨a, b, c, e, _⟩ := dec94 hy; exact ⟨(a, b, c), e.symm, trivial⟩) ot0
  have mo0 : s0_3n ≤ 9223372036854775807 := by have := g0_4; have := g0_5; simp only [maxLen] at this; omega
  have mp0 : chk ⟨s0_0, s0_1, s0_2, s0_3, s0_3n, s0_3c, s0_4, s0_5, s0_6, s0_7⟩ ops0 = 0 → s0_3n ≤ 67108864 := fun hc => by have h8 := chk_len hc; have h9 := lenKOp rdo0; omega
  obtain ⟨A1, len1, cap1, rfl⟩ := okWide_slice Try.underlying56 (hval 1 56 v1 rfl rfl)
  have k1 := h1
  have lt1 : ∀ x ∈ p1, x.block < W.heap.size := by obtain ⟨m, hm⟩ := k1; exact DataW.trod_lt m _ _ _ hm
  obtain ⟨l, rd1, ln1, gd1⟩ := rd_slice' KAct (AOk W) Try.underlying56 (by kernel_rfl) (by decide) (fun n cs y hy => by obtain ⟨a, b, A, an, ac, e, _, _, ⟨d, ps, T, _, _⟩, hc1, hc2⟩ := dec60 hy; obtain ⟨l, r, _, _⟩ := rd_ints Try.underlying25 Try.underlying3 (by kernel_rfl) T; exact ⟨(a, b, A, an, ac), e.symm, ⟨l, r⟩, by simp only [maxLen] at hc2; show an ≤ _; omega⟩) h1
  have sz1 : len1 * 40 ≤ 140737488351232 := sized_any hsz (j := 1) (t := 56) rfl rfl Try.underlying56 (by kernel_rfl) h1
  clear hA0 hval0 hsz0 hsz
  refine (if hc : chk ⟨s0_0, s0_1, s0_2, s0_3, s0_3n, s0_3c, s0_4, s0_5, s0_6, s0_7⟩ ops0 = 0 then CoordOrder_ok W ⟨s0_0, s0_1, s0_2, s0_3, s0_3n, s0_3c, s0_4, s0_5, s0_6, s0_7⟩ ops0 rdo0 (mp0 hc) hc A1 len1 cap1 l rd1 gd1 (by omega) else CoordOrder_bad W ⟨s0_0, s0_1, s0_2, s0_3, s0_3n, s0_3c, s0_4, s0_5, s0_6, s0_7⟩ ops0 rdo0 mo0 hc A1 len1 cap1).mono fun e W' ⟨v, he, hv, bel⟩ => ?_
  subst he
  subst hv
  exact ⟨_, rfl, _, _, _, [], _, [], hW', trodAll_mk1 (shut_bool Try.underlying4 _), (trodAll_cons_mk (Below.trod laidOut (by kernel_rfl) (of_decide_eq_true (by kernel_rfl)) k0 bel lt0) (trodAll_cons_mk (Below.trod laidOut (by kernel_rfl) (of_decide_eq_true (by kernel_rfl)) k1 bel lt1) trodAll_mk0)), rfl, bel.frame _, fun h => by cases h⟩
theorem over : Rows.coordOrderRow.holds Try.pinned (OpenSpec.ofChange Rows.coordOrderSpec) :=
  OpenClaim.holds_of_wide 7 Try.f7 rfl rfl rfl rfl rfl rfl rfl ⟨rfl, rfl, rfl, rfl, rfl⟩ rfl rfl rfl rfl rfl (by kernel_rfl) Try.func7 (by kernel_rfl)
    (of_decide_eq_true (by kernel_rfl)) (by unfold Func.isWrapper; first | (rw [if_pos (by decide +kernel)]; kernel_rfl) | (rw [if_neg (by decide +kernel)]; exact ⟨rfl, rfl⟩))
    (fun os started H enc _ => lifted os started H enc)
end Go.Proofs.Ytcifdianinbkeaa.coordOrder
namespace Go.Proofs.Ytcifdianinbkeaa
/-- The row, under a short name, for the claim. -/
theorem coordOrder_holds : Rows.CoordOrderSaid := coordOrder.over
end Go.Proofs.Ytcifdianinbkeaa
