/-
  Pages: the law's images, weight and awake. By program (gen/pg7.py).
-/
import Derived.Test.YtipkfdeiallifaaPgSim
set_option linter.unusedVariables false
set_option linter.unusedSimpArgs false
namespace Go.Proofs.Ytipkfdeiallifaa.Lg
open Go Go.RowKit Go.Proofs.Ytipkfdeiallifaa.WirePure
theorem PWs.mk1 {w : World} {A a : Option Addr} {c m cc : Nat} {p : Int} {x : List Int} (h : Rd w A 1 c 2 (KW.flat [(p, a, m, cc)])) (h1 : Rd w a m cc 1 (bytesV x)) : PWs w A 1 c [(p, a, m, cc)] [(p, x)] := ⟨h, rfl, fun i hi => by
  have e : i = 0 := by simp at hi; omega
  subst e; exact ⟨rfl, h1⟩⟩
theorem PWs.mk2 {w : World} {A a a2 : Option Addr} {c m cc m2 c2 : Nat} {p p2 : Int} {x x2 : List Int} (h : Rd w A 2 c 2 (KW.flat [(p, a, m, cc), (p2, a2, m2, c2)])) (h1 : Rd w a m cc 1 (bytesV x)) (h2 : Rd w a2 m2 c2 1 (bytesV x2)) : PWs w A 2 c [(p, a, m, cc), (p2, a2, m2, c2)] [(p, x), (p2, x2)] := ⟨h, rfl, fun i hi => by
  have e : i = 0 ∨ i = 1 := by simp at hi; omega
  rcases e with rfl | rfl
  · exact ⟨rfl, h1⟩
  · exact ⟨rfl, h2⟩⟩
theorem rbS {g : Int} {l : List Int} : rbytes g l = pb g.toNat ++ (pb l.length ++ l.flatMap fun x => pb x.toNat) := rfl
theorem rb1 : rbytes 1 [0, 0] = [1, 2, 0, 0] := by simp [rbS, pb_small]
theorem rb2 : rbytes 2 [2, 3] = [2, 2, 2, 3] := by simp [rbS, pb_small]
theorem rb3 : rbytes 3 [4, 3] = [3, 2, 4, 3] := by simp [rbS, pb_small]
def dA0 : DSt := ⟨[[1, 2, 0, 0], [], [], [], [], []], false, false, -2, 0, 2⟩
def dA1 : DSt := ⟨[[1, 2, 0, 0], [2, 2, 2, 3], [120], [121], [], []], false, false, -5, 0, 5⟩
def dA2 : DSt := ⟨[[3, 2, 4, 3], [2, 2, 2, 3], [120], [121], [122], []], false, false, -7, 0, 7⟩
def sA1 : BSt := ⟨[2, 3], 2, 1, false⟩
def sA2 : BSt := ⟨[4, 3], 3, 0, false⟩
def dA3 : DSt := { dA2 with reads := 1 }
theorem aw0 : bformat dO (dnew 6) 2 = (0, some (bnew 2), dA0) := bformat_ok (o := dO) (d1 := ⟨[[], [], [], [], [], []], false, false, -1, 0, 1⟩) (by decide) (by decide) rfl (by rw [show List.replicate (2 : Int).toNat (0 : Int) = [0, 0] from rfl, rb1]; rfl)
theorem aw1 : bput dO (fun _ => 80) (bnew 2) dA0 [(0, [120]), (1, [121])] = (0, sA1, dA1) := bput_ok (o := dO) (s := bnew 2) (tb2 := [2, 3]) (d2 := ⟨[[1, 2, 0, 0], [], [120], [121], [], []], false, false, -4, 0, 4⟩) (by decide) (by simp [bfault, bfaultF, bnew]) (by decide) rfl (by rw [show (bnew 2).gen + 1 = 2 from rfl, rb2]; rfl)
theorem aw2 : bput dO (fun _ => 80) sA1 dA1 [(0, [122])] = (0, sA2, dA2) := bput_ok (o := dO) (s := sA1) (tb2 := [4, 3]) (d2 := ⟨[[1, 2, 0, 0], [2, 2, 2, 3], [120], [121], [122], []], false, false, -6, 0, 6⟩) (by decide) (by simp [bfault, bfaultF, sA1]) (by decide) rfl (by rw [show sA1.gen + 1 = 3 from rfl, rb3]; rfl)
theorem aw3 : bget dO sA2 dA2 0 = ([122], 0, sA2, dA3) := rfl
theorem ok0 : DOk dA0 := ⟨by simp [dA0, IsBytes], by simp [dA0]⟩
theorem ok1 : DOk dA1 := ⟨by simp [dA1, IsBytes], by simp [dA1]⟩
theorem ok2 : DOk dA2 := ⟨by simp [dA2, IsBytes], by simp [dA2]⟩
theorem okx : DOk dA3 := ⟨by simp [dA3, dA2, IsBytes], by simp [dA3, dA2]⟩
theorem iv0 : BInv (bnew 2) 6 := bnew_inv (by decide) (by decide) (by decide)
theorem iv1 : BInv sA1 6 := ⟨by decide, by decide, by decide, by decide, by decide, by decide, .inr rfl⟩
set_option maxRecDepth 100000 in
set_option maxHeartbeats 1000000 in
theorem images9_c (w : World) (A : Option Addr) (n c : Nat) (va : List Value) (xa : List (List Int)) (A2 : Option Addr) (n2 c2 : Nat) (vb : List Value) (xb : List (List Int)) (hr : Rd w A n c 1 (El.val.flat va)) (hr2 : Rd w A2 n2 c2 1 (El.val.flat vb)) (hpa : PartsK (El.int .u8) w va xa) (hpb : PartsK (El.int .u8) w vb xb) (hba : ∀ r ∈ xa, IsBytes r) (hbb : ∀ r ∈ xb, IsBytes r) (hn : n ≤ 9223372036854775807) :
    Calls Try.prog 29 [.slice A n c, .slice A2 n2 c2].toArray w (Ret (fun v' w' => v' = .bool (decide (xa = xb)) ∧ Sat w w' [])) := by
  have hs := Sat.start w
  have hlva : va.length = n := by have := hr.len; rw [El.flat_length] at this; simpa [El.val] using this
  have hlvb : vb.length = n2 := by have := hr2.len; rw [El.flat_length] at this; simpa [El.val] using this
  have hla : xa.length = n := by have := hpa.1; omega
  have hlb : xb.length = n2 := by have := hpb.1; omega
  refine Calls_body Try.func29 rfl rfl rfl (envE_cons (i := 0) (v := .slice A n c) rfl (envE_cons (i := 1) (v := .slice A2 n2 c2) rfl envE_nil)) ?_
  refine St_seq ?_
  refine St_region ?_
  refine Ls_run (run_assign rfl) rfl ?_
  refine Ls_nil ?_
  refine Jm_seq ?_
  refine St_seq ?_
  refine St_seq ?_
  refine St_region ?_
  refine Ls_run (run_move rfl) rfl ?_
  refine Ls_run (run_len Try.underlying55 rfl) rfl ?_
  refine Ls_run (run_move rfl) rfl ?_
  refine Ls_run (run_len Try.underlying55 rfl) rfl ?_
  refine Ls_run (run_neq rfl rfl) rfl ?_
  refine Ls_nil ?_
  refine Jm_seq ?_
  refine St_ifP rfl (fun h1 => ?_) (fun h1 => ?_)
  · skip
    refine St_seq ?_
    refine St_region ?_
    refine Ls_run (run_assign rfl) rfl ?_
    refine Ls_nil ?_
    refine Jm_seq ?_
    refine St_ret ?_
    refine Jm_then_ret  ?_
    refine Jm_ret1 rfl rfl ?_
    exact ⟨_, rfl, by rw [decide_eq_false (fun q => by subst q; omega)], hs⟩
  · skip
    refine St_skip ?_
    refine Jm_seq ?_
    refine St_seq ?_
    refine St_seq ?_
    refine St_region ?_
    refine Ls_run (run_assign rfl) rfl ?_
    refine Ls_nil ?_
    refine Jm_seq ?_
    refine St_block ?_
    obtain ⟨En2, hEn2⟩ : ∃ F : Nat → Env, ∀ (i : Nat), F i = [(0, .slice A n c), (1, .slice A2 n2 c2), (5, .int .i64 (i : Int))] := ⟨(fun (i : Nat) => [(0, .slice A n c), (1, .slice A2 n2 c2), (5, .int .i64 (i : Int))]), fun _ => rfl⟩
    obtain ⟨Iv3, hIv3⟩ : ∃ F : Nat → World → Prop, ∀ (i : Nat) (wr : World), F i wr = (Sat w wr [] ∧ i ≤ n ∧ xa.take i = xb.take i) := ⟨(fun (i : Nat) => fun (wr : World) => Sat w wr [] ∧ i ≤ n ∧ xa.take i = xb.take i), fun _ _ => rfl⟩
    obtain ⟨ms4, hms4⟩ : ∃ F : Nat → Nat, ∀ (i : Nat), F i = (n - i) := ⟨(fun (i : Nat) => n - i), fun _ => rfl⟩
    refine St_loop En2 Iv3 ms4 (0) ?_ ?_ ?_
    · skip
      rw [hIv3]
      exact ⟨hs, by omega, rfl⟩
    · rw [hEn2]; exact (subE_cons rfl (subE_cons rfl (subE_cons rfl subE_nil)))
    rintro i wr hI5
    rw [hIv3] at hI5
    obtain ⟨hs, hi, heqt⟩ := hI5
    refine St_eqE (hEn2 _) ?_
    refine St_seq ?_
    refine St_seq ?_
    refine St_region ?_
    refine Ls_run (run_move rfl) rfl ?_
    refine Ls_run (run_move rfl) rfl ?_
    refine Ls_run (run_len Try.underlying55 rfl) rfl ?_
    refine Ls_run (run_lss rfl rfl) rfl ?_
    refine Ls_nil ?_
    refine Jm_seq ?_
    refine St_ifP rfl (fun h6 => ?_) (fun h6 => ?_)
    · skip
      refine St_skip ?_
      refine Jm_seq ?_
      refine St_seq ?_
      refine St_block ?_
      refine St_seq ?_
      refine St_draw (fun x => Below wr.heap.size wr x) mixed ?_
      intro w7 q8
      have hH := q8.below
      replace hs := hs.quiet q8
      refine An_grow hH ?_
      replace hH := Below.refl w7.heap.size w7
      refine An_take 0 rfl (by kernel_rfl) (by kernel_rfl) (by kernel_rfl) (fun _ _ _ h => h) hH (fun x hx => run_move rfl) rfl ?_
      refine An_take 1 rfl (by kernel_rfl) (by kernel_rfl) (by kernel_rfl) (fun _ _ _ h => h) hH (fun x hx => run_move rfl) rfl ?_
      obtain ⟨Ai, ni, ci, hvi, hra⟩ := hpa.2 i (by omega)
      obtain ⟨Bi, mi, di, hwi, hrb⟩ := hpb.2 i (by omega)
      rw [← bytesV_flat] at hra hrb
      refine An_index 2  (El.val) rfl (by kernel_rfl) (by kernel_rfl) (by kernel_rfl) (fun _ _ _ _ h => h) hH (fun x hx => ((hr.inB hs).grow hx)) Try.underlying55 inf28 rfl rfl (by omega) (by omega) hvi rfl ?_
      intro b9 o10 hc11
      refine An_take 3 rfl (by kernel_rfl) (by kernel_rfl) (by kernel_rfl) (fun _ _ _ h => h) hH (fun x hx => run_load sc28 rfl ((hc11 x hx) 0 _ rfl)) rfl ?_
      refine An_take 4 rfl (by kernel_rfl) (by kernel_rfl) (by kernel_rfl) (fun _ _ _ h => h) hH (fun x hx => run_string Try.underlying28 Try.underlying5 Try.underlying9 rfl ((hra.inB hs).grow hx)) rfl ?_
      refine An_take 5 rfl (by kernel_rfl) (by kernel_rfl) (by kernel_rfl) (fun _ _ _ h => h) hH (fun x hx => run_move rfl) rfl ?_
      refine An_take 6 rfl (by kernel_rfl) (by kernel_rfl) (by kernel_rfl) (fun _ _ _ h => h) hH (fun x hx => run_move rfl) rfl ?_
      refine An_index 7  (El.val) rfl (by kernel_rfl) (by kernel_rfl) (by kernel_rfl) (fun _ _ _ _ h => h) hH (fun x hx => ((hr2.inB hs).grow hx)) Try.underlying55 inf28 rfl rfl (by omega) (by omega) hwi rfl ?_
      intro b12 o13 hc14
      refine An_take 8 rfl (by kernel_rfl) (by kernel_rfl) (by kernel_rfl) (fun _ _ _ h => h) hH (fun x hx => run_load sc28 rfl ((hc14 x hx) 0 _ rfl)) rfl ?_
      refine An_take 9 rfl (by kernel_rfl) (by kernel_rfl) (by kernel_rfl) (fun _ _ _ h => h) hH (fun x hx => run_string Try.underlying28 Try.underlying5 Try.underlying9 rfl ((hrb.inB hs).grow hx)) rfl ?_
      refine An_take 10 rfl (by kernel_rfl) (by kernel_rfl) (by kernel_rfl) (fun _ _ _ h => h) hH (fun x hx => run_as (run_neq_str rfl rfl) (show _ = Value.bool (!decide (xa.getD i [] = xb.getD i [])) by rw [strOfNums_inj (hba _ (getD_mem_bl (by omega))) (hbb _ (getD_mem_bl (by omega)))])) rfl ?_
      refine An_done (by kernel_rfl) ?_
      refine Jm_seq ?_
      refine St_ifN rfl (fun h15 => ?_) (fun h15 => ?_)
      · skip
        refine St_seq ?_
        refine St_region ?_
        refine Ls_run (run_assign rfl) rfl ?_
        refine Ls_nil ?_
        refine Jm_seq ?_
        refine St_ret ?_
        refine Jm_block_ret (Jm_then_ret (Jm_then_ret (Jm_block_ret (Jm_then_ret  ?_))))
        refine Jm_ret1 rfl rfl ?_
        exact ⟨_, rfl, by rw [decide_eq_false (fun q => by subst q; simp_all)], hs⟩
      · skip
        refine St_skip ?_
        refine Jm_block_normal (Jm_seq ?_)
        refine St_region ?_
        refine Ls_run (run_move rfl) rfl ?_
        refine Ls_run (run_add rfl rfl (w64 (by omega))) rfl ?_
        refine Ls_run (run_assign rfl) rfl ?_
        refine Ls_nil ?_
        refine Jm_round (i + 1) ?_ ?_ ?_
        · rw [hEn2]; exact (subE_cons rfl (subE_cons rfl (subE_cons rfl subE_nil)))
        · skip
          rw [hIv3]
          refine ⟨hs, by omega, ?_⟩
          have heq : xa.getD i [] = xb.getD i [] := by first | assumption | exact Decidable.not_not.1 (by assumption)
          rw [take_snoc4 (d := []) (by omega), take_snoc4 (d := []) (by omega), heqt, heq]
        · skip
          rw [hms4, hms4]
          omega
    · skip
      refine St_exit ?_
      refine Jm_then_exit (Jm_then_exit (Jm_block_same (Jm_seq ?_)))
      refine St_seq ?_
      refine St_region ?_
      refine Ls_run (run_assign rfl) rfl ?_
      refine Ls_nil ?_
      refine Jm_seq ?_
      refine St_ret ?_
      refine Jm_ret1 rfl rfl ?_
      have hi9 : i = n := by omega
      exact ⟨_, rfl, by rw [decide_eq_true (take_all3 heqt (by omega) (by omega))], hs⟩
set_option maxRecDepth 100000 in
set_option maxHeartbeats 1000000 in
theorem weight_c (w : World) (A : Option Addr) (n c : Nat) (vs : List KWt) (ws : List Wr) (hw : PWs w A n c vs ws) (hok : PWok ws) (hn : n ≤ 8796093022208) :
    Calls Try.prog 41 [.slice A n c].toArray w (Ret (fun v' w' => w = w' ∧ ∃ k : Nat, v' = .int .i64 (k : Int) ∧ k ≤ 149533581373441)) := by
  have hwn := hw.n
  refine Calls_body Try.func41 rfl rfl rfl (envE_cons (i := 0) (v := .slice A n c) rfl envE_nil) ?_
  refine St_seq ?_
  refine St_region ?_
  refine Ls_run (run_assign rfl) rfl ?_
  refine Ls_nil ?_
  refine Jm_seq ?_
  refine St_seq ?_
  refine St_region ?_
  refine Ls_run (run_move rfl) rfl ?_
  refine Ls_run (run_len Try.underlying51 rfl) rfl ?_
  refine Ls_run (run_assign rfl) rfl ?_
  refine Ls_nil ?_
  refine Jm_seq ?_
  refine St_seq ?_
  refine St_seq ?_
  refine St_region ?_
  refine Ls_run (run_assign rfl) rfl ?_
  refine Ls_nil ?_
  refine Jm_seq ?_
  refine St_block ?_
  obtain ⟨En1, hEn1⟩ : ∃ F : Nat × Nat → Env, ∀ (i : Nat) (k : Nat), F (i, k) = [(0, .slice A n c), (3, .int .i64 (k : Int)), (4, .int .i64 (i : Int))] := ⟨(fun (sx0 : Nat × Nat) => match sx0 with | (i, k) => [(0, .slice A n c), (3, .int .i64 (k : Int)), (4, .int .i64 (i : Int))]), fun _ _ => rfl⟩
  obtain ⟨Iv2, hIv2⟩ : ∃ F : Nat × Nat → World → Prop, ∀ (i : Nat) (k : Nat) (wr : World), F (i, k) wr = (w = wr ∧ i ≤ n ∧ k ≤ 149533581373441) := ⟨(fun (sx0 : Nat × Nat) => match sx0 with | (i, k) => fun (wr : World) => w = wr ∧ i ≤ n ∧ k ≤ 149533581373441), fun _ _ _ => rfl⟩
  obtain ⟨ms3, hms3⟩ : ∃ F : Nat × Nat → Nat, ∀ (i : Nat) (k : Nat), F (i, k) = (n - i) := ⟨(fun (sx0 : Nat × Nat) => match sx0 with | (i, k) => n - i), fun _ _ => rfl⟩
  refine St_loop En1 Iv2 ms3 (0, n) ?_ ?_ ?_
  · skip
    rw [hIv2]
    exact ⟨rfl, by omega, by omega⟩
  · rw [hEn1]; exact (subE_cons rfl (subE_cons rfl (subE_cons rfl subE_nil)))
  rintro ⟨i, k⟩ wr hI4
  rw [hIv2] at hI4
  obtain ⟨rfl, hi, hk⟩ := hI4
  refine St_eqE (hEn1 _ _) ?_
  refine St_seq ?_
  refine St_seq ?_
  refine St_region ?_
  refine Ls_run (run_move rfl) rfl ?_
  refine Ls_run (run_move rfl) rfl ?_
  refine Ls_run (run_len Try.underlying51 rfl) rfl ?_
  refine Ls_run (run_lss rfl rfl) rfl ?_
  refine Ls_run (run_move rfl) rfl ?_
  refine Ls_partP (t := 11) rfl (fun h5 => ?_) (fun h5 => ?_)
  · skip
    refine Ls_on rfl rfl ?_
    refine Ls_run (run_move rfl) rfl ?_
    refine Ls_on rfl rfl ?_
    refine Ls_run (run_leq rfl rfl) rfl ?_
    refine Ls_run (run_pick_t rfl rfl) rfl ?_
    refine Ls_nil ?_
    refine Jm_seq ?_
    refine St_ifP rfl (fun h6 => ?_) (fun h6 => ?_)
    · skip
      refine St_skip ?_
      refine Jm_seq ?_
      refine St_seq ?_
      refine St_block ?_
      refine St_region ?_
      refine Ls_run (run_move rfl) rfl ?_
      refine Ls_run (run_move rfl) rfl ?_
      refine Ls_run (run_move rfl) rfl ?_
      obtain ⟨⟨pg, Aw, nw, cw⟩, ho⟩ : ∃ o, vs.getD i (0, none, 0, 0) = o := ⟨_, rfl⟩
      obtain ⟨⟨q, x⟩, hq⟩ : ∃ o, ws.getD i (0, []) = o := ⟨_, rfl⟩
      obtain ⟨hpg, hrw⟩ := hw.at_ i (by omega)
      rw [ho, hq] at hpg
      rw [ho, hq] at hrw
      simp only at hpg hrw
      subst hpg
      have hxl := rdB_len hrw
      have hwq := hok _ (wmem (ws := ws) (i := i) (by omega))
      rw [hq] at hwq
      simp only at hwq
      refine Ls_index (KW) hw.rd Try.underlying51 inf45 rfl rfl (by omega) (by omega) ho rfl ?_
      intro b7 o8 hc9
      refine Ls_run (run_field Try.underlying45 rfl inf28 (by decide) rfl) rfl ?_
      refine Ls_run (run_as (run_load sc28 rfl (hc9 1 _ rfl)) (show _ = Value.slice Aw nw cw from rfl)) rfl ?_
      refine Ls_run (run_len Try.underlying28 rfl) rfl ?_
      refine Ls_run (run_add rfl rfl (w64 (by omega))) rfl ?_
      refine Ls_run (run_assign rfl) rfl ?_
      refine Ls_nil ?_
      refine Jm_block_normal (Jm_seq ?_)
      refine St_region ?_
      refine Ls_run (run_move rfl) rfl ?_
      refine Ls_run (run_add rfl rfl (w64 (by omega))) rfl ?_
      refine Ls_run (run_assign rfl) rfl ?_
      refine Ls_nil ?_
      refine Jm_round (i + 1, (k + nw)) ?_ ?_ ?_
      · rw [hEn1]; exact (subE_cons rfl (subE_cons rfl (subE_cons rfl subE_nil)))
      · skip
        rw [hIv2]
        exact ⟨rfl, by omega, by omega⟩
      · skip
        rw [hms3, hms3]
        omega
    · skip
      refine St_exit ?_
      refine Jm_then_exit (Jm_then_exit (Jm_block_same (Jm_seq ?_)))
      refine St_seq ?_
      refine St_region ?_
      refine Ls_run (run_move rfl) rfl ?_
      refine Ls_run (run_assign rfl) rfl ?_
      refine Ls_nil ?_
      refine Jm_seq ?_
      refine St_ret ?_
      refine Jm_ret1 rfl rfl ?_
      exact ⟨_, rfl, rfl, k, rfl, hk⟩
  · skip
    refine Ls_off rfl rfl rfl rfl ?_
    refine Ls_off rfl rfl rfl rfl ?_
    refine Ls_run (run_pick_f rfl rfl) rfl ?_
    refine Ls_nil ?_
    refine Jm_seq ?_
    refine St_iff rfl ?_
    refine St_exit ?_
    refine Jm_then_exit (Jm_then_exit (Jm_block_same (Jm_seq ?_)))
    refine St_seq ?_
    refine St_region ?_
    refine Ls_run (run_move rfl) rfl ?_
    refine Ls_run (run_assign rfl) rfl ?_
    refine Ls_nil ?_
    refine Jm_seq ?_
    refine St_ret ?_
    refine Jm_ret1 rfl rfl ?_
    exact ⟨_, rfl, rfl, k, rfl, hk⟩
set_option maxRecDepth 100000 in
set_option maxHeartbeats 1000000 in
theorem awake9_c (w : World) :
    Calls Try.prog 23 [].toArray w (Ret (fun v' w' => v' = .bool true ∧ Sat w w' [])) := by
  have hs := Sat.start w
  have hbyl : ∀ r ∈ ([[3, 2, 4, 3], [2, 2, 2, 3], [120], [121], [122], []] : List (List Int)), IsBytes r := by simp [IsBytes]
  refine Calls_body Try.func23 rfl rfl rfl envE_nil ?_
  refine St_seq ?_
  refine St_region ?_
  refine Ls_run (run_assign rfl) rfl ?_
  refine Ls_nil ?_
  refine Jm_seq ?_
  refine St_seq ?_
  refine St_region ?_
  refine Ls_call Try.func38 nm38 rfl rfl (New_c w 6 (by decide) (by decide)) rfl ?_
  rintro v1 w2 ⟨b0, rfl, hsD⟩
  replace hs := hs.trans hsD
  simp only [List.cons_append, List.nil_append] at hs
  refine Ls_run (run_move rfl) rfl ?_
  refine Ls_run (run_extract rfl rfl) rfl ?_
  refine Ls_run (run_extract rfl rfl) rfl ?_
  refine Ls_run (run_assign rfl) rfl ?_
  refine Ls_run (run_assign rfl) rfl ?_
  refine Ls_nil ?_
  refine Jm_seq ?_
  refine St_seq ?_
  refine St_region ?_
  refine Ls_run (run_move rfl) rfl ?_
  refine Ls_call Try.func37 nm37 rfl rfl (BFormat_g w w2 _ b0 (dnew 6) hs ⟨by simp [dnew, IsBytes], by simp [dnew]⟩ 2 (by decide) (by decide)) rfl ?_
  rintro v3 w4 ⟨pj, rfl, hs⟩
  simp only [show bformat dO (dnew 6) ((2 : Nat) : Int) = (0, some (bnew 2), dA0) from aw0] at hs ⊢
  obtain ⟨bj, hpj, h9⟩ := hs.boSome
  subst hpj
  replace hs := h9
  refine Ls_run (run_move rfl) rfl ?_
  refine Ls_run (run_extract rfl rfl) rfl ?_
  refine Ls_run (run_extract rfl rfl) rfl ?_
  refine Ls_run (run_assign rfl) rfl ?_
  refine Ls_run (run_assign rfl) rfl ?_
  refine Ls_nil ?_
  refine Jm_seq ?_
  refine St_seq ?_
  refine St_seq ?_
  refine St_region ?_
  refine Ls_run (run_move rfl) rfl ?_
  refine Ls_run (run_asB (c := false) (run_eql_ptr_nil Try.underlying46 rfl rfl) rfl) rfl ?_
  refine Ls_run (run_move rfl) rfl ?_
  refine Ls_on rfl rfl ?_
  refine Ls_run (run_move rfl) rfl ?_
  refine Ls_on rfl rfl ?_
  refine Ls_run (run_asB (c := false) (run_eql_ptr_nil Try.underlying47 rfl rfl) rfl) rfl ?_
  refine Ls_run (run_pick_f rfl rfl) rfl ?_
  refine Ls_run (run_move rfl) rfl ?_
  refine Ls_on rfl rfl ?_
  refine Ls_run (run_move rfl) rfl ?_
  refine Ls_on rfl rfl ?_
  refine Ls_run (run_asB (c := false) (run_neq rfl rfl) (by decide)) rfl ?_
  refine Ls_run (run_pick_f rfl rfl) rfl ?_
  refine Ls_nil ?_
  refine Jm_seq ?_
  refine St_iff rfl ?_
  refine St_skip ?_
  refine Jm_seq ?_
  refine St_seq ?_
  refine St_region ?_
  refine Ls_run (run_move rfl) rfl ?_
  refine Ls_literal [_] hs Try.underlying28 inf5 rfl rfl rfl rfl rfl rfl ?_
  intro b6 w7 hs
  simp only [List.flatMap_cons, List.flatMap_nil, Value.cells, List.cons_append, List.nil_append] at hs
  refine Ls_stringish hs Try.underlying28 Try.underlying5 rfl rfl ?_
  intro w9 hs
  refine Ls_run (run_buildO (pv := [(0, _), (1, _)]) rfl (bld45_0_1 _ _ _ _)) rfl ?_
  refine Ls_literal [_] hs Try.underlying28 inf5 rfl rfl rfl rfl rfl rfl ?_
  intro b10 w11 hs
  simp only [List.flatMap_cons, List.flatMap_nil, Value.cells, List.cons_append, List.nil_append] at hs
  refine Ls_stringish hs Try.underlying28 Try.underlying5 rfl rfl ?_
  intro w12 hs
  refine Ls_run (run_buildO (pv := [(0, _), (1, _)]) rfl (bld45_0_1 _ _ _ _)) rfl ?_
  refine Ls_literal [_, _] hs Try.underlying51 inf45 rfl rfl rfl rfl rfl rfl ?_
  intro b13 w14 hs
  simp only [List.flatMap_cons, List.flatMap_nil, Value.cells, List.cons_append, List.nil_append] at hs
  replace hs := hs.front 4 rfl
  simp only [List.cons_append, List.nil_append, List.eraseIdx_cons_zero, List.eraseIdx_cons_succ] at hs
  replace hs := hs.front 4 rfl
  simp only [List.cons_append, List.nil_append, List.eraseIdx_cons_zero, List.eraseIdx_cons_succ] at hs
  refine Ls_call Try.func26 nm26 rfl rfl (BPut_g w w14 _ bj b0 (bnew 2) dA0 hs ok0 iv0 _ 2 2 _ [(0, [120]), (1, [121])] (fun w' X q => PWs.mk2 (rd_block (q.is_at 1 rfl).2 2 2 rfl) (by have h8 := (rd_block (q.is_at 3 rfl).2 1 1 rfl : Rd w' _ _ _ 1 (bytesV [120])); exact h8) (by have h8 := (rd_block (q.is_at 2 rfl).2 1 1 rfl : Rd w' _ _ _ 1 (bytesV [121])); exact h8)) (by simp [PWok, IsBytes]) (by decide)) rfl ?_
  rintro v15 w16 ⟨rfl, hs⟩
  simp only [aw1] at hs ⊢
  refine Ls_run (run_assign rfl) rfl ?_
  refine Ls_nil ?_
  refine Jm_seq ?_
  refine St_seq ?_
  refine St_region ?_
  refine Ls_run (run_move rfl) rfl ?_
  refine Ls_literal [_] hs Try.underlying28 inf5 rfl rfl rfl rfl rfl rfl ?_
  intro b17 w18 hs
  simp only [List.flatMap_cons, List.flatMap_nil, Value.cells, List.cons_append, List.nil_append] at hs
  refine Ls_stringish hs Try.underlying28 Try.underlying5 rfl rfl ?_
  intro w19 hs
  refine Ls_run (run_buildO (pv := [(0, _), (1, _)]) rfl (bld45_0_1 _ _ _ _)) rfl ?_
  refine Ls_literal [_] hs Try.underlying51 inf45 rfl rfl rfl rfl rfl rfl ?_
  intro b20 w21 hs
  simp only [List.flatMap_cons, List.flatMap_nil, Value.cells, List.cons_append, List.nil_append] at hs
  replace hs := hs.front 3 rfl
  simp only [List.cons_append, List.nil_append, List.eraseIdx_cons_zero, List.eraseIdx_cons_succ] at hs
  replace hs := hs.front 3 rfl
  simp only [List.cons_append, List.nil_append, List.eraseIdx_cons_zero, List.eraseIdx_cons_succ] at hs
  refine Ls_call Try.func26 nm26 rfl rfl (BPut_g w w21 _ bj b0 sA1 dA1 hs ok1 iv1 _ 1 1 _ [(0, [122])] (fun w' X q => PWs.mk1 (rd_block (q.is_at 1 rfl).2 2 1 rfl) (by have h8 := (rd_block (q.is_at 2 rfl).2 1 1 rfl : Rd w' _ _ _ 1 (bytesV [122])); exact h8)) (by simp [PWok, IsBytes]) (by decide)) rfl ?_
  rintro v22 w23 ⟨rfl, hs⟩
  simp only [aw2] at hs ⊢
  refine Ls_run (run_assign rfl) rfl ?_
  refine Ls_nil ?_
  refine Jm_seq ?_
  refine St_seq ?_
  refine St_region ?_
  refine Ls_run (run_move rfl) rfl ?_
  replace hs := hs.front 1 rfl
  simp only [List.cons_append, List.nil_append, List.eraseIdx_cons_zero, List.eraseIdx_cons_succ] at hs
  replace hs := hs.front 1 rfl
  simp only [List.cons_append, List.nil_append, List.eraseIdx_cons_zero, List.eraseIdx_cons_succ] at hs
  refine Ls_call Try.func31 nm31 rfl rfl (BGet_g w w23 _ bj b0 sA2 dA2 hs ok2 (by decide) 0) rfl ?_
  rintro v24 w25 ⟨Ag, cg, rfl, hs⟩
  simp only [aw3] at hs ⊢
  refine Ls_run (run_move rfl) rfl ?_
  refine Ls_run (run_extract rfl rfl) rfl ?_
  refine Ls_run (run_extract rfl rfl) rfl ?_
  refine Ls_run (run_assign rfl) rfl ?_
  refine Ls_run (run_assign rfl) rfl ?_
  refine Ls_nil ?_
  refine Jm_seq ?_
  refine St_seq ?_
  refine St_region ?_
  refine Ls_run (run_move rfl) rfl ?_
  refine Ls_run (run_asB (c := true) (run_eql rfl rfl) (by decide)) rfl ?_
  refine Ls_run (run_move rfl) rfl ?_
  refine Ls_on rfl rfl ?_
  refine Ls_run (run_move rfl) rfl ?_
  refine Ls_on rfl rfl ?_
  refine Ls_run (run_asB (c := true) (run_eql rfl rfl) (by decide)) rfl ?_
  refine Ls_run (run_pick_t rfl rfl) rfl ?_
  refine Ls_run (run_move rfl) rfl ?_
  refine Ls_on rfl rfl ?_
  refine Ls_run (run_move rfl) rfl ?_
  refine Ls_on rfl rfl ?_
  refine Ls_run (run_string Try.underlying28 Try.underlying5 Try.underlying9 rfl (hs.rd_at 2 rfl)) rfl ?_
  refine Ls_on rfl rfl ?_
  refine Ls_run (run_asB (c := true) (run_eql_str rfl rfl) (beq_self_eq_true (strOfNums [122]).toList)) rfl ?_
  refine Ls_run (run_pick_t rfl rfl) rfl ?_
  refine Ls_run (run_move rfl) rfl ?_
  refine Ls_on rfl rfl ?_
  refine Ls_run (run_move rfl) rfl ?_
  refine Ls_on rfl rfl ?_
  refine Ls_run (run_asB (c := true) (run_eql rfl rfl) (by decide)) rfl ?_
  refine Ls_run (run_pick_t rfl rfl) rfl ?_
  refine Ls_run (run_move rfl) rfl ?_
  refine Ls_on rfl rfl ?_
  refine Ls_run (run_move rfl) rfl ?_
  refine Ls_on rfl rfl ?_
  obtain ⟨A6, c6, hq6⟩ := hs.bopen
  have hq6t := hq6.rd_at 1 rfl
  refine Ls_call Try.func49 nm49 rfl rfl (bUsed_c w25 bj _ sA2 A6 c6 (hq6.is_at 0 rfl).2 hq6t (by decide)) rfl ?_
  rintro v26 w27 ⟨rfl, rfl⟩
  refine Ls_on rfl rfl ?_
  refine Ls_run (run_asB (c := true) (run_eql rfl rfl) (by decide)) rfl ?_
  refine Ls_run (run_pick_t rfl rfl) rfl ?_
  refine Ls_run (run_move rfl) rfl ?_
  refine Ls_on rfl rfl ?_
  refine Ls_run (run_move rfl) rfl ?_
  refine Ls_on rfl rfl ?_
  obtain ⟨A6, c6, hq6⟩ := hs.bopen
  refine Ls_call Try.func51 nm51 rfl rfl (bPages_c w25 bj _ sA2 A6 c6 (hq6.is_at 0 rfl).2) rfl ?_
  rintro v28 w29 ⟨rfl, rfl⟩
  refine Ls_on rfl rfl ?_
  refine Ls_run (run_asB (c := true) (run_eql rfl rfl) (by decide)) rfl ?_
  refine Ls_run (run_pick_t rfl rfl) rfl ?_
  refine Ls_run (run_move rfl) rfl ?_
  refine Ls_on rfl rfl ?_
  refine Ls_run (run_move rfl) rfl ?_
  refine Ls_on rfl rfl ?_
  obtain ⟨A6, c6, hq6⟩ := hs.bopen
  refine Ls_call Try.func33 nm33 rfl rfl (bEnded_c w25 bj _ sA2 A6 c6 (hq6.is_at 0 rfl).2) rfl ?_
  rintro v30 w31 ⟨rfl, rfl⟩
  refine Ls_on rfl rfl ?_
  refine Ls_run (run_not rfl) rfl ?_
  refine Ls_run (run_pick_t rfl rfl) rfl ?_
  refine Ls_run (run_move rfl) rfl ?_
  refine Ls_on rfl rfl ?_
  refine Ls_run (run_move rfl) rfl ?_
  refine Ls_on rfl rfl ?_
  replace hs := hs.front 1 rfl
  simp only [List.cons_append, List.nil_append, List.eraseIdx_cons_zero, List.eraseIdx_cons_succ] at hs
  refine Ls_call Try.func28 nm28 rfl rfl (Image_c w w25 _ b0 dA3 hs okx.len okx.2) rfl ?_
  rintro v32 w33 ⟨Ai, ci, vi, rfl, hvi, hs⟩
  replace hs := Sat.toKeep (F := fun w => Rd w Ai dA3.bl.length ci 1 (El.val.flat vi) ∧ PartsK (El.int .u8) w vi dA3.bl) (fun B w q => ⟨q.rd_at 0 rfl, Sat.parts (pre := [_]) q hvi⟩) hs
  have hbl2e : dA3.bl = [[3, 2, 4, 3], [2, 2, 2, 3], [120], [121], [122], []] := rfl
  rw [hbl2e] at hs ⊢
  refine Ls_on rfl rfl ?_
  refine Ls_literal [_, _, _, _] hs Try.underlying28 inf5 rfl rfl rfl rfl rfl rfl ?_
  intro b34 w35 hs
  simp only [List.flatMap_cons, List.flatMap_nil, Value.cells, List.cons_append, List.nil_append] at hs
  refine Ls_on rfl rfl ?_
  refine Ls_stringish hs Try.underlying28 Try.underlying5 rfl rfl ?_
  intro w36 hs
  refine Ls_on rfl rfl ?_
  refine Ls_literal [_, _, _, _] hs Try.underlying28 inf5 rfl rfl rfl rfl rfl rfl ?_
  intro b37 w38 hs
  simp only [List.flatMap_cons, List.flatMap_nil, Value.cells, List.cons_append, List.nil_append] at hs
  refine Ls_on rfl rfl ?_
  refine Ls_stringish hs Try.underlying28 Try.underlying5 rfl rfl ?_
  intro w39 hs
  refine Ls_on rfl rfl ?_
  refine Ls_literal [_] hs Try.underlying28 inf5 rfl rfl rfl rfl rfl rfl ?_
  intro b40 w41 hs
  simp only [List.flatMap_cons, List.flatMap_nil, Value.cells, List.cons_append, List.nil_append] at hs
  refine Ls_on rfl rfl ?_
  refine Ls_stringish hs Try.underlying28 Try.underlying5 rfl rfl ?_
  intro w42 hs
  refine Ls_on rfl rfl ?_
  refine Ls_literal [_] hs Try.underlying28 inf5 rfl rfl rfl rfl rfl rfl ?_
  intro b43 w44 hs
  simp only [List.flatMap_cons, List.flatMap_nil, Value.cells, List.cons_append, List.nil_append] at hs
  refine Ls_on rfl rfl ?_
  refine Ls_stringish hs Try.underlying28 Try.underlying5 rfl rfl ?_
  intro w45 hs
  refine Ls_on rfl rfl ?_
  refine Ls_literal [_] hs Try.underlying28 inf5 rfl rfl rfl rfl rfl rfl ?_
  intro b46 w47 hs
  simp only [List.flatMap_cons, List.flatMap_nil, Value.cells, List.cons_append, List.nil_append] at hs
  refine Ls_on rfl rfl ?_
  refine Ls_stringish hs Try.underlying28 Try.underlying5 rfl rfl ?_
  intro w48 hs
  refine Ls_on rfl rfl ?_
  refine Ls_literal [_, _, _, _, _, _] hs Try.underlying55 inf28 rfl rfl rfl rfl rfl rfl ?_
  intro b49 w50 hs
  simp only [List.flatMap_cons, List.flatMap_nil, Value.cells, List.cons_append, List.nil_append] at hs
  refine Ls_on rfl rfl ?_
  have hrL := (rd_block (hs.is_at 0 rfl).2 1 6 rfl)
  rw [← El.val_flat [_, _, _, _, _, _]] at hrL
  refine Ls_call Try.func29 nm29 rfl rfl (images9_c w50 _ _ _ vi [[3, 2, 4, 3], [2, 2, 2, 3], [120], [121], [122], []] _ _ _ _ [[3, 2, 4, 3], [2, 2, 2, 3], [120], [121], [122], []] (hs.kept 6 rfl).1 hrL (hs.kept 6 rfl).2 (PartsK.cons (by rw [← bytesV_flat]; exact (rd_block (hs.is_at 5 rfl).2 1 4 rfl : Rd _ _ 4 4 1 (bytesV [3, 2, 4, 3]))) (PartsK.cons (by rw [← bytesV_flat]; exact (rd_block (hs.is_at 4 rfl).2 1 4 rfl : Rd _ _ 4 4 1 (bytesV [2, 2, 2, 3]))) (PartsK.cons (by rw [← bytesV_flat]; exact (rd_block (hs.is_at 3 rfl).2 1 1 rfl : Rd _ _ 1 1 1 (bytesV [120]))) (PartsK.cons (by rw [← bytesV_flat]; exact (rd_block (hs.is_at 2 rfl).2 1 1 rfl : Rd _ _ 1 1 1 (bytesV [121]))) (PartsK.cons (by rw [← bytesV_flat]; exact (rd_block (hs.is_at 1 rfl).2 1 1 rfl : Rd _ _ 1 1 1 (bytesV [122]))) (PartsK.cons (Rd.none _ 1) (PartsK.nil _ _))))))) hbyl hbyl (by decide)) rfl ?_
  rintro v51 w52 ⟨rfl, hsI⟩
  replace hs := hs.trans hsI
  rw [decide_eq_true rfl]
  refine Ls_run (run_pick_t rfl rfl) rfl ?_
  refine Ls_run (run_assign rfl) rfl ?_
  refine Ls_nil ?_
  refine Jm_seq ?_
  refine St_ret ?_
  refine Jm_ret1 rfl rfl ?_
  exact ⟨_, rfl, rfl, hs.forget⟩
end Go.Proofs.Ytipkfdeiallifaa.Lg
