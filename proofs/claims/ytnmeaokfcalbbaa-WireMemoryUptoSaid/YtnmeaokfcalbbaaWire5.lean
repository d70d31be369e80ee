/-
  The laws WireNumbers, WireRuns, WireNums and WireTakes, walked. By program (gen/wire5.py).
-/
import Derived.Test.YtnmeaokfcalbbaaWire4
import Derived.Test.YtnmeaokfcalbbaaWireP2
set_option linter.unusedVariables false
set_option linter.unusedSimpArgs false
namespace Go.Proofs.Ytnmeaokfcalbbaa.Lg
open Go Go.RowKit Go.Proofs.Ytnmeaokfcalbbaa.WirePure
theorem Sat.only {B w : World} {a : Assn} {L : List Assn} (hs : Sat B w (a :: L)) : Sat B w [a] := by
  obtain ⟨hb, h, ⟨h1, h2, hA, hL, hd, he⟩, hw⟩ := hs
  refine ⟨hb, h1, ⟨h1, fun _ => none, hA, fun _ => rfl, fun _ => .inr rfl, fun b => by simp⟩, fun b o hbo => hw b o ?_⟩
  rw [he b, hbo]; rfl
theorem Parts.inB {B w : World} {vs : List Value} {ls : List (List Int)} {L : List Assn} (h : Parts B vs ls) (hs : Sat B w L) : Parts w vs ls := h.grow hs.below
theorem TakeWord_f (w : World) (A : Option Addr) (n c : Nat) (l : List Int) (hr : Rd w A n c 1 (bytesV l)) (hb : IsBytes l) (hn : n ≤ 9223372036854775807) :
    Calls Try.prog 37 [.slice A n c].toArray w (Ret (fun v' w' => w = w' ∧ v' = .tuple #[.int .u64 (tkw n l).1, .int .i64 (tkw n l).2])) :=
  (TakeWord_c w A n c l hr hb hn).mono fun e w' ⟨v, he, h1, h2⟩ => ⟨v, he, h1, by
    unfold tkw
    rcases h2 with ⟨h, rfl⟩ | ⟨h, rfl⟩
    · rw [if_pos h]
    · rw [if_neg (by omega)]⟩
theorem rTakeWord_f (w : World) (A : Option Addr) (n c : Nat) (l : List Int) (hr : Rd w A n c 1 (bytesV l)) (hb : IsBytes l) (hn : n ≤ 9223372036854775807) :
    Calls Try.prog 49 [.slice A n c].toArray w (Ret (fun v' w' => w = w' ∧ v' = .tuple #[.int .u64 (tkw n l).1, .int .i64 (tkw n l).2])) :=
  (rTakeWord_c w A n c l hr hb hn).mono fun e w' ⟨v, he, h1, h2⟩ => ⟨v, he, h1, by
    unfold tkw
    rcases h2 with ⟨h, rfl⟩ | ⟨h, rfl⟩
    · rw [if_pos h]
    · rw [if_neg (by omega)]⟩
theorem Nums_f (w : World) (A : Option Addr) (n c : Nat) (l : List Int) (hr : Rd w A n c 1 ((El.int .i64).flat l)) (hn : n * 10 + 20 ≤ 140737488355328) (hw : ∀ x ∈ l, x ≤ 9223372036854775807) :
    Calls Try.prog 42 [.slice A n c].toArray w (Ret (fun v' w' => ∃ A' c', v' = .tuple #[.slice A' (numsR l).1.length c', .int .i64 (numsR l).2] ∧ Sat w w' [Own 5 1 (.slice A' (numsR l).1.length c') (numsR l).1.length (bytesV (numsR l).1)])) :=
  (Nums_c w A n c l hr hn hw).mono fun e w' ⟨v, he, h2⟩ => ⟨v, he, by
    unfold numsR
    rcases h2 with ⟨h, rfl, hs⟩ | ⟨h, A', c', rfl, hs⟩
    · simp only [if_pos h]; exact ⟨none, 0, rfl, hs.own_nil _ _⟩
    · simp only [if_neg h]; exact ⟨A', c', rfl, hs⟩⟩
theorem rNums_f (w : World) (A : Option Addr) (n c : Nat) (l : List Int) (hr : Rd w A n c 1 ((El.int .i64).flat l)) (hn : n * 10 + 20 ≤ 140737488355328) (hw : ∀ x ∈ l, x ≤ 9223372036854775807) :
    Calls Try.prog 44 [.slice A n c].toArray w (Ret (fun v' w' => ∃ A' c', v' = .tuple #[.slice A' (numsR l).1.length c', .int .i64 (numsR l).2] ∧ Sat w w' [Own 5 1 (.slice A' (numsR l).1.length c') (numsR l).1.length (bytesV (numsR l).1)])) :=
  (rNums_c w A n c l hr hn hw).mono fun e w' ⟨v, he, h2⟩ => ⟨v, he, by
    unfold numsR
    rcases h2 with ⟨h, rfl, hs⟩ | ⟨h, A', c', rfl, hs⟩
    · simp only [if_pos h]; exact ⟨none, 0, rfl, hs.own_nil _ _⟩
    · simp only [if_neg h]; exact ⟨A', c', rfl, hs⟩⟩
theorem ints_same (w : World) (A : Option Addr) (n c : Nat) (l : List Int) (A2 : Option Addr) (n2 c2 : Nat) (l2 : List Int) (hE : l = l2) (hr : Rd w A n c 1 ((El.int .i64).flat l)) (hr2 : Rd w A2 n2 c2 1 ((El.int .i64).flat l2)) (hn : n ≤ 9223372036854775807) :
    Calls Try.prog 43 [.slice A n c, .slice A2 n2 c2].toArray w (Ret (fun v' w' => v' = .bool true ∧ Sat w w' [])) :=
  (ints_c w A n c l A2 n2 c2 l2 hr hr2 hn).mono fun e w' ⟨v, he, h1, h2⟩ => ⟨v, he, by rw [h1, decide_eq_true hE], h2⟩
theorem IsBytes.two {a b : List Int} (ha : IsBytes a) (hb : IsBytes b) : IsBytes [a, b].flatten := by
  intro q hq
  simp only [List.flatten_cons, List.flatten_nil, List.append_nil, List.mem_append] at hq
  exact hq.elim (ha q) (hb q)
theorem tk_two {x : Nat} (hx : x < 18446744073709551616) (l : List Int) : tk 0 0 [pb x, l].flatten = ((x : Int), ((pb x).length : Int), 0) := by
  have := tk_pb x 0 0 (l ++ []) hx (by omega)
  simpa using this
theorem tw_two {x : Nat} (hx : x < 18446744073709551616) (l : List Int) : tw (([wd 8 x, l].flatten).take 8) = x := by
  have h : ([wd 8 x, l].flatten).take 8 = wd 8 x := by
    simp only [List.flatten_cons, List.flatten_nil, List.append_nil]
    rw [List.take_append_of_le_length (by simp [wd_len]), List.take_of_length_le (by simp [wd_len])]
  rw [h]; exact tw_wd 8 x hx
set_option maxRecDepth 100000 in
set_option maxHeartbeats 4000000 in
theorem WireNumbers_c (w : World) (x : Nat) (A : Option Addr) (n c : Nat) (l : List Int) (hx : x < 18446744073709551616) (hr : Rd w A n c 1 (bytesV l)) (hb : IsBytes l) (hn : n ≤ 140737488351232) :
    Calls Try.prog 10 [.int .u64 (x : Int), .slice A n c].toArray w (Ret (fun v' w' => v' = .bool true ∧ Below w.heap.size w w')) := by
  have hs := Sat.start w
  have h10 := pb_len10 hx
  have hl : l.length = n := rdB_len hr
  refine Calls_body Try.func10 rfl rfl rfl (envE_cons (i := 0) (v := .int .u64 (x : Int)) rfl (envE_cons (i := 1) (v := .slice A n c) rfl envE_nil)) ?_
  refine St_seq ?_
  refine St_region ?_
  refine Ls_run (run_assign rfl) rfl ?_
  refine Ls_nil ?_
  refine Jm_seq ?_
  refine St_seq ?_
  refine St_seq ?_
  refine St_region ?_
  refine Ls_call Try.func15 nm15 rfl rfl (awake_c w) rfl ?_
  rintro v1 w2 ⟨rfl, hsA⟩
  replace hs := hs.trans hsA
  refine Ls_run (run_not rfl) rfl ?_
  refine Ls_nil ?_
  refine Jm_seq ?_
  refine St_iff rfl ?_
  refine St_skip ?_
  refine Jm_seq ?_
  refine St_seq ?_
  refine St_region ?_
  refine Ls_run (run_move rfl) rfl ?_
  refine Ls_call Try.func16 nm16 rfl rfl (Put_c w2 x hx) rfl ?_
  rintro v4 w5 ⟨Ap, cp, rfl, hsp⟩
  replace hs := hs.trans hsp
  refine Ls_run (run_assign rfl) rfl ?_
  refine Ls_nil ?_
  refine Jm_seq ?_
  refine St_seq ?_
  refine St_region ?_
  refine Ls_run (run_move rfl) rfl ?_
  refine Ls_call Try.func33 nm33 rfl rfl (Word_c w5 x hx) rfl ?_
  rintro v6 w7 ⟨Ad, cd, rfl, hsd⟩
  replace hs := hs.trans hsd
  refine Ls_run (run_assign rfl) rfl ?_
  refine Ls_nil ?_
  refine Jm_seq ?_
  refine St_seq ?_
  refine St_seq ?_
  refine St_draw (fun x => Below w7.heap.size w7 x) mixed ?_
  intro w8 q9
  have hH := q9.below
  replace hs := hs.quiet q9
  refine An_grow hH ?_
  replace hH := Below.refl w8.heap.size w8
  refine An_take 0 rfl (by kernel_rfl) (by kernel_rfl) (by kernel_rfl) (fun _ _ _ h => h) hH (fun x hx => run_move rfl) rfl ?_
  refine An_take 1 rfl (by kernel_rfl) (by kernel_rfl) (by kernel_rfl) (fun _ _ _ h => h) hH (fun x hx => run_string Try.underlying22 Try.underlying5 Try.underlying9 rfl ((hs.rd_at 1 rfl).grow hx)) rfl ?_
  refine An_take 2 rfl (by kernel_rfl) (by kernel_rfl) (by kernel_rfl) (fun _ _ _ h => h) hH (fun x hx => run_move rfl) rfl ?_
  refine An_only 3 (by kernel_rfl) rfl ?_
  refine Ls_call Try.func34 nm34 rfl rfl (rPut_c w8 x hx) rfl ?_
  rintro v10 w11 ⟨Arp, crp, rfl, hsrp⟩
  replace hs := hs.trans hsrp
  replace hH := (hsrp.below : Below w8.heap.size w8 w11)
  refine Ls_nil (Jm_An hH ?_)
  refine An_grow hH ?_
  replace hH := Below.refl w11.heap.size w11
  refine An_take 4 rfl (by kernel_rfl) (by kernel_rfl) (by kernel_rfl) (fun _ _ _ h => h) hH (fun x hx => run_string Try.underlying22 Try.underlying5 Try.underlying9 rfl ((hs.rd_at 0 rfl).grow hx)) rfl ?_
  refine An_take 5 rfl (by kernel_rfl) (by kernel_rfl) (by kernel_rfl) (fun _ _ _ h => h) hH (fun x hx => run_asB (c := false) (run_neq_str rfl rfl) (by simp)) rfl ?_
  refine An_take 6 rfl (by kernel_rfl) (by kernel_rfl) (by kernel_rfl) (fun _ _ _ h => h) hH (fun x hx => run_move rfl) rfl ?_
  refine An_take_on 7 rfl (by kernel_rfl) (by kernel_rfl) (by kernel_rfl) rfl rfl (fun _ _ _ h => h) hH (fun x hx => run_move rfl) rfl ?_
  refine An_take_on 8 rfl (by kernel_rfl) (by kernel_rfl) (by kernel_rfl) rfl rfl (fun _ _ _ h => h) hH (fun x hx => run_string Try.underlying22 Try.underlying5 Try.underlying9 rfl ((hs.rd_at 1 rfl).grow hx)) rfl ?_
  refine An_take_on 9 rfl (by kernel_rfl) (by kernel_rfl) (by kernel_rfl) rfl rfl (fun _ _ _ h => h) hH (fun x hx => run_move rfl) rfl ?_
  refine An_only 10 (by kernel_rfl) rfl ?_
  refine Ls_on rfl rfl ?_
  refine Ls_call Try.func35 nm35 rfl rfl (rWord_c w11 x hx) rfl ?_
  rintro v12 w13 ⟨Ard, crd, rfl, hsrd⟩
  replace hs := hs.trans hsrd
  replace hH := (hsrd.below : Below w11.heap.size w11 w13)
  refine Ls_nil (Jm_An hH ?_)
  refine An_grow hH ?_
  replace hH := Below.refl w13.heap.size w13
  refine An_take_on 11 rfl (by kernel_rfl) (by kernel_rfl) (by kernel_rfl) rfl rfl (fun _ _ _ h => h) hH (fun x hx => run_string Try.underlying22 Try.underlying5 Try.underlying9 rfl ((hs.rd_at 0 rfl).grow hx)) rfl ?_
  refine An_take_on 12 rfl (by kernel_rfl) (by kernel_rfl) (by kernel_rfl) rfl rfl (fun _ _ _ h => h) hH (fun x hx => run_asB (c := false) (run_neq_str rfl rfl) (by simp)) rfl ?_
  refine An_take 13 rfl (by kernel_rfl) (by kernel_rfl) (by kernel_rfl) (fun _ _ _ h => h) hH (fun x hx => run_pick_f rfl rfl) rfl ?_
  refine An_done (by kernel_rfl) ?_
  refine Jm_seq ?_
  refine St_iff rfl ?_
  refine St_skip ?_
  refine Jm_seq ?_
  refine St_seq ?_
  refine St_region ?_
  refine Ls_run (run_move rfl) rfl ?_
  refine Ls_run (run_move rfl) rfl ?_
  refine Ls_literal [_, _] hs Try.underlying58 inf22 rfl rfl rfl rfl rfl rfl ?_
  intro b15 w16 hs
  simp only [List.flatMap_cons, List.flatMap_nil, Value.cells, List.cons_append, List.nil_append] at hs
  refine Ls_call Try.func36 nm36 rfl rfl (Join_c w16 _ _ _ [Value.slice Ap (pb x).length cp, Value.slice A n c] [pb x, l] (rd_block (hs.is_at 0 rfl).2 1 2 rfl) (Parts.cons (hs.rd_at 4 rfl) (Parts.cons (hr.inB hs) (Parts.nil _))) (by simp; omega) (by omega)) rfl ?_
  rintro v17 w18 ⟨Aj, cj, rfl, hsj⟩
  replace hs := hs.trans hsj
  refine Ls_call Try.func17 nm17 rfl rfl (Take_c w18 _ _ _ [pb x, l].flatten (hs.rd_at 0 rfl) (IsBytes.two (pb_bytes x) hb) (by simp; omega)) rfl ?_
  rintro v19 w20 ⟨rfl, rfl⟩
  rw [tkV_eq (tk_two hx l)]
  refine Ls_run (run_move rfl) rfl ?_
  refine Ls_run (run_extract rfl rfl) rfl ?_
  refine Ls_run (run_extract rfl rfl) rfl ?_
  refine Ls_run (run_extract rfl rfl) rfl ?_
  refine Ls_run (run_assign rfl) rfl ?_
  refine Ls_run (run_assign rfl) rfl ?_
  refine Ls_run (run_assign rfl) rfl ?_
  refine Ls_nil ?_
  refine Jm_seq ?_
  refine St_seq ?_
  refine St_region ?_
  refine Ls_run (run_move rfl) rfl ?_
  refine Ls_run (run_move rfl) rfl ?_
  refine Ls_literal [_, _] hs Try.underlying58 inf22 rfl rfl rfl rfl rfl rfl ?_
  intro b21 w22 hs
  simp only [List.flatMap_cons, List.flatMap_nil, Value.cells, List.cons_append, List.nil_append] at hs
  refine Ls_call Try.func36 nm36 rfl rfl (Join_c w22 _ _ _ [Value.slice Ad 8 cd, Value.slice A n c] [wd 8 x, l] (rd_block (hs.is_at 0 rfl).2 1 2 rfl) (Parts.cons (hs.rd_at 5 rfl) (Parts.cons (hr.inB hs) (Parts.nil _))) (by simp [wd_len]; omega) (by omega)) rfl ?_
  rintro v23 w24 ⟨Aj2, cj2, rfl, hsj2⟩
  replace hs := hs.trans hsj2
  refine Ls_call Try.func37 nm37 rfl rfl (TakeWord_c w24 _ _ _ [wd 8 x, l].flatten (hs.rd_at 0 rfl) (IsBytes.two (wd_bytes 8 x) hb) (by simp [wd_len]; omega)) rfl ?_
  rintro v25 w26 ⟨rfl, (⟨hbad, _⟩ | ⟨_, rfl⟩)⟩
  · exfalso; simp [wd_len] at hbad; omega
  rw [tw_two hx l]
  refine Ls_run (run_move rfl) rfl ?_
  refine Ls_run (run_extract rfl rfl) rfl ?_
  refine Ls_run (run_extract rfl rfl) rfl ?_
  refine Ls_run (run_assign rfl) rfl ?_
  refine Ls_run (run_assign rfl) rfl ?_
  refine Ls_nil ?_
  refine Jm_seq ?_
  refine St_seq ?_
  refine St_region ?_
  refine Ls_run (run_move rfl) rfl ?_
  refine Ls_run (run_move rfl) rfl ?_
  refine Ls_run (run_asB (c := true) (run_eql rfl rfl) (decide_eq_true rfl)) rfl ?_
  refine Ls_run (run_move rfl) rfl ?_
  refine Ls_on rfl rfl ?_
  refine Ls_run (run_move rfl) rfl ?_
  refine Ls_on rfl rfl ?_
  refine Ls_run (run_move rfl) rfl ?_
  refine Ls_on rfl rfl ?_
  refine Ls_run (run_len Try.underlying22 rfl) rfl ?_
  refine Ls_on rfl rfl ?_
  refine Ls_run (run_asB (c := true) (run_eql rfl rfl) (decide_eq_true rfl)) rfl ?_
  refine Ls_run (run_pick_t rfl rfl) rfl ?_
  refine Ls_run (run_move rfl) rfl ?_
  refine Ls_on rfl rfl ?_
  refine Ls_run (run_move rfl) rfl ?_
  refine Ls_on rfl rfl ?_
  refine Ls_run (run_asB (c := true) (run_eql rfl rfl) rfl) rfl ?_
  refine Ls_run (run_pick_t rfl rfl) rfl ?_
  refine Ls_run (run_move rfl) rfl ?_
  refine Ls_on rfl rfl ?_
  refine Ls_run (run_move rfl) rfl ?_
  refine Ls_on rfl rfl ?_
  refine Ls_run (run_move rfl) rfl ?_
  refine Ls_on rfl rfl ?_
  refine Ls_run (run_asB (c := true) (run_eql rfl rfl) (decide_eq_true rfl)) rfl ?_
  refine Ls_run (run_pick_t rfl rfl) rfl ?_
  refine Ls_run (run_move rfl) rfl ?_
  refine Ls_on rfl rfl ?_
  refine Ls_run (run_move rfl) rfl ?_
  refine Ls_on rfl rfl ?_
  refine Ls_run (run_asB (c := true) (run_eql rfl rfl) rfl) rfl ?_
  refine Ls_run (run_pick_t rfl rfl) rfl ?_
  refine Ls_run (run_assign rfl) rfl ?_
  refine Ls_nil ?_
  refine Jm_seq ?_
  refine St_ret ?_
  refine Jm_ret1 rfl rfl ?_
  exact ⟨_, rfl, rfl, hs.below⟩
set_option maxRecDepth 100000 in
set_option maxHeartbeats 4000000 in
theorem WireTakes_c (w : World) (A : Option Addr) (n c : Nat) (l : List Int) (most : Int) (hr : Rd w A n c 1 (bytesV l)) (hb : IsBytes l) (hn : n ≤ 8796093022208) (hmost : most ≤ 9223372036854775807) :
    Calls Try.prog 14 [.slice A n c, .int .i64 most].toArray w (Ret (fun v' w' => v' = .bool true ∧ Below w.heap.size w w')) := by
  have hs := Sat.start w
  have hl : l.length = n := rdB_len hr
  refine Calls_body Try.func14 rfl rfl rfl (envE_cons (i := 0) (v := .slice A n c) rfl (envE_cons (i := 1) (v := .int .i64 most) rfl envE_nil)) ?_
  refine St_seq ?_
  refine St_region ?_
  refine Ls_run (run_assign rfl) rfl ?_
  refine Ls_nil ?_
  refine Jm_seq ?_
  refine St_seq ?_
  refine St_seq ?_
  refine St_region ?_
  refine Ls_call Try.func15 nm15 rfl rfl (awake_c w) rfl ?_
  rintro v1 w2 ⟨rfl, hsA⟩
  replace hs := hs.trans hsA
  refine Ls_run (run_not rfl) rfl ?_
  refine Ls_nil ?_
  refine Jm_seq ?_
  refine St_iff rfl ?_
  refine St_skip ?_
  refine Jm_seq ?_
  refine St_seq ?_
  refine St_region ?_
  refine Ls_run (run_move rfl) rfl ?_
  refine Ls_call Try.func17 nm17 rfl rfl (Take_c w2 _ _ _ l (hr.inB hs) hb (by omega)) rfl ?_
  rintro v4 w5 ⟨rfl, rfl⟩
  obtain ⟨⟨xa, aa, ea⟩, htk⟩ : ∃ q, tk 0 0 l = q := ⟨_, rfl⟩
  rw [tkV_eq htk]
  refine Ls_run (run_move rfl) rfl ?_
  refine Ls_run (run_extract rfl rfl) rfl ?_
  refine Ls_run (run_extract rfl rfl) rfl ?_
  refine Ls_run (run_extract rfl rfl) rfl ?_
  refine Ls_run (run_assign rfl) rfl ?_
  refine Ls_run (run_assign rfl) rfl ?_
  refine Ls_run (run_assign rfl) rfl ?_
  refine Ls_nil ?_
  refine Jm_seq ?_
  refine St_seq ?_
  refine St_region ?_
  refine Ls_run (run_move rfl) rfl ?_
  refine Ls_call Try.func46 nm46 rfl rfl (rTake_c w2 _ _ _ l (hr.inB hs) hb (by omega)) rfl ?_
  rintro v6 w7 ⟨rfl, rfl⟩
  rw [tkV_eq htk]
  refine Ls_run (run_move rfl) rfl ?_
  refine Ls_run (run_extract rfl rfl) rfl ?_
  refine Ls_run (run_extract rfl rfl) rfl ?_
  refine Ls_run (run_extract rfl rfl) rfl ?_
  refine Ls_run (run_assign rfl) rfl ?_
  refine Ls_run (run_assign rfl) rfl ?_
  refine Ls_run (run_assign rfl) rfl ?_
  refine Ls_nil ?_
  refine Jm_seq ?_
  refine St_seq ?_
  refine St_seq ?_
  refine St_region ?_
  refine Ls_run (run_move rfl) rfl ?_
  refine Ls_run (run_move rfl) rfl ?_
  refine Ls_run (run_asB (c := false) (run_neq rfl rfl) (by simp)) rfl ?_
  refine Ls_run (run_move rfl) rfl ?_
  refine Ls_on rfl rfl ?_
  refine Ls_run (run_move rfl) rfl ?_
  refine Ls_on rfl rfl ?_
  refine Ls_run (run_move rfl) rfl ?_
  refine Ls_on rfl rfl ?_
  refine Ls_run (run_asB (c := false) (run_neq rfl rfl) (by simp)) rfl ?_
  refine Ls_run (run_pick_f rfl rfl) rfl ?_
  refine Ls_run (run_move rfl) rfl ?_
  refine Ls_on rfl rfl ?_
  refine Ls_run (run_move rfl) rfl ?_
  refine Ls_on rfl rfl ?_
  refine Ls_run (run_move rfl) rfl ?_
  refine Ls_on rfl rfl ?_
  refine Ls_run (run_asB (c := false) (run_neq rfl rfl) (by simp)) rfl ?_
  refine Ls_run (run_pick_f rfl rfl) rfl ?_
  refine Ls_nil ?_
  refine Jm_seq ?_
  refine St_iff rfl ?_
  refine St_skip ?_
  refine Jm_seq ?_
  refine St_seq ?_
  refine St_region ?_
  refine Ls_run (run_move rfl) rfl ?_
  refine Ls_call Try.func41 nm41 rfl rfl (TakeRun_c w2 _ _ _ l (hr.inB hs) hb (by omega)) rfl ?_
  rintro v9 w10 ⟨Atr, ctr, rfl, hstr⟩
  replace hs := hs.trans hstr
  refine Ls_run (run_move rfl) rfl ?_
  refine Ls_run (run_extract rfl rfl) rfl ?_
  refine Ls_run (run_extract rfl rfl) rfl ?_
  refine Ls_run (run_extract rfl rfl) rfl ?_
  refine Ls_run (run_assign rfl) rfl ?_
  refine Ls_run (run_assign rfl) rfl ?_
  refine Ls_run (run_assign rfl) rfl ?_
  refine Ls_nil ?_
  refine Jm_seq ?_
  refine St_seq ?_
  refine St_region ?_
  refine Ls_run (run_move rfl) rfl ?_
  refine Ls_call Try.func47 nm47 rfl rfl (rTakeRun_c w10 _ _ _ l (hr.inB hs) hb (by omega)) rfl ?_
  rintro v11 w12 ⟨Artr, crtr, rfl, hsrtr⟩
  replace hs := hs.trans hsrtr
  refine Ls_run (run_move rfl) rfl ?_
  refine Ls_run (run_extract rfl rfl) rfl ?_
  refine Ls_run (run_extract rfl rfl) rfl ?_
  refine Ls_run (run_extract rfl rfl) rfl ?_
  refine Ls_run (run_assign rfl) rfl ?_
  refine Ls_run (run_assign rfl) rfl ?_
  refine Ls_run (run_assign rfl) rfl ?_
  refine Ls_nil ?_
  refine Jm_seq ?_
  refine St_seq ?_
  refine St_seq ?_
  refine St_region ?_
  refine Ls_run (run_move rfl) rfl ?_
  refine Ls_run (run_string Try.underlying22 Try.underlying5 Try.underlying9 rfl (hs.rd_at 1 rfl)) rfl ?_
  refine Ls_run (run_move rfl) rfl ?_
  refine Ls_run (run_string Try.underlying22 Try.underlying5 Try.underlying9 rfl (hs.rd_at 0 rfl)) rfl ?_
  refine Ls_run (run_asB (c := false) (run_neq_str rfl rfl) (by simp)) rfl ?_
  refine Ls_run (run_move rfl) rfl ?_
  refine Ls_on rfl rfl ?_
  refine Ls_run (run_move rfl) rfl ?_
  refine Ls_on rfl rfl ?_
  refine Ls_run (run_move rfl) rfl ?_
  refine Ls_on rfl rfl ?_
  refine Ls_run (run_asB (c := false) (run_neq rfl rfl) (by simp)) rfl ?_
  refine Ls_run (run_pick_f rfl rfl) rfl ?_
  refine Ls_run (run_move rfl) rfl ?_
  refine Ls_on rfl rfl ?_
  refine Ls_run (run_move rfl) rfl ?_
  refine Ls_on rfl rfl ?_
  refine Ls_run (run_move rfl) rfl ?_
  refine Ls_on rfl rfl ?_
  refine Ls_run (run_asB (c := false) (run_neq rfl rfl) (by simp)) rfl ?_
  refine Ls_run (run_pick_f rfl rfl) rfl ?_
  refine Ls_nil ?_
  refine Jm_seq ?_
  refine St_iff rfl ?_
  refine St_skip ?_
  refine Jm_seq ?_
  refine St_seq ?_
  refine St_region ?_
  refine Ls_run (run_move rfl) rfl ?_
  refine Ls_run (run_move rfl) rfl ?_
  refine Ls_call Try.func45 nm45 rfl rfl (TakeNums_c w12 _ _ _ l most (hr.inB hs) hb (by omega) (by omega)) rfl ?_
  rintro v14 w15 ⟨Atn, ctn, rfl, hstn⟩
  replace hs := hs.trans hstn
  refine Ls_run (run_move rfl) rfl ?_
  refine Ls_run (run_extract rfl rfl) rfl ?_
  refine Ls_run (run_extract rfl rfl) rfl ?_
  refine Ls_run (run_extract rfl rfl) rfl ?_
  refine Ls_run (run_assign rfl) rfl ?_
  refine Ls_run (run_assign rfl) rfl ?_
  refine Ls_run (run_assign rfl) rfl ?_
  refine Ls_nil ?_
  refine Jm_seq ?_
  refine St_seq ?_
  refine St_region ?_
  refine Ls_run (run_move rfl) rfl ?_
  refine Ls_run (run_move rfl) rfl ?_
  refine Ls_call Try.func48 nm48 rfl rfl (rTakeNums_c w15 _ _ _ l most (hr.inB hs) hb (by omega) (by omega)) rfl ?_
  rintro v16 w17 ⟨Artn, crtn, rfl, hsrtn⟩
  replace hs := hs.trans hsrtn
  refine Ls_run (run_move rfl) rfl ?_
  refine Ls_run (run_extract rfl rfl) rfl ?_
  refine Ls_run (run_extract rfl rfl) rfl ?_
  refine Ls_run (run_extract rfl rfl) rfl ?_
  refine Ls_run (run_assign rfl) rfl ?_
  refine Ls_run (run_assign rfl) rfl ?_
  refine Ls_run (run_assign rfl) rfl ?_
  refine Ls_nil ?_
  refine Jm_seq ?_
  refine St_seq ?_
  refine St_seq ?_
  refine St_region ?_
  refine Ls_run (run_move rfl) rfl ?_
  refine Ls_run (run_move rfl) rfl ?_
  obtain ⟨_, _, _, hq1, hq2, _⟩ := (hs.front 1 rfl).own_form
  simp only [maxLen] at hq2
  refine Ls_call Try.func43 nm43 rfl rfl (ints_same w17 _ _ _ _ _ _ _ _ rfl (hs.rd_at 1 rfl) (hs.rd_at 0 rfl) (by omega)) rfl ?_
  rintro v18 w19 ⟨rfl, hsI⟩
  replace hs := hs.trans hsI
  refine Ls_run (run_not rfl) rfl ?_
  refine Ls_run (run_move rfl) rfl ?_
  refine Ls_on rfl rfl ?_
  refine Ls_run (run_move rfl) rfl ?_
  refine Ls_on rfl rfl ?_
  refine Ls_run (run_move rfl) rfl ?_
  refine Ls_on rfl rfl ?_
  refine Ls_run (run_asB (c := false) (run_neq rfl rfl) (by simp)) rfl ?_
  refine Ls_run (run_pick_f rfl rfl) rfl ?_
  refine Ls_run (run_move rfl) rfl ?_
  refine Ls_on rfl rfl ?_
  refine Ls_run (run_move rfl) rfl ?_
  refine Ls_on rfl rfl ?_
  refine Ls_run (run_move rfl) rfl ?_
  refine Ls_on rfl rfl ?_
  refine Ls_run (run_asB (c := false) (run_neq rfl rfl) (by simp)) rfl ?_
  refine Ls_run (run_pick_f rfl rfl) rfl ?_
  refine Ls_nil ?_
  refine Jm_seq ?_
  refine St_iff rfl ?_
  refine St_skip ?_
  refine Jm_seq ?_
  refine St_seq ?_
  refine St_region ?_
  refine Ls_run (run_move rfl) rfl ?_
  refine Ls_call Try.func37 nm37 rfl rfl (TakeWord_f w19 _ _ _ l (hr.inB hs) hb (by omega)) rfl ?_
  rintro v21 w22 ⟨rfl, rfl⟩
  refine Ls_run (run_move rfl) rfl ?_
  refine Ls_run (run_extract rfl rfl) rfl ?_
  refine Ls_run (run_extract rfl rfl) rfl ?_
  refine Ls_run (run_assign rfl) rfl ?_
  refine Ls_run (run_assign rfl) rfl ?_
  refine Ls_nil ?_
  refine Jm_seq ?_
  refine St_seq ?_
  refine St_region ?_
  refine Ls_run (run_move rfl) rfl ?_
  refine Ls_call Try.func49 nm49 rfl rfl (rTakeWord_f w19 _ _ _ l (hr.inB hs) hb (by omega)) rfl ?_
  rintro v23 w24 ⟨rfl, rfl⟩
  refine Ls_run (run_move rfl) rfl ?_
  refine Ls_run (run_extract rfl rfl) rfl ?_
  refine Ls_run (run_extract rfl rfl) rfl ?_
  refine Ls_run (run_assign rfl) rfl ?_
  refine Ls_run (run_assign rfl) rfl ?_
  refine Ls_nil ?_
  refine Jm_seq ?_
  refine St_seq ?_
  refine St_region ?_
  refine Ls_run (run_move rfl) rfl ?_
  refine Ls_run (run_move rfl) rfl ?_
  refine Ls_run (run_asB (c := true) (run_eql rfl rfl) (by simp)) rfl ?_
  refine Ls_run (run_move rfl) rfl ?_
  refine Ls_on rfl rfl ?_
  refine Ls_run (run_move rfl) rfl ?_
  refine Ls_on rfl rfl ?_
  refine Ls_run (run_move rfl) rfl ?_
  refine Ls_on rfl rfl ?_
  refine Ls_run (run_asB (c := true) (run_eql rfl rfl) (by simp)) rfl ?_
  refine Ls_run (run_pick_t rfl rfl) rfl ?_
  refine Ls_run (run_assign rfl) rfl ?_
  refine Ls_nil ?_
  refine Jm_seq ?_
  refine St_ret ?_
  refine Jm_ret1 rfl rfl ?_
  exact ⟨_, rfl, rfl, hs.below⟩
set_option maxRecDepth 100000 in
set_option maxHeartbeats 4000000 in
theorem WireNums_c (w : World) (A : Option Addr) (n c : Nat) (l : List Int) (A2 : Option Addr) (n2 c2 : Nat) (r : List Int) (hr : Rd w A n c 1 ((El.int .i64).flat l)) (hw : ∀ x ∈ l, x ≤ 9223372036854775807) (hr2 : Rd w A2 n2 c2 1 (bytesV r)) (hb : IsBytes r) (hn : n ≤ 1048576) (hn2 : n2 ≤ 1048576) :
    Calls Try.prog 13 [.slice A n c, .slice A2 n2 c2].toArray w (Ret (fun v' w' => v' = .bool true ∧ Below w.heap.size w w')) := by
  have hs := Sat.start w
  have hl2 : r.length = n2 := rdB_len hr2
  have hl : l.length = n := by have := hr.len; rw [El.flat_length] at this; simpa [El.int] using this
  have hnl : (nm l).length ≤ 10 + 10 * n := by
    have h1 := nmB_len (list := l) (fun x hx => by have := hw x hx; omega)
    have h2 := pb_len10 (n := l.length) (by omega)
    simp only [nm, List.length_append]; omega
  obtain ⟨⟨b, e⟩, hnr⟩ : ∃ q, numsR l = q := ⟨_, rfl⟩
  have hec := numsR_cases hnr
  refine Calls_body Try.func13 rfl rfl rfl (envE_cons (i := 0) (v := .slice A n c) rfl (envE_cons (i := 1) (v := .slice A2 n2 c2) rfl envE_nil)) ?_
  refine St_seq ?_
  refine St_region ?_
  refine Ls_run (run_assign rfl) rfl ?_
  refine Ls_nil ?_
  refine Jm_seq ?_
  refine St_seq ?_
  refine St_seq ?_
  refine St_region ?_
  refine Ls_call Try.func15 nm15 rfl rfl (awake_c w) rfl ?_
  rintro v1 w2 ⟨rfl, hsA⟩
  replace hs := hs.trans hsA
  refine Ls_run (run_not rfl) rfl ?_
  refine Ls_nil ?_
  refine Jm_seq ?_
  refine St_iff rfl ?_
  refine St_skip ?_
  refine Jm_seq ?_
  refine St_seq ?_
  refine St_region ?_
  refine Ls_run (run_move rfl) rfl ?_
  refine Ls_call Try.func42 nm42 rfl rfl (Nums_f w2 _ _ _ l (hr.inB hs) (by omega) hw) rfl ?_
  rintro v4 w5 ⟨Ann, cnn, rfl, hsnn⟩
  simp only [hnr] at hsnn ⊢
  replace hs := hs.trans hsnn
  refine Ls_run (run_move rfl) rfl ?_
  refine Ls_run (run_extract rfl rfl) rfl ?_
  refine Ls_run (run_extract rfl rfl) rfl ?_
  refine Ls_run (run_assign rfl) rfl ?_
  refine Ls_run (run_assign rfl) rfl ?_
  refine Ls_nil ?_
  refine Jm_seq ?_
  refine St_seq ?_
  refine St_region ?_
  refine Ls_run (run_move rfl) rfl ?_
  refine Ls_call Try.func44 nm44 rfl rfl (rNums_f w5 _ _ _ l (hr.inB hs) (by omega) hw) rfl ?_
  rintro v6 w7 ⟨Arn, crn, rfl, hsrn⟩
  simp only [hnr] at hsrn ⊢
  replace hs := hs.trans hsrn
  refine Ls_run (run_move rfl) rfl ?_
  refine Ls_run (run_extract rfl rfl) rfl ?_
  refine Ls_run (run_extract rfl rfl) rfl ?_
  refine Ls_run (run_assign rfl) rfl ?_
  refine Ls_run (run_assign rfl) rfl ?_
  refine Ls_nil ?_
  refine Jm_seq ?_
  refine St_seq ?_
  refine St_seq ?_
  refine St_region ?_
  refine Ls_run (run_move rfl) rfl ?_
  refine Ls_run (run_move rfl) rfl ?_
  refine Ls_run (run_asB (c := false) (run_neq rfl rfl) (by simp)) rfl ?_
  refine Ls_run (run_move rfl) rfl ?_
  refine Ls_on rfl rfl ?_
  refine Ls_run (run_move rfl) rfl ?_
  refine Ls_on rfl rfl ?_
  refine Ls_run (run_string Try.underlying22 Try.underlying5 Try.underlying9 rfl (hs.rd_at 1 rfl)) rfl ?_
  refine Ls_on rfl rfl ?_
  refine Ls_run (run_move rfl) rfl ?_
  refine Ls_on rfl rfl ?_
  refine Ls_run (run_string Try.underlying22 Try.underlying5 Try.underlying9 rfl (hs.rd_at 0 rfl)) rfl ?_
  refine Ls_on rfl rfl ?_
  refine Ls_run (run_asB (c := false) (run_neq_str rfl rfl) (by simp)) rfl ?_
  refine Ls_run (run_pick_f rfl rfl) rfl ?_
  refine Ls_nil ?_
  refine Jm_seq ?_
  refine St_iff rfl ?_
  refine St_skip ?_
  refine Jm_seq ?_
  refine St_seq ?_
  refine St_seq ?_
  refine St_region ?_
  refine Ls_run (run_move rfl) rfl ?_
  refine Ls_run (run_neq rfl rfl) rfl ?_
  refine Ls_nil ?_
  refine Jm_seq ?_
  refine St_ifP rfl (fun h9 => ?_) (fun h9 => ?_)
  · skip
    refine St_seq ?_
    refine St_region ?_
    refine Ls_run (run_assign rfl) rfl ?_
    refine Ls_nil ?_
    refine Jm_seq ?_
    refine St_ret ?_
    refine Jm_then_ret  ?_
    refine Jm_ret1 rfl rfl ?_
    first | exact ⟨_, rfl, rfl, hs.below⟩ | skip
  · skip
    have e0 : e = 0 := by omega
    subst e0
    obtain ⟨hng, rfl⟩ := numsR_ok hnr
    have hnn : ∀ x ∈ l, 0 ≤ x := fun x hx => by
      rcases Int.lt_or_le x 0 with h | h
      · exact absurd ⟨x, hx, h⟩ hng
      · exact h
    refine St_skip ?_
    refine Jm_seq ?_
    refine St_seq ?_
    refine St_region ?_
    refine Ls_run (run_move rfl) rfl ?_
    refine Ls_run (run_move rfl) rfl ?_
    refine Ls_literal [_, _] hs Try.underlying58 inf22 rfl rfl rfl rfl rfl rfl ?_
    intro b10 w11 hs
    simp only [List.flatMap_cons, List.flatMap_nil, Value.cells, List.cons_append, List.nil_append] at hs
    refine Ls_call Try.func36 nm36 rfl rfl (Join_c w11 _ _ _ [Value.slice Ann (nm l).length cnn, Value.slice A2 n2 c2] [nm l, r] (rd_block (hs.is_at 0 rfl).2 1 2 rfl) (Parts.cons (hs.rd_at 2 rfl) (Parts.cons (hr2.inB hs) (Parts.nil _))) (by simp; omega) (by omega)) rfl ?_
    rintro v12 w13 ⟨Aj, cj, rfl, hsj⟩
    replace hs := hs.trans hsj
    refine Ls_run (run_move rfl) rfl ?_
    refine Ls_run (run_len Try.underlying46 rfl) rfl ?_
    refine Ls_call Try.func45 nm45 rfl rfl (TakeNums_c w13 _ _ _ [nm l, r].flatten (n : Int) (hs.rd_at 0 rfl) (IsBytes.two (nm_bytes l) hb) (by simp; omega) (by omega)) rfl ?_
    rintro v14 w15 ⟨Atn, ctn, rfl, hstn⟩
    have htb := tnum_back l (r ++ []) (by omega) (fun x hx => ⟨hnn x hx, by have := hw x hx; omega⟩)
    obtain ⟨⟨k, at_, f⟩, htn⟩ : ∃ q, tnum [nm l, r].flatten (n : Int) = q := ⟨_, rfl⟩
    simp only [htn] at hstn ⊢
    rw [hl] at htb
    have hfl : [nm l, r].flatten = nm l ++ (r ++ []) := by simp
    rw [hfl] at htn
    rw [htn] at htb
    replace hs := hs.trans hstn
    refine Ls_run (run_move rfl) rfl ?_
    refine Ls_run (run_extract rfl rfl) rfl ?_
    refine Ls_run (run_extract rfl rfl) rfl ?_
    refine Ls_run (run_extract rfl rfl) rfl ?_
    refine Ls_run (run_assign rfl) rfl ?_
    refine Ls_run (run_assign rfl) rfl ?_
    refine Ls_run (run_assign rfl) rfl ?_
    refine Ls_nil ?_
    refine Jm_seq ?_
    refine St_seq ?_
    refine St_seq ?_
    refine St_region ?_
    refine Ls_run (run_assign rfl) rfl ?_
    refine Ls_nil ?_
    refine Jm_seq ?_
    refine St_block ?_
    replace hs := hs.erase 1
    simp only [List.cons_append, List.nil_append, List.eraseIdx_cons_zero, List.eraseIdx_cons_succ] at hs
    replace hs := hs.erase 1
    simp only [List.cons_append, List.nil_append, List.eraseIdx_cons_zero, List.eraseIdx_cons_succ] at hs
    replace hs := hs.erase 1
    simp only [List.cons_append, List.nil_append, List.eraseIdx_cons_zero, List.eraseIdx_cons_succ] at hs
    replace hs := hs.erase 1
    simp only [List.cons_append, List.nil_append, List.eraseIdx_cons_zero, List.eraseIdx_cons_succ] at hs
    obtain ⟨En16, hEn16⟩ : ∃ F : Nat → Env, ∀ (i : Nat), F i = [(0, .slice A n c), (5, .slice Ann (nm l).length cnn), (9, .slice Atn k.length ctn), (10, .int .i64 at_), (6, .int .i64 f), (11, .int .i64 (i : Int))] := ⟨(fun (i : Nat) => [(0, .slice A n c), (5, .slice Ann (nm l).length cnn), (9, .slice Atn k.length ctn), (10, .int .i64 at_), (6, .int .i64 f), (11, .int .i64 (i : Int))]), fun _ => rfl⟩
    obtain ⟨Iv17, hIv17⟩ : ∃ F : Nat → World → Prop, ∀ (i : Nat) (wr : World), F i wr = (Sat w wr [Own 3 1 (.slice Atn k.length ctn) k.length ((El.int .i64).flat k)] ∧ i ≤ n ∧ ∀ x ∈ l.take i, x ≤ 4611686018427387904) := ⟨(fun (i : Nat) => fun (wr : World) => Sat w wr [Own 3 1 (.slice Atn k.length ctn) k.length ((El.int .i64).flat k)] ∧ i ≤ n ∧ ∀ x ∈ l.take i, x ≤ 4611686018427387904), fun _ _ => rfl⟩
    obtain ⟨ms18, hms18⟩ : ∃ F : Nat → Nat, ∀ (i : Nat), F i = (n - i) := ⟨(fun (i : Nat) => n - i), fun _ => rfl⟩
    refine St_loop En16 Iv17 ms18 (0) ?_ ?_ ?_
    · skip
      rw [hIv17]
      exact ⟨hs, by omega, by simp⟩
    · rw [hEn16]; exact (subE_cons rfl (subE_cons rfl (subE_cons rfl (subE_cons rfl (subE_cons rfl (subE_cons rfl subE_nil))))))
    rintro i wr hI19
    rw [hIv17] at hI19
    obtain ⟨hs, hi, hsm⟩ := hI19
    refine St_eqE (hEn16 _) ?_
    refine St_seq ?_
    refine St_seq ?_
    refine St_region ?_
    refine Ls_run (run_move rfl) rfl ?_
    refine Ls_run (run_move rfl) rfl ?_
    refine Ls_run (run_len Try.underlying46 rfl) rfl ?_
    refine Ls_run (run_lss rfl rfl) rfl ?_
    refine Ls_nil ?_
    refine Jm_seq ?_
    refine St_ifP rfl (fun h20 => ?_) (fun h20 => ?_)
    · skip
      refine St_skip ?_
      refine Jm_seq ?_
      refine St_seq ?_
      refine St_block ?_
      refine St_seq ?_
      refine St_region ?_
      refine Ls_run (run_move rfl) rfl ?_
      refine Ls_run (run_move rfl) rfl ?_
      refine Ls_index (El.int .i64) (hr.inB hs) Try.underlying46 inf3 rfl rfl (by omega) (by omega) (show _ = l.getD i 0 from rfl) rfl ?_
      intro b21 o22 hc23
      refine Ls_run (run_load sc3 rfl (hc23 0 _ rfl)) rfl ?_
      refine Ls_run (run_gtr rfl rfl) rfl ?_
      refine Ls_nil ?_
      refine Jm_seq ?_
      refine St_ifP rfl (fun h24 => ?_) (fun h24 => ?_)
      · skip
        have hmem : l.getD i 0 ∈ l := getD_mem' (by omega)
        have hbg : k.length = 0 ∧ at_ = 0 ∧ f = 4 := by have q := htb.1 ⟨_, hmem, h24⟩; simp only [Prod.mk.injEq] at q; simp [q.1, q.2.1, q.2.2]
        refine St_seq ?_
        refine St_region ?_
        refine Ls_run (run_move rfl) rfl ?_
        refine Ls_run (run_asB (c := true) (run_eql rfl rfl) (by simp [hbg.2.2])) rfl ?_
        refine Ls_run (run_move rfl) rfl ?_
        refine Ls_on rfl rfl ?_
        refine Ls_run (run_move rfl) rfl ?_
        refine Ls_on rfl rfl ?_
        refine Ls_run (run_len Try.underlying46 rfl) rfl ?_
        refine Ls_on rfl rfl ?_
        refine Ls_run (run_asB (c := true) (run_eql rfl rfl) (by simp [hbg.1])) rfl ?_
        refine Ls_run (run_pick_t rfl rfl) rfl ?_
        refine Ls_run (run_move rfl) rfl ?_
        refine Ls_on rfl rfl ?_
        refine Ls_run (run_move rfl) rfl ?_
        refine Ls_on rfl rfl ?_
        refine Ls_run (run_asB (c := true) (run_eql rfl rfl) (by simp [hbg.2.1])) rfl ?_
        refine Ls_run (run_pick_t rfl rfl) rfl ?_
        refine Ls_run (run_assign rfl) rfl ?_
        refine Ls_nil ?_
        refine Jm_seq ?_
        refine St_ret ?_
        refine Jm_block_ret (Jm_then_ret (Jm_then_ret (Jm_block_ret (Jm_then_ret  ?_))))
        refine Jm_ret1 rfl rfl ?_
        first | exact ⟨_, rfl, rfl, hs.below⟩ | skip
      · skip
        refine St_skip ?_
        refine Jm_block_normal (Jm_seq ?_)
        refine St_region ?_
        refine Ls_run (run_move rfl) rfl ?_
        refine Ls_run (run_add rfl rfl (w64 (by omega))) rfl ?_
        refine Ls_run (run_assign rfl) rfl ?_
        refine Ls_nil ?_
        refine Jm_round (i + 1) ?_ ?_ ?_
        · rw [hEn16]; exact (subE_cons rfl (subE_cons rfl (subE_cons rfl (subE_cons rfl (subE_cons rfl (subE_cons rfl subE_nil))))))
        · skip
          rw [hIv17]
          refine ⟨hs, by omega, fun x hx => ?_⟩
          rw [take_snoc' (by omega)] at hx
          rcases List.mem_append.1 hx with hx | hx
          · exact hsm x hx
          · simp only [List.mem_singleton] at hx; omega
        · skip
          rw [hms18, hms18]
          omega
    · skip
      refine St_exit ?_
      refine Jm_then_exit (Jm_then_exit (Jm_block_same (Jm_seq ?_)))
      refine St_seq ?_
      refine St_region ?_
      have hi9 : i = n := by omega
      have hnb : ¬ big l := fun ⟨x, hx, hx2⟩ => by
        rw [hi9, List.take_of_length_le (by omega)] at hsm
        have := hsm x hx; omega
      have hq := htb.2 hnb
      simp only [Prod.mk.injEq] at hq
      obtain ⟨hk1, hk2, hk3⟩ := hq
      refine Ls_run (run_move rfl) rfl ?_
      refine Ls_run (run_asB (c := true) (run_eql rfl rfl) (by simp [hk3])) rfl ?_
      refine Ls_run (run_move rfl) rfl ?_
      refine Ls_on rfl rfl ?_
      refine Ls_run (run_move rfl) rfl ?_
      refine Ls_on rfl rfl ?_
      refine Ls_run (run_move rfl) rfl ?_
      refine Ls_on rfl rfl ?_
      refine Ls_run (run_len Try.underlying22 rfl) rfl ?_
      refine Ls_on rfl rfl ?_
      refine Ls_run (run_asB (c := true) (run_eql rfl rfl) (by simp [hk2])) rfl ?_
      refine Ls_run (run_pick_t rfl rfl) rfl ?_
      refine Ls_run (run_move rfl) rfl ?_
      refine Ls_on rfl rfl ?_
      refine Ls_run (run_move rfl) rfl ?_
      refine Ls_on rfl rfl ?_
      refine Ls_run (run_move rfl) rfl ?_
      refine Ls_on rfl rfl ?_
      refine Ls_call Try.func43 nm43 rfl rfl (ints_same wr _ _ _ k _ _ _ l hk1 (hs.rd_at 0 rfl) (hr.inB hs) (by have := congrArg List.length hk1; omega)) rfl ?_
      rintro v25 w26 ⟨rfl, hsI⟩
      replace hs := hs.trans hsI
      refine Ls_run (run_pick_t rfl rfl) rfl ?_
      refine Ls_run (run_assign rfl) rfl ?_
      refine Ls_nil ?_
      refine Jm_seq ?_
      refine St_ret ?_
      refine Jm_ret1 rfl rfl ?_
      first | exact ⟨_, rfl, rfl, hs.below⟩ | skip
end Go.Proofs.Ytnmeaokfcalbbaa.Lg
