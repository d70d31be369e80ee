/-
  Reading a message: a number, what a kind asks for; what gives the reading up, and what catches it. By program (gen/msg4.py).
-/
import Derived.Test.YtipkfdeiallifaaMsg2s
import Derived.Test.YtipkfdeiallifaaWire4
set_option linter.unusedVariables false
set_option linter.unusedSimpArgs false
namespace Go.Proofs.Ytipkfdeiallifaa.Lg
open Go Go.RowKit Go.Proofs.Ytipkfdeiallifaa.WirePure
def fchain (e : Int) : List PanicEntry := [{ v := .iface 99 (.agg #[.int .i64 e]), recovered := false }]
theorem tkd_e {l : List Int} {most over x a e : Int} (h : tk 0 0 l = (x, a, e)) (he : e ≠ 0) : tkd l most over = (e, 0, []) := by simp [tkd, h, he]
theorem tkd_over {l : List Int} {most over x a : Int} (h : tk 0 0 l = (x, a, 0)) (hx : x > most) : tkd l most over = (over, 0, []) := by simp [tkd, h, hx]
theorem tkd_ok {l : List Int} {most over : Int} {x a : Nat} (h : tk 0 0 l = ((x : Int), (a : Int), 0)) (hx : ¬ (x : Int) > most) : tkd l most over = (0, (x : Int), l.drop a) := by simp [tkd, h, hx]
theorem keysD_z (l acc : List Int) : keysD 0 l acc = (0, acc, l) := rfl
theorem keysD_e {k : Nat} {l acc : List Int} {e : Int} (h : tkd l 18446744073709551615 4 = (e, 0, [])) (he : e ≠ 0) : keysD (k + 1) l acc = (e, [], []) := by simp [keysD, h, he]
theorem keysD_ok {k : Nat} {l acc r : List Int} {x : Int} (h : tkd l 18446744073709551615 4 = (0, x, r)) : keysD (k + 1) l acc = keysD k r (acc ++ [x]) := by simp [keysD, h]
theorem headD_e {k : Nat} {l acc : List Int} {e : Int} (h : tkd l 1099511627776 4 = (e, 0, [])) (he : e ≠ 0) : headD (k + 1) l acc = (e, [], []) := by simp [headD, h, he]
theorem headD_ok {k : Nat} {l acc r : List Int} {x : Int} (h : tkd l 1099511627776 4 = (0, x, r)) : headD (k + 1) l acc = headD k r (acc ++ [x]) := by simp [headD, h]
theorem pairsD_e {k : Nat} {l : List Int} {acc : List Pr} {e : Int} (h : tkd l 18446744073709551615 4 = (e, 0, [])) (he : e ≠ 0) : pairsD (k + 1) l acc = (e, [], []) := by simp [pairsD, h, he]
theorem pairsD_3 {k : Nat} {l r : List Int} {acc : List Pr} {x : Int} (h : tkd l 18446744073709551615 4 = (0, x, r)) (hl : r.length < 8) : pairsD (k + 1) l acc = (3, [], []) := by simp [pairsD, h, hl]
theorem pairsD_ok {k : Nat} {l r : List Int} {acc : List Pr} {x : Int} (h : tkd l 18446744073709551615 4 = (0, x, r)) (hl : 8 ≤ r.length) : pairsD (k + 1) l acc = pairsD k (r.drop 8) (acc ++ [(x, true, (tw (r.take 8) : Int))]) := by
  simp only [pairsD, h]; rw [if_neg (by simp), if_neg (by omega)]
theorem body1_e {x : MC} {l : List Int} (h : mof x.k = 1) (he : (tnum l 4).2.2 ≠ 0) : bodyD x l = ((tnum l 4).2.2, x, []) := by unfold bodyD; rw [if_pos h, if_pos he]
theorem body1_ok {x : MC} {l : List Int} (h : mof x.k = 1) (he : (tnum l 4).2.2 = 0) : bodyD x l = (0, { x with es := (tnum l 4).1 }, l.drop (tnum l 4).2.1.toNat) := by unfold bodyD; rw [if_pos h, if_neg (by omega)]
theorem body2_e {x : MC} {l : List Int} {e : Int} (h : mof x.k = 2) (ht : tkd l 64 6 = (e, 0, [])) (he : e ≠ 0) : bodyD x l = (e, x, []) := by unfold bodyD; rw [if_neg (by omega), if_pos h, ht, if_pos he]
theorem body2_k {x : MC} {l r : List Int} {n : Nat} {e : Int} (h : mof x.k = 2) (ht : tkd l 64 6 = (0, (n : Int), r)) (hk : keysD n r [] = (e, [], [])) (he : e ≠ 0) : bodyD x l = (e, x, []) := by
  unfold bodyD; rw [if_neg (by omega), if_pos h, ht, if_neg (by simp)]; simp only [Int.toNat_natCast, hk]; rw [if_pos he]
theorem body2_ok {x : MC} {l r q ks : List Int} {n : Nat} (h : mof x.k = 2) (ht : tkd l 64 6 = (0, (n : Int), r)) (hk : keysD n r [] = (0, ks, q)) : bodyD x l = (0, { x with ks := ks }, q) := by
  unfold bodyD; rw [if_neg (by omega), if_pos h, ht, if_neg (by simp)]; simp only [Int.toNat_natCast, hk]; rw [if_neg (by simp)]
theorem body3_e {x : MC} {l : List Int} {e : Int} (h : mof x.k = 3) (ht : tkd l 64 6 = (e, 0, [])) (he : e ≠ 0) : bodyD x l = (e, x, []) := by unfold bodyD; rw [if_neg (by omega), if_neg (by omega), if_pos h, ht, if_pos he]
theorem body3_k {x : MC} {l r : List Int} {n : Nat} {e : Int} (h : mof x.k = 3) (ht : tkd l 64 6 = (0, (n : Int), r)) (hk : pairsD n r [] = (e, [], [])) (he : e ≠ 0) : bodyD x l = (e, x, []) := by
  unfold bodyD; rw [if_neg (by omega), if_neg (by omega), if_pos h, ht, if_neg (by simp)]; simp only [Int.toNat_natCast, hk]; rw [if_pos he]
theorem body3_ok {x : MC} {l r q : List Int} {ps : List Pr} {n : Nat} (h : mof x.k = 3) (ht : tkd l 64 6 = (0, (n : Int), r)) (hk : pairsD n r [] = (0, ps, q)) : bodyD x l = (0, { x with ps := ps }, q) := by
  unfold bodyD; rw [if_neg (by omega), if_neg (by omega), if_pos h, ht, if_neg (by simp)]; simp only [Int.toNat_natCast, hk]; rw [if_neg (by simp)]
theorem body4_e {x : MC} {l : List Int} {e : Int} (h1 : mof x.k ≠ 1) (h2 : mof x.k ≠ 2) (h3 : mof x.k ≠ 3) (ht : tkd l 1099511627776 4 = (e, 0, [])) (he : e ≠ 0) : bodyD x l = (e, x, []) := by unfold bodyD; rw [if_neg h1, if_neg h2, if_neg h3, ht, if_pos he]
theorem body4_ok {x : MC} {l r : List Int} {c : Int} (h1 : mof x.k ≠ 1) (h2 : mof x.k ≠ 2) (h3 : mof x.k ≠ 3) (ht : tkd l 1099511627776 4 = (0, c, r)) : bodyD x l = (0, { x with c := c }, r) := by unfold bodyD; rw [if_neg h1, if_neg h2, if_neg h3, ht, if_neg (by simp)]
theorem flatU_snoc (acc : List Int) (x : Int) : (El.int .u64).flat acc ++ [.int .u64 x] = (El.int .u64).flat (acc ++ [x]) := by simp [El.flat, El.int]
theorem flatKP_snoc (acc : List Pr) (k : Int) (h : Bool) (b : Int) : KP.flat acc ++ [.int .u64 k, .bool h, .int .u64 b] = KP.flat (acc ++ [(k, h, b)]) := by simp [El.flat, KP]
/-- Where a list of numbers is read to its end: it ends within what was there. -/
theorem tnl_at {l : List Int} (hb : IsBytes l) : ∀ (k a : Nat) (acc : List Int), a ≤ l.length → (tnl l k a acc).2.2 = 0 → 0 ≤ (tnl l k a acc).2.1 ∧ (tnl l k a acc).2.1 ≤ (l.length : Int)
  | 0, a, acc, h, _ => by simp only [tnl]; omega
  | k + 1, a, acc, h, he => by
    rw [tnl_succ] at he ⊢
    obtain ⟨⟨x, b, e⟩, hq⟩ : ∃ q, tk 0 0 (l.drop a) = q := ⟨_, rfl⟩
    rw [hq] at he ⊢
    simp only at he ⊢
    by_cases h1 : e ≠ 0
    · rw [if_pos h1]; simp
    · rw [if_neg h1] at he ⊢
      have e0 : e = 0 := by omega
      subst e0
      have hr := tk_range (hb.drop' a) hq
      rw [List.length_drop] at hr
      by_cases h2 : x > 4611686018427387904
      · rw [if_pos h2]; simp
      · rw [if_neg h2] at he ⊢
        exact tnl_at hb k _ _ (by omega) he
theorem tnum_at {l : List Int} {most : Int} (hb : IsBytes l) (he : (tnum l most).2.2 = 0) : 0 ≤ (tnum l most).2.1 ∧ (tnum l most).2.1 ≤ (l.length : Int) := by
  obtain ⟨⟨x, b, e⟩, hq⟩ : ∃ q, tk 0 0 l = q := ⟨_, rfl⟩
  by_cases h1 : e ≠ 0
  · rw [tnum_e hq h1]; simp
  · have e0 : e = 0 := by omega
    subst e0
    have hr := tk_range hb hq
    by_cases h2 : most < 0 ∨ x > most
    · rw [tnum_6 hq h2]; simp
    · obtain ⟨xn, rfl⟩ : ∃ k : Nat, x = (k : Int) := ⟨x.toNat, by omega⟩
      obtain ⟨bn, rfl⟩ : ∃ k : Nat, b = (k : Int) := ⟨b.toNat, by omega⟩
      rw [tnum_o hq h2] at he ⊢
      exact tnl_at hb _ _ _ (by omega) he
set_option maxRecDepth 100000 in
set_option maxHeartbeats 1000000 in
theorem must_c (w : World) (e : Int) :
    Calls Try.prog 79 [.int .i64 e].toArray w (RetP (fun v' w' => w = w' ∧ e = 0 ∧ v' = .tuple #[]) (fun ch w' => w = w' ∧ e ≠ 0 ∧ ch = fchain e)) := by
  refine Calls_body Try.func79 rfl rfl rfl (envE_cons (i := 0) (v := .int .i64 e) rfl envE_nil) ?_
  refine St_seq ?_
  refine St_region ?_
  refine Ls_run (run_move rfl) rfl ?_
  refine Ls_run (run_neq rfl rfl) rfl ?_
  refine Ls_nil ?_
  refine Jm_seq ?_
  refine St_ifP rfl (fun h1 => ?_) (fun h1 => ?_)
  · skip
    refine St_region ?_
    refine Ls_run (run_move rfl) rfl ?_
    refine Ls_run (run_buildO (pv := [(0, _)]) rfl (bld99_0 _)) rfl ?_
    refine Ls_run (run_iface (by kernel_rfl) rfl) rfl ?_
    refine Ls_panic rfl ?_
    repeat (first | refine Jm_then_panic ?_ | refine Jm_block_panic ?_)
    exact Jm_panic_end (.inr ⟨_, rfl, rfl, by assumption, rfl⟩)
  · skip
    refine St_skip ?_
    refine Jm_end0 rfl ?_
    exact .inl ⟨_, rfl, rfl, by omega, rfl⟩
set_option maxRecDepth 100000 in
set_option maxHeartbeats 1000000 in
theorem number_c (B w : World) (L : List Assn) (g : Nat) (A : Option Addr) (n c : Nat) (l : List Int) (most over : Int) (hs : Sat B w (Blk g [.slice A n c] 103 :: L)) (hr : Rd B A n c 1 (bytesV l)) (hb : IsBytes l) (hn : n ≤ 9223372036854775807) (hov : over ≠ 0) (hmo : 0 ≤ most ∧ most < 18446744073709551616) :
    Calls Try.prog 78 [.pointer (some ⟨g, 0, none⟩), .int .u64 most, .int .i64 over].toArray w (RetP (fun v' w' => ∃ (x : Nat) (r : List Int) (A' : Option Addr) (c' : Nat), v' = .int .u64 (x : Int) ∧ tkd l most over = (0, (x : Int), r) ∧ (x : Int) ≤ most ∧ IsBytes r ∧ r.length ≤ n ∧ Rd B A' r.length c' 1 (bytesV r) ∧ Sat B w' (Blk g [.slice A' r.length c'] 103 :: L)) (fun ch w' => ∃ e, tkd l most over = (e, 0, []) ∧ e ≠ 0 ∧ ch = fchain e ∧ Sat B w' (Blk g [.slice A n c] 103 :: L))) := by
  have hl : l.length = n := rdB_len hr
  refine Calls_body Try.func78 rfl rfl rfl (envE_cons (i := 0) (v := .pointer (some ⟨g, 0, none⟩)) rfl (envE_cons (i := 1) (v := .int .u64 most) rfl (envE_cons (i := 2) (v := .int .i64 over) rfl envE_nil))) ?_
  refine St_seq ?_
  refine St_region ?_
  refine Ls_run (run_assign rfl) rfl ?_
  refine Ls_nil ?_
  refine Jm_seq ?_
  refine St_seq ?_
  refine St_region ?_
  refine Ls_run (run_move rfl) rfl ?_
  refine Ls_run (run_nilCheck rfl) rfl ?_
  refine Ls_run (run_as (run_field Try.underlying103 rfl inf28 (by decide) rfl) (show _ = Value.pointer (some ⟨g, 0, none⟩) from rfl)) rfl ?_
  refine Ls_run (run_load sc28 rfl (hs.blk_at 0 rfl 0 rfl)) rfl ?_
  refine Ls_call Try.func111 nm111 rfl rfl (Take_c w _ _ _ l (hr.inB hs) hb hn) rfl ?_
  rintro v1 w2 ⟨rfl, rfl⟩
  obtain ⟨⟨xa, aa, ea⟩, htk⟩ : ∃ q, tk 0 0 l = q := ⟨_, rfl⟩
  rw [tkV_eq htk]
  refine Ls_run (run_move rfl) rfl ?_
  refine Ls_run (run_extract rfl rfl) rfl ?_
  refine Ls_run (run_extract rfl rfl) rfl ?_
  refine Ls_run (run_extract rfl rfl) rfl ?_
  refine Ls_run (run_assign rfl) rfl ?_
  refine Ls_run (run_assign rfl) rfl ?_
  refine Ls_run (run_assign rfl) rfl ?_
  refine Ls_nil ?_
  refine Jm_seq ?_
  refine St_seq ?_
  refine St_region ?_
  refine Ls_run (run_move rfl) rfl ?_
  refine Ls_callP Try.func79 nm79 rfl rfl (must_c w ea) rfl ?_ ?_
  rotate_left
  · skip
    rintro ch5 w6 ⟨rfl, hne, rfl⟩
    repeat (first | refine Jm_then_panic ?_ | refine Jm_block_panic ?_)
    exact Jm_panic_end (.inr ⟨_, rfl, _, tkd_e htk hne, hne, rfl, hs⟩)
  rintro v3 w4 ⟨rfl, he0, rfl⟩
  subst he0
  have hrg := tk_range hb htk
  obtain ⟨xn, rfl⟩ : ∃ k : Nat, xa = (k : Int) := ⟨xa.toNat, by omega⟩
  obtain ⟨an, rfl⟩ : ∃ k : Nat, aa = (k : Int) := ⟨aa.toNat, by omega⟩
  have hdl : (l.drop an).length = n - an := by rw [List.length_drop, hl]
  refine Ls_nil ?_
  refine Jm_seq ?_
  refine St_seq ?_
  refine St_seq ?_
  refine St_region ?_
  refine Ls_run (run_move rfl) rfl ?_
  refine Ls_run (run_move rfl) rfl ?_
  refine Ls_run (run_gtr rfl rfl) rfl ?_
  refine Ls_nil ?_
  refine Jm_seq ?_
  refine St_ifP rfl (fun h7 => ?_) (fun h7 => ?_)
  · skip
    refine St_region ?_
    refine Ls_run (run_move rfl) rfl ?_
    refine Ls_callP Try.func79 nm79 rfl rfl (must_c w over) rfl ?_ ?_
    rotate_left
    · skip
      rintro ch10 w11 ⟨rfl, hne, rfl⟩
      repeat (first | refine Jm_then_panic ?_ | refine Jm_block_panic ?_)
      exact Jm_panic_end (.inr ⟨_, rfl, _, tkd_over htk (by assumption), hov, rfl, hs⟩)
    rintro v8 w9 ⟨rfl, he0, rfl⟩
    exact absurd he0 hov
  · skip
    refine St_skip ?_
    refine Jm_seq ?_
    refine St_seq ?_
    refine St_region ?_
    refine Ls_run (run_move rfl) rfl ?_
    refine Ls_run (run_move rfl) rfl ?_
    refine Ls_run (run_nilCheck rfl) rfl ?_
    refine Ls_run (run_as (run_field Try.underlying103 rfl inf28 (by decide) rfl) (show _ = Value.pointer (some ⟨g, 0, none⟩) from rfl)) rfl ?_
    refine Ls_run (run_load sc28 rfl (hs.blk_at 0 rfl 0 rfl)) rfl ?_
    refine Ls_run (run_move rfl) rfl ?_
    refine Ls_run (run_as (run_slice_l Try.underlying28 inf5 rfl rfl (by omega) (by omega)) (show _ = Value.slice (if c = an then A else A.map (·.add (an * 1))) (l.drop an).length (c - an) from by rw [hdl]; rfl)) rfl ?_
    refine Ls_run (run_nilCheck rfl) rfl ?_
    refine Ls_run (run_as (run_field Try.underlying103 rfl inf28 (by decide) rfl) (show _ = Value.pointer (some ⟨g, 0, none⟩) from rfl)) rfl ?_
    refine Ls_store hs inf28 rfl rfl rfl rfl ?_
    intro w12 hs
    try simp only [List.set_cons_zero, List.set_cons_succ] at hs
    refine Ls_nil ?_
    refine Jm_seq ?_
    refine St_seq ?_
    refine St_region ?_
    refine Ls_run (run_move rfl) rfl ?_
    refine Ls_run (run_assign rfl) rfl ?_
    refine Ls_nil ?_
    refine Jm_seq ?_
    refine St_ret ?_
    refine Jm_ret1 rfl rfl ?_
    refine .inl ⟨_, rfl, xn, l.drop an, _, _, rfl, tkd_ok htk (by assumption), by omega, hb.drop' an, by omega, ?_, hs⟩
    rw [hdl]
    exact rdB_drop hr an (by omega)
set_option maxRecDepth 100000 in
set_option maxHeartbeats 1000000 in
theorem body_c (B w : World) (L : List Assn) (g : Nat) (A : Option Addr) (n c : Nat) (l : List Int) (gm : Nat) (k f0 t0 b0 a0 : Int) (hs : Sat B w (Blk g [.slice A n c] 103 :: Blk gm [.int .i64 k, .int .i64 f0, .int .i64 t0, .int .i64 b0, .int .i64 a0, .int .i64 0, .slice none 0 0, .slice none 0 0, .slice none 0 0] 26 :: L)) (hr : Rd B A n c 1 (bytesV l)) (hb : IsBytes l) (hn : n ≤ 9223372036854775807) (hk0 : mof k ≠ 0) :
    Calls Try.prog 80 [.pointer (some ⟨g, 0, none⟩), .pointer (some ⟨gm, 0, none⟩)].toArray w (RetP (fun v' w' => v' = .tuple #[] ∧ ∃ (x : MC) (p : MP) (r : List Int) (A' : Option Addr) (c' : Nat), bodyD ⟨k, f0, t0, b0, a0, 0, [], [], []⟩ l = (0, x, r) ∧ IsBytes r ∧ r.length ≤ n ∧ Rd B A' r.length c' 1 (bytesV r) ∧ Sat B w' (Blk g [.slice A' r.length c'] 103 :: Blk gm (mcells x p) 26 :: Own 3 1 (.slice p.eA p.en p.ec) p.en ((El.int .i64).flat x.es) :: Own 38 1 (.slice p.kA p.kn p.kc) p.kn ((El.int .u64).flat x.ks) :: Own 42 3 (.slice p.pA p.pn p.pc) p.pn (KP.flat x.ps) :: L)) (fun ch w' => ∃ e cs vv, bodyD ⟨k, f0, t0, b0, a0, 0, [], [], []⟩ l = (e, ⟨k, f0, t0, b0, a0, 0, [], [], []⟩, []) ∧ e ≠ 0 ∧ ch = fchain e ∧ cs.length = 9 ∧ Sat B w' (Blk g [vv] 103 :: Blk gm cs 26 :: L))) := by
  have hl : l.length = n := rdB_len hr
  have hmr := mof_range k
  refine Calls_body Try.func80 rfl rfl rfl (envE_cons (i := 0) (v := .pointer (some ⟨g, 0, none⟩)) rfl (envE_cons (i := 1) (v := .pointer (some ⟨gm, 0, none⟩)) rfl envE_nil)) ?_
  refine St_seq ?_
  refine St_region ?_
  refine Ls_run (run_move rfl) rfl ?_
  refine Ls_run (run_nilCheck rfl) rfl ?_
  refine Ls_run (run_as (run_field Try.underlying26 rfl inf3 (by decide) rfl) (show _ = Value.pointer (some ⟨gm, 0, none⟩) from rfl)) rfl ?_
  refine Ls_run (run_load sc3 rfl (hs.blk_at 1 rfl 0 rfl)) rfl ?_
  refine Ls_call Try.func63 nm63 rfl rfl (of_c w k) rfl ?_
  rintro v1 w2 ⟨rfl, rfl⟩
  refine Ls_nil ?_
  refine Jm_seq ?_
  refine St_block ?_
  refine St_seq ?_
  refine St_region ?_
  refine Ls_run (run_eql rfl rfl) rfl ?_
  refine Ls_run (run_assign rfl) rfl ?_
  refine Ls_nil ?_
  refine Jm_seq ?_
  refine St_ifP rfl (fun h3 => ?_) (fun h3 => ?_)
  · skip
    refine St_seq ?_
    refine St_region ?_
    refine Ls_run (run_move rfl) rfl ?_
    refine Ls_run (run_nilCheck rfl) rfl ?_
    refine Ls_run (run_as (run_field Try.underlying103 rfl inf28 (by decide) rfl) (show _ = Value.pointer (some ⟨g, 0, none⟩) from rfl)) rfl ?_
    refine Ls_run (run_load sc28 rfl (hs.blk_at 0 rfl 0 rfl)) rfl ?_
    refine Ls_call Try.func112 nm112 rfl rfl (TakeNums_c w _ _ _ l 4 (hr.inB hs) hb (by omega) (by decide)) rfl ?_
    rintro v4 w5 ⟨Ae, ce, rfl, hsN⟩
    replace hs := hs.trans hsN
    simp only [List.nil_append, List.cons_append] at hs
    refine Ls_run (run_move rfl) rfl ?_
    refine Ls_run (run_extract rfl rfl) rfl ?_
    refine Ls_run (run_extract rfl rfl) rfl ?_
    refine Ls_run (run_extract rfl rfl) rfl ?_
    refine Ls_run (run_assign rfl) rfl ?_
    refine Ls_run (run_assign rfl) rfl ?_
    refine Ls_run (run_assign rfl) rfl ?_
    refine Ls_nil ?_
    refine Jm_seq ?_
    refine St_seq ?_
    refine St_region ?_
    refine Ls_run (run_move rfl) rfl ?_
    refine Ls_callP Try.func79 nm79 rfl rfl (must_c w5 (tnum l 4).2.2) rfl ?_ ?_
    rotate_left
    · skip
      rintro ch8 w9 ⟨rfl, hne, rfl⟩
      repeat (first | refine Jm_then_panic ?_ | refine Jm_block_panic ?_)
      replace hs := hs.front 2 rfl
      simp only [List.cons_append, List.nil_append, List.eraseIdx_cons_zero, List.eraseIdx_cons_succ] at hs
      replace hs := hs.front 2 rfl
      simp only [List.cons_append, List.nil_append, List.eraseIdx_cons_zero, List.eraseIdx_cons_succ] at hs
      replace hs := hs.erase 2
      simp only [List.cons_append, List.nil_append, List.eraseIdx_cons_zero, List.eraseIdx_cons_succ] at hs
      exact Jm_panic_end (.inr ⟨_, rfl, _, _, _, body1_e (by assumption) hne, hne, rfl, rfl, hs⟩)
    rintro v6 w7 ⟨rfl, he0, rfl⟩
    have htn := tnum_at (most := 4) hb he0
    obtain ⟨u, hu⟩ : ∃ u : Nat, (tnum l 4).2.1 = (u : Int) := ⟨(tnum l 4).2.1.toNat, by omega⟩
    have hdl : (l.drop u).length = n - u := by rw [List.length_drop, hl]
    refine Ls_nil ?_
    refine Jm_seq ?_
    refine St_drawC 11 (fun x => Below w5.heap.size w5 x) mixed ?_
    intro w10 q11
    have hH := q11.below
    replace hs := hs.quiet q11
    refine AnC_grow hH ?_
    replace hH := Below.refl w10.heap.size w10
    refine AnC_takeP 0 (by kernel_rfl) rfl (by kernel_rfl) (by kernel_rfl) (by kernel_rfl) (fun _ _ _ h => h) (fun _ => hH) (fun x => run_move rfl) rfl ?_
    refine AnC_takeP 1 (by kernel_rfl) rfl (by kernel_rfl) (by kernel_rfl) (by kernel_rfl) (fun _ _ _ h => h) (fun _ => hH) (fun x => run_move rfl) rfl ?_
    refine AnC_takeP 2 (by kernel_rfl) rfl (by kernel_rfl) (by kernel_rfl) (by kernel_rfl) (fun _ _ _ h => h) (fun _ => hH) (fun x => run_move rfl) rfl ?_
    refine AnC_takeP 3 (by kernel_rfl) rfl (by kernel_rfl) (by kernel_rfl) (by kernel_rfl) (fun _ _ _ h => h) (fun _ => hH) (fun x => run_move rfl) rfl ?_
    refine AnC_takeP 4 (by kernel_rfl) rfl (by kernel_rfl) (by kernel_rfl) (by kernel_rfl) (fun _ _ _ h => h) (fun _ => hH) (fun x => run_nilCheck rfl) rfl ?_
    refine AnC_takeP 5 (by kernel_rfl) rfl (by kernel_rfl) (by kernel_rfl) (by kernel_rfl) (fun _ _ _ h => h) (fun _ => hH) (fun x => run_as (run_field Try.underlying103 rfl inf28 (by decide) rfl) (show _ = Value.pointer (some ⟨g, 0, none⟩) from rfl)) rfl ?_
    refine AnC_take 6 [11, 6] rfl (by kernel_rfl) (by kernel_rfl) (by kernel_rfl) (by kernel_rfl) (fun _ _ _ h => h) hH (fun x hx => run_load sc28 rfl ((hs.grow hx).blk_at 1 rfl 0 rfl)) rfl ?_
    refine AnC_takeP 7 (by kernel_rfl) rfl (by kernel_rfl) (by kernel_rfl) (by kernel_rfl) (fun _ _ _ h => h) (fun _ => hH) (fun x => run_as (run_move rfl) (show _ = Value.int .i64 (u : Int) from by rw [hu])) rfl ?_
    refine AnC_takeP 8 (by kernel_rfl) rfl (by kernel_rfl) (by kernel_rfl) (by kernel_rfl) (fun _ _ _ h => h) (fun _ => hH) (fun x => run_as (run_slice_l Try.underlying28 inf5 rfl rfl (by omega) (by omega)) (show _ = Value.slice (if c = u then A else A.map (·.add (u * 1))) (l.drop u).length (c - u) from by rw [hdl]; rfl)) rfl ?_
    refine AnC_takeP 9 (by kernel_rfl) rfl (by kernel_rfl) (by kernel_rfl) (by kernel_rfl) (fun _ _ _ h => h) (fun _ => hH) (fun x => run_nilCheck rfl) rfl ?_
    refine AnC_takeP 10 (by kernel_rfl) rfl (by kernel_rfl) (by kernel_rfl) (by kernel_rfl) (fun _ _ _ h => h) (fun _ => hH) (fun x => run_as (run_field Try.underlying26 rfl inf22 (by decide) rfl) (show _ = Value.pointer (some ⟨gm, 6, none⟩) from rfl)) rfl ?_
    refine AnC_only 11 (by kernel_rfl) rfl ?_
    replace hs := hs.front 2 rfl
    simp only [List.cons_append, List.nil_append, List.eraseIdx_cons_zero, List.eraseIdx_cons_succ] at hs
    refine Ls_store hs inf22 rfl rfl rfl rfl ?_
    intro w12 hs
    try simp only [List.set_cons_zero, List.set_cons_succ] at hs
    refine Ls_nil (Jm_AnC_closed (by kernel_rfl) ?_)
    refine AnC_switch (H' := fun x => Below w12.heap.size w12 x) 14 (by kernel_rfl) ?_
    replace hH := Below.refl w12.heap.size w12
    refine AnC_takeP 12 (by kernel_rfl) rfl (by kernel_rfl) (by kernel_rfl) (by kernel_rfl) (fun _ _ _ h => h) (fun _ => hH) (fun x => run_nilCheck rfl) rfl ?_
    refine AnC_takeP 13 (by kernel_rfl) rfl (by kernel_rfl) (by kernel_rfl) (by kernel_rfl) (fun _ _ _ h => h) (fun _ => hH) (fun x => run_as (run_field Try.underlying103 rfl inf28 (by decide) rfl) (show _ = Value.pointer (some ⟨g, 0, none⟩) from rfl)) rfl ?_
    refine AnC_only 14 (by kernel_rfl) rfl ?_
    replace hs := hs.front 2 rfl
    simp only [List.cons_append, List.nil_append, List.eraseIdx_cons_zero, List.eraseIdx_cons_succ] at hs
    refine Ls_store hs inf28 rfl rfl rfl rfl ?_
    intro w13 hs
    try simp only [List.set_cons_zero, List.set_cons_succ] at hs
    refine Ls_nil (Jm_AnC_closed (by kernel_rfl) ?_)
    refine AnC_switch (H' := fun x => Below w13.heap.size w13 x) 15 (by kernel_rfl) ?_
    replace hH := Below.refl w13.heap.size w13
    refine AnC_done (by kernel_rfl) ?_
    refine Jm_block_normal  ?_
    refine Jm_end0 rfl ?_
    replace hs := hs.front 2 rfl
    simp only [List.cons_append, List.nil_append, List.eraseIdx_cons_zero, List.eraseIdx_cons_succ] at hs
    replace hs := hs.front 2 rfl
    simp only [List.cons_append, List.nil_append, List.eraseIdx_cons_zero, List.eraseIdx_cons_succ] at hs
    replace hs := hs.front 2 rfl
    simp only [List.cons_append, List.nil_append, List.eraseIdx_cons_zero, List.eraseIdx_cons_succ] at hs
    replace hs := hs.front 2 rfl
    simp only [List.cons_append, List.nil_append, List.eraseIdx_cons_zero, List.eraseIdx_cons_succ] at hs
    obtain ⟨A9, c9, hv9, _, _, _⟩ := hs.own_form
    first | (cases hv9) | (subst hv9)
    replace hs := hs.own_nil 38 1
    replace hs := hs.own_nil 42 3
    replace hs := hs.front 1 rfl
    simp only [List.cons_append, List.nil_append, List.eraseIdx_cons_zero, List.eraseIdx_cons_succ] at hs
    replace hs := hs.front 2 rfl
    simp only [List.cons_append, List.nil_append, List.eraseIdx_cons_zero, List.eraseIdx_cons_succ] at hs
    replace hs := hs.front 4 rfl
    simp only [List.cons_append, List.nil_append, List.eraseIdx_cons_zero, List.eraseIdx_cons_succ] at hs
    replace hs := hs.front 4 rfl
    simp only [List.cons_append, List.nil_append, List.eraseIdx_cons_zero, List.eraseIdx_cons_succ] at hs
    refine .inl ⟨_, rfl, rfl, ⟨k, f0, t0, b0, a0, 0, (tnum l 4).1, [], []⟩, ⟨Ae, (tnum l 4).1.length, ce, none, 0, 0, none, 0, 0⟩, l.drop u, _, _, by rw [body1_ok (by assumption) he0, hu]; rfl, hb.drop' u, by omega, ?_, hs⟩
    rw [hdl]
    exact rdB_drop hr u (by omega)
  · skip
    refine St_seq ?_
    refine St_region ?_
    refine Ls_run (run_eql rfl rfl) rfl ?_
    refine Ls_run (run_assign rfl) rfl ?_
    refine Ls_nil ?_
    refine Jm_seq ?_
    refine St_ifP rfl (fun h14 => ?_) (fun h14 => ?_)
    · skip
      refine St_seq ?_
      refine St_region ?_
      refine Ls_run (run_move rfl) rfl ?_
      refine Ls_callP Try.func78 nm78 rfl rfl (number_c B w _ g A n c l 64 6 hs hr hb (by omega) (by decide) (by decide)) rfl ?_ ?_
      rotate_left
      · skip
        rintro ch17 w18 ⟨e9, ht9, hne, rfl, hs⟩
        repeat (first | refine Jm_then_panic ?_ | refine Jm_block_panic ?_)
        replace hs := hs.front 1 rfl
        simp only [List.cons_append, List.nil_append, List.eraseIdx_cons_zero, List.eraseIdx_cons_succ] at hs
        replace hs := hs.front 1 rfl
        simp only [List.cons_append, List.nil_append, List.eraseIdx_cons_zero, List.eraseIdx_cons_succ] at hs
        exact Jm_panic_end (.inr ⟨_, rfl, _, _, _, body2_e (by assumption) ht9 hne, hne, rfl, rfl, hs⟩)
      rintro v15 w16 ⟨n1, r1, Ar1, cr1, rfl, htr1, hxr1, hbr1, hlr1, hrr1, hs⟩
      refine Ls_run (run_move rfl) rfl ?_
      refine Ls_nil ?_
      refine Jm_seq ?_
      refine St_block ?_
      replace hs := hs.own_nil 38 1
      replace hs := hs.front 2 rfl
      simp only [List.cons_append, List.nil_append, List.eraseIdx_cons_zero, List.eraseIdx_cons_succ] at hs
      replace hs := hs.front 2 rfl
      simp only [List.cons_append, List.nil_append, List.eraseIdx_cons_zero, List.eraseIdx_cons_succ] at hs
      obtain ⟨En19, hEn19⟩ : ∃ F : Nat × Option Addr × Nat × List Int × Value × Nat × List Int → Env, ∀ (i : Nat) (Ar : Option Addr) (cr : Nat) (r : List Int) (v : Value) (m : Nat) (acc : List Int), F (i, Ar, cr, r, v, m, acc) = [(0, .pointer (some ⟨g, 0, none⟩)), (1, .pointer (some ⟨gm, 0, none⟩)), (44, .int .u64 (n1 : Int)), (45, .int .u64 (i : Int))] := ⟨(fun (s : Nat × Option Addr × Nat × List Int × Value × Nat × List Int) => match s with | (i, Ar, cr, r, v, m, acc) => [(0, .pointer (some ⟨g, 0, none⟩)), (1, .pointer (some ⟨gm, 0, none⟩)), (44, .int .u64 (n1 : Int)), (45, .int .u64 (i : Int))]), fun _ _ _ _ _ _ _ => rfl⟩
      obtain ⟨Iv20, hIv20⟩ : ∃ F : Nat × Option Addr × Nat × List Int × Value × Nat × List Int → World → Prop, ∀ (i : Nat) (Ar : Option Addr) (cr : Nat) (r : List Int) (v : Value) (m : Nat) (acc : List Int) (wq : World), F (i, Ar, cr, r, v, m, acc) wq = (Sat B wq (Blk g [.slice Ar r.length cr] 103 :: Blk gm [.int .i64 k, .int .i64 f0, .int .i64 t0, .int .i64 b0, .int .i64 a0, .int .i64 0, .slice none 0 0, v, .slice none 0 0] 26 :: Own 38 1 v m ((El.int .u64).flat acc) :: L) ∧ i ≤ n1 ∧ m ≤ i ∧ IsBytes r ∧ Rd B Ar r.length cr 1 (bytesV r) ∧ r.length ≤ n ∧ keysD (n1 - i) r acc = keysD n1 r1 []) := ⟨(fun (s : Nat × Option Addr × Nat × List Int × Value × Nat × List Int) => match s with | (i, Ar, cr, r, v, m, acc) => fun (wq : World) => Sat B wq (Blk g [.slice Ar r.length cr] 103 :: Blk gm [.int .i64 k, .int .i64 f0, .int .i64 t0, .int .i64 b0, .int .i64 a0, .int .i64 0, .slice none 0 0, v, .slice none 0 0] 26 :: Own 38 1 v m ((El.int .u64).flat acc) :: L) ∧ i ≤ n1 ∧ m ≤ i ∧ IsBytes r ∧ Rd B Ar r.length cr 1 (bytesV r) ∧ r.length ≤ n ∧ keysD (n1 - i) r acc = keysD n1 r1 []), fun _ _ _ _ _ _ _ _ => rfl⟩
      obtain ⟨ms21, hms21⟩ : ∃ F : Nat × Option Addr × Nat × List Int × Value × Nat × List Int → Nat, ∀ (i : Nat) (Ar : Option Addr) (cr : Nat) (r : List Int) (v : Value) (m : Nat) (acc : List Int), F (i, Ar, cr, r, v, m, acc) = (n1 - i) := ⟨(fun (s : Nat × Option Addr × Nat × List Int × Value × Nat × List Int) => match s with | (i, Ar, cr, r, v, m, acc) => n1 - i), fun _ _ _ _ _ _ _ => rfl⟩
      refine St_loop En19 Iv20 ms21 (0, Ar1, cr1, r1, Value.slice none 0 0, 0, []) ?_ ?_ ?_
      · skip
        rw [hIv20]
        exact ⟨hs, by omega, by omega, hbr1, hrr1, hlr1, rfl⟩
      · rw [hEn19]; exact (subE_cons rfl (subE_cons rfl (subE_cons rfl (subE_cons rfl subE_nil))))
      rintro ⟨i, Ar, cr, r, v, m, acc⟩ wq hI22
      rw [hIv20] at hI22
      obtain ⟨hs, hi, hmi, hbr, hrr, hlr, hkd⟩ := hI22
      refine St_eqE (hEn19 _ _ _ _ _ _ _) ?_
      refine St_seq ?_
      refine St_region ?_
      refine Ls_run (run_lss rfl rfl) rfl ?_
      refine Ls_nil ?_
      refine Jm_seq ?_
      refine St_seq ?_
      refine St_ifP rfl (fun h23 => ?_) (fun h23 => ?_)
      · skip
        refine St_skip ?_
        refine Jm_seq ?_
        refine St_seq ?_
        refine St_block ?_
        replace hs := hs.front 1 rfl
        simp only [List.cons_append, List.nil_append, List.eraseIdx_cons_zero, List.eraseIdx_cons_succ] at hs
        refine St_holdC 11 (Hold.of (Ls := [_]) hs) mixed ?_
        intro w24 q25
        replace hs := hs.quiet q25
        have hH := Hold.of (Ls := [_]) hs
        obtain ⟨k9, hk9⟩ : ∃ k9, n1 - i = k9 + 1 := ⟨n1 - i - 1, by omega⟩
        have hk8 : n1 - (i + 1) = k9 := by omega
        rw [hk9] at hkd
        refine AnC_takeP 0 (by kernel_rfl) rfl (by kernel_rfl) (by kernel_rfl) (by kernel_rfl) (fun _ _ _ h => h) (fun _ => hH) (fun x => run_move rfl) rfl ?_
        refine AnC_takeP 1 (by kernel_rfl) rfl (by kernel_rfl) (by kernel_rfl) (by kernel_rfl) (fun _ _ _ h => h) (fun _ => hH) (fun x => run_move rfl) rfl ?_
        refine AnC_takeP 2 (by kernel_rfl) rfl (by kernel_rfl) (by kernel_rfl) (by kernel_rfl) (fun _ _ _ h => h) (fun _ => hH) (fun x => run_nilCheck rfl) rfl ?_
        refine AnC_takeP 3 (by kernel_rfl) rfl (by kernel_rfl) (by kernel_rfl) (by kernel_rfl) (fun _ _ _ h => h) (fun _ => hH) (fun x => run_as (run_field Try.underlying26 rfl inf23 (by decide) rfl) (show _ = Value.pointer (some ⟨gm, 7, none⟩) from rfl)) rfl ?_
        refine AnC_take 4 [11, 4] rfl (by kernel_rfl) (by kernel_rfl) (by kernel_rfl) (by kernel_rfl) (fun _ _ _ h => h) hH (fun x hx => run_load sc23 rfl (hx.choose_spec.blk_at 0 rfl 7 rfl)) rfl ?_
        refine AnC_takeP 5 (by kernel_rfl) rfl (by kernel_rfl) (by kernel_rfl) (by kernel_rfl) (fun _ _ _ h => h) (fun _ => hH) (fun x => run_move rfl) rfl ?_
        refine AnC_only 6 (by kernel_rfl) rfl ?_
        replace hs := hs.front 1 rfl
        simp only [List.cons_append, List.nil_append, List.eraseIdx_cons_zero, List.eraseIdx_cons_succ] at hs
        refine Ls_callP Try.func78 nm78 rfl rfl (number_c B w24 _ g Ar r.length cr r 18446744073709551615 4 hs hrr hbr (by omega) (by decide) (by decide)) rfl ?_ ?_
        rotate_left
        · skip
          rintro ch28 w29 ⟨e9, ht9, hne, rfl, hs⟩
          repeat (first | refine Jm_then_panic ?_ | refine Jm_block_panic ?_)
          replace hs := hs.front 1 rfl
          simp only [List.cons_append, List.nil_append, List.eraseIdx_cons_zero, List.eraseIdx_cons_succ] at hs
          replace hs := hs.front 1 rfl
          simp only [List.cons_append, List.nil_append, List.eraseIdx_cons_zero, List.eraseIdx_cons_succ] at hs
          replace hs := hs.erase 2
          simp only [List.cons_append, List.nil_append, List.eraseIdx_cons_zero, List.eraseIdx_cons_succ] at hs
          exact Jm_panic_end (.inr ⟨_, rfl, _, _, _, body2_k (by assumption) htr1 (by rw [← hkd]; exact keysD_e ht9 hne) hne, hne, rfl, rfl, hs⟩)
        rintro v26 w27 ⟨xk, r2, Ar2, cr2, rfl, htr2, hxr2, hbr2, hlr2, hrr2, hs⟩
        replace hs := hs.front 1 rfl
        simp only [List.cons_append, List.nil_append, List.eraseIdx_cons_zero, List.eraseIdx_cons_succ] at hs
        replace hH := Hold.of (Ls := [_]) hs
        refine Ls_nil (Jm_AnC (fun _ => hH) ?_)
        refine AnC_only 7 (by kernel_rfl) rfl ?_
        refine Ls_literal [_] hs Try.underlying23 inf38 rfl rfl rfl rfl rfl rfl ?_
        intro b30 w31 hs
        simp only [List.flatMap_cons, List.flatMap_nil, Value.cells, List.cons_append, List.nil_append] at hs
        replace hs := hs.front 1 rfl
        simp only [List.cons_append, List.nil_append, List.eraseIdx_cons_zero, List.eraseIdx_cons_succ] at hs
        replace hH := Hold.of (Ls := [_]) hs
        refine Ls_nil (Jm_AnC (fun _ => hH) ?_)
        refine AnC_only 8 (by kernel_rfl) rfl ?_
        replace hs := hs.front 3 rfl
        simp only [List.cons_append, List.nil_append, List.eraseIdx_cons_zero, List.eraseIdx_cons_succ] at hs
        refine Ls_append hs Try.underlying23 inf38 rfl (by decide) (by decide) rfl rfl (rd_block (hs.is_at 2 rfl).2 1 1 rfl) (by simp [Value.oneCell']) (by omega) rfl ?_
        intro A32 c33 w34 hs
        replace hs := hs.erase 2
        simp only [List.cons_append, List.nil_append, List.eraseIdx_cons_zero, List.eraseIdx_cons_succ] at hs
        replace hs := hs.front 1 rfl
        simp only [List.cons_append, List.nil_append, List.eraseIdx_cons_zero, List.eraseIdx_cons_succ] at hs
        replace hH := Hold.of (Ls := [_]) hs
        refine Ls_nil (Jm_AnC (fun _ => hH) ?_)
        refine AnC_takeP 9 (by kernel_rfl) rfl (by kernel_rfl) (by kernel_rfl) (by kernel_rfl) (fun _ _ _ h => h) (fun _ => hH) (fun x => run_nilCheck rfl) rfl ?_
        refine AnC_takeP 10 (by kernel_rfl) rfl (by kernel_rfl) (by kernel_rfl) (by kernel_rfl) (fun _ _ _ h => h) (fun _ => hH) (fun x => run_as (run_field Try.underlying26 rfl inf23 (by decide) rfl) (show _ = Value.pointer (some ⟨gm, 7, none⟩) from rfl)) rfl ?_
        refine AnC_only 11 (by kernel_rfl) rfl ?_
        refine Ls_store hs inf23 rfl rfl rfl rfl ?_
        intro w35 hs
        try simp only [List.set_cons_zero, List.set_cons_succ] at hs
        refine Ls_nil (Jm_AnC_closed (by kernel_rfl) ?_)
        refine AnC_done (by kernel_rfl) ?_
        refine Jm_block_normal (Jm_seq ?_)
        refine St_region ?_
        refine Ls_run (run_add rfl rfl (wu64 (by omega))) rfl ?_
        refine Ls_run (run_move rfl) rfl ?_
        refine Ls_nil ?_
        replace hs := hs.front 1 rfl
        simp only [List.cons_append, List.nil_append, List.eraseIdx_cons_zero, List.eraseIdx_cons_succ] at hs
        replace hs := hs.front 1 rfl
        simp only [List.cons_append, List.nil_append, List.eraseIdx_cons_zero, List.eraseIdx_cons_succ] at hs
        replace hs := hs.front 2 rfl
        simp only [List.cons_append, List.nil_append, List.eraseIdx_cons_zero, List.eraseIdx_cons_succ] at hs
        refine Jm_round (i + 1, Ar2, cr2, r2, (Value.slice A32 (m + 1) c33), m + 1, acc ++ [(xk : Int)]) ?_ ?_ ?_
        · rw [hEn19]; exact (subE_cons rfl (subE_cons rfl (subE_cons rfl (subE_cons rfl subE_nil))))
        · skip
          rw [hIv20]
          rw [← flatU_snoc]
          rw [keysD_ok htr2] at hkd
          exact ⟨hs, by omega, by omega, hbr2, hrr2, by omega, by rw [hk8]; exact hkd⟩
        · skip
          rw [hms21, hms21]
          omega
      · skip
        refine St_exit ?_
        refine Jm_then_exit (Jm_then_exit (Jm_block_same (Jm_block_normal  ?_)))
        refine Jm_end0 rfl ?_
        replace hs := hs.front 2 rfl
        simp only [List.cons_append, List.nil_append, List.eraseIdx_cons_zero, List.eraseIdx_cons_succ] at hs
        replace hs := hs.front 2 rfl
        simp only [List.cons_append, List.nil_append, List.eraseIdx_cons_zero, List.eraseIdx_cons_succ] at hs
        replace hs := hs.front 2 rfl
        simp only [List.cons_append, List.nil_append, List.eraseIdx_cons_zero, List.eraseIdx_cons_succ] at hs
        replace hs := hs.front 2 rfl
        simp only [List.cons_append, List.nil_append, List.eraseIdx_cons_zero, List.eraseIdx_cons_succ] at hs
        obtain ⟨A9, c9, hv9, _, _, _⟩ := hs.own_form
        subst hv9
        replace hs := hs.own_nil 3 1
        replace hs := hs.own_nil 42 3
        replace hs := hs.front 2 rfl
        simp only [List.cons_append, List.nil_append, List.eraseIdx_cons_zero, List.eraseIdx_cons_succ] at hs
        replace hs := hs.front 2 rfl
        simp only [List.cons_append, List.nil_append, List.eraseIdx_cons_zero, List.eraseIdx_cons_succ] at hs
        replace hs := hs.front 4 rfl
        simp only [List.cons_append, List.nil_append, List.eraseIdx_cons_zero, List.eraseIdx_cons_succ] at hs
        replace hs := hs.front 4 rfl
        simp only [List.cons_append, List.nil_append, List.eraseIdx_cons_zero, List.eraseIdx_cons_succ] at hs
        have hz : n1 - i = 0 := by omega
        rw [hz, keysD_z] at hkd
        exact .inl ⟨_, rfl, rfl, ⟨k, f0, t0, b0, a0, 0, [], acc, []⟩, ⟨none, 0, 0, A9, m, c9, none, 0, 0⟩, r, _, _, body2_ok (by assumption) htr1 hkd.symm, hbr, hlr, hrr, hs⟩
    · skip
      refine St_seq ?_
      refine St_region ?_
      refine Ls_run (run_eql rfl rfl) rfl ?_
      refine Ls_run (run_assign rfl) rfl ?_
      refine Ls_nil ?_
      refine Jm_seq ?_
      refine St_ifP rfl (fun h36 => ?_) (fun h36 => ?_)
      · skip
        refine St_seq ?_
        refine St_region ?_
        refine Ls_run (run_move rfl) rfl ?_
        refine Ls_callP Try.func78 nm78 rfl rfl (number_c B w _ g A n c l 64 6 hs hr hb (by omega) (by decide) (by decide)) rfl ?_ ?_
        rotate_left
        · skip
          rintro ch39 w40 ⟨e9, ht9, hne, rfl, hs⟩
          repeat (first | refine Jm_then_panic ?_ | refine Jm_block_panic ?_)
          replace hs := hs.front 1 rfl
          simp only [List.cons_append, List.nil_append, List.eraseIdx_cons_zero, List.eraseIdx_cons_succ] at hs
          replace hs := hs.front 1 rfl
          simp only [List.cons_append, List.nil_append, List.eraseIdx_cons_zero, List.eraseIdx_cons_succ] at hs
          exact Jm_panic_end (.inr ⟨_, rfl, _, _, _, body3_e (by assumption) ht9 hne, hne, rfl, rfl, hs⟩)
        rintro v37 w38 ⟨n1, r1, Ar1, cr1, rfl, htr1, hxr1, hbr1, hlr1, hrr1, hs⟩
        refine Ls_run (run_move rfl) rfl ?_
        refine Ls_nil ?_
        refine Jm_seq ?_
        refine St_block ?_
        replace hs := hs.own_nil 42 3
        replace hs := hs.front 2 rfl
        simp only [List.cons_append, List.nil_append, List.eraseIdx_cons_zero, List.eraseIdx_cons_succ] at hs
        replace hs := hs.front 2 rfl
        simp only [List.cons_append, List.nil_append, List.eraseIdx_cons_zero, List.eraseIdx_cons_succ] at hs
        obtain ⟨En41, hEn41⟩ : ∃ F : Nat × Option Addr × Nat × List Int × Value × Nat × List Pr → Env, ∀ (i : Nat) (Ar : Option Addr) (cr : Nat) (r : List Int) (v : Value) (m : Nat) (acc : List Pr), F (i, Ar, cr, r, v, m, acc) = [(0, .pointer (some ⟨g, 0, none⟩)), (1, .pointer (some ⟨gm, 0, none⟩)), (62, .int .u64 (n1 : Int)), (63, .int .u64 (i : Int))] := ⟨(fun (s : Nat × Option Addr × Nat × List Int × Value × Nat × List Pr) => match s with | (i, Ar, cr, r, v, m, acc) => [(0, .pointer (some ⟨g, 0, none⟩)), (1, .pointer (some ⟨gm, 0, none⟩)), (62, .int .u64 (n1 : Int)), (63, .int .u64 (i : Int))]), fun _ _ _ _ _ _ _ => rfl⟩
        obtain ⟨Iv42, hIv42⟩ : ∃ F : Nat × Option Addr × Nat × List Int × Value × Nat × List Pr → World → Prop, ∀ (i : Nat) (Ar : Option Addr) (cr : Nat) (r : List Int) (v : Value) (m : Nat) (acc : List Pr) (wq : World), F (i, Ar, cr, r, v, m, acc) wq = (Sat B wq (Blk g [.slice Ar r.length cr] 103 :: Blk gm [.int .i64 k, .int .i64 f0, .int .i64 t0, .int .i64 b0, .int .i64 a0, .int .i64 0, .slice none 0 0, .slice none 0 0, v] 26 :: Own 42 3 v m (KP.flat acc) :: L) ∧ i ≤ n1 ∧ m ≤ i ∧ IsBytes r ∧ Rd B Ar r.length cr 1 (bytesV r) ∧ r.length ≤ n ∧ pairsD (n1 - i) r acc = pairsD n1 r1 []) := ⟨(fun (s : Nat × Option Addr × Nat × List Int × Value × Nat × List Pr) => match s with | (i, Ar, cr, r, v, m, acc) => fun (wq : World) => Sat B wq (Blk g [.slice Ar r.length cr] 103 :: Blk gm [.int .i64 k, .int .i64 f0, .int .i64 t0, .int .i64 b0, .int .i64 a0, .int .i64 0, .slice none 0 0, .slice none 0 0, v] 26 :: Own 42 3 v m (KP.flat acc) :: L) ∧ i ≤ n1 ∧ m ≤ i ∧ IsBytes r ∧ Rd B Ar r.length cr 1 (bytesV r) ∧ r.length ≤ n ∧ pairsD (n1 - i) r acc = pairsD n1 r1 []), fun _ _ _ _ _ _ _ _ => rfl⟩
        obtain ⟨ms43, hms43⟩ : ∃ F : Nat × Option Addr × Nat × List Int × Value × Nat × List Pr → Nat, ∀ (i : Nat) (Ar : Option Addr) (cr : Nat) (r : List Int) (v : Value) (m : Nat) (acc : List Pr), F (i, Ar, cr, r, v, m, acc) = (n1 - i) := ⟨(fun (s : Nat × Option Addr × Nat × List Int × Value × Nat × List Pr) => match s with | (i, Ar, cr, r, v, m, acc) => n1 - i), fun _ _ _ _ _ _ _ => rfl⟩
        refine St_loop En41 Iv42 ms43 (0, Ar1, cr1, r1, Value.slice none 0 0, 0, []) ?_ ?_ ?_
        · skip
          rw [hIv42]
          exact ⟨hs, by omega, by omega, hbr1, hrr1, hlr1, rfl⟩
        · rw [hEn41]; exact (subE_cons rfl (subE_cons rfl (subE_cons rfl (subE_cons rfl subE_nil))))
        rintro ⟨i, Ar, cr, r, v, m, acc⟩ wq hI44
        rw [hIv42] at hI44
        obtain ⟨hs, hi, hmi, hbr, hrr, hlr, hkd⟩ := hI44
        refine St_eqE (hEn41 _ _ _ _ _ _ _) ?_
        refine St_seq ?_
        refine St_region ?_
        refine Ls_run (run_lss rfl rfl) rfl ?_
        refine Ls_nil ?_
        refine Jm_seq ?_
        refine St_seq ?_
        refine St_ifP rfl (fun h45 => ?_) (fun h45 => ?_)
        · skip
          refine St_skip ?_
          refine Jm_seq ?_
          refine St_seq ?_
          refine St_block ?_
          refine St_seq ?_
          refine St_region ?_
          obtain ⟨k9, hk9⟩ : ∃ k9, n1 - i = k9 + 1 := ⟨n1 - i - 1, by omega⟩
          have hk8 : n1 - (i + 1) = k9 := by omega
          rw [hk9] at hkd
          refine Ls_run (run_move rfl) rfl ?_
          refine Ls_callP Try.func78 nm78 rfl rfl (number_c B wq _ g Ar r.length cr r 18446744073709551615 4 hs hrr hbr (by omega) (by decide) (by decide)) rfl ?_ ?_
          rotate_left
          · skip
            rintro ch48 w49 ⟨e9, ht9, hne, rfl, hs⟩
            repeat (first | refine Jm_then_panic ?_ | refine Jm_block_panic ?_)
            replace hs := hs.front 1 rfl
            simp only [List.cons_append, List.nil_append, List.eraseIdx_cons_zero, List.eraseIdx_cons_succ] at hs
            replace hs := hs.front 1 rfl
            simp only [List.cons_append, List.nil_append, List.eraseIdx_cons_zero, List.eraseIdx_cons_succ] at hs
            replace hs := hs.erase 2
            simp only [List.cons_append, List.nil_append, List.eraseIdx_cons_zero, List.eraseIdx_cons_succ] at hs
            exact Jm_panic_end (.inr ⟨_, rfl, _, _, _, body3_k (by assumption) htr1 (by rw [← hkd]; exact pairsD_e ht9 hne) hne, hne, rfl, rfl, hs⟩)
          rintro v46 w47 ⟨xk, r3, Ar3, cr3, rfl, htr3, hxr3, hbr3, hlr3, hrr3, hs⟩
          refine Ls_run (run_assign rfl) rfl ?_
          refine Ls_nil ?_
          refine Jm_seq ?_
          refine St_seq ?_
          refine St_region ?_
          refine Ls_run (run_move rfl) rfl ?_
          refine Ls_run (run_nilCheck rfl) rfl ?_
          refine Ls_run (run_as (run_field Try.underlying103 rfl inf28 (by decide) rfl) (show _ = Value.pointer (some ⟨g, 0, none⟩) from rfl)) rfl ?_
          refine Ls_run (run_load sc28 rfl (hs.blk_at 0 rfl 0 rfl)) rfl ?_
          refine Ls_call Try.func113 nm113 rfl rfl (TakeWord_c w47 _ _ _ r3 (hrr3.inB hs) hbr3 (by omega)) rfl ?_
          rintro v50 w51 ⟨rfl, htw⟩
          obtain ⟨we, wx, hvw, hw3, hw0⟩ : ∃ (we : Int) (wx : Nat), v50 = Value.tuple #[.int .u64 (wx : Int), .int .i64 we] ∧ (we ≠ 0 → we = 3 ∧ r3.length < 8) ∧ (we = 0 → 8 ≤ r3.length ∧ wx = tw (r3.take 8)) := by
            rcases htw with ⟨h8, hv⟩ | ⟨h8, hv⟩
            · exact ⟨3, 0, by rw [hv]; rfl, fun _ => ⟨rfl, h8⟩, fun h => by omega⟩
            · exact ⟨0, _, hv, fun h => absurd rfl h, fun _ => ⟨h8, rfl⟩⟩
          subst hvw
          refine Ls_run (run_move rfl) rfl ?_
          refine Ls_run (run_extract rfl rfl) rfl ?_
          refine Ls_run (run_extract rfl rfl) rfl ?_
          refine Ls_run (run_assign rfl) rfl ?_
          refine Ls_run (run_assign rfl) rfl ?_
          refine Ls_nil ?_
          refine Jm_seq ?_
          refine St_seq ?_
          refine St_region ?_
          refine Ls_run (run_move rfl) rfl ?_
          refine Ls_callP Try.func79 nm79 rfl rfl (must_c w47 we) rfl ?_ ?_
          rotate_left
          · skip
            rintro ch54 w55 ⟨rfl, hne, rfl⟩
            repeat (first | refine Jm_then_panic ?_ | refine Jm_block_panic ?_)
            replace hs := hs.front 1 rfl
            simp only [List.cons_append, List.nil_append, List.eraseIdx_cons_zero, List.eraseIdx_cons_succ] at hs
            replace hs := hs.front 1 rfl
            simp only [List.cons_append, List.nil_append, List.eraseIdx_cons_zero, List.eraseIdx_cons_succ] at hs
            replace hs := hs.erase 2
            simp only [List.cons_append, List.nil_append, List.eraseIdx_cons_zero, List.eraseIdx_cons_succ] at hs
            exact Jm_panic_end (.inr ⟨_, rfl, _, _, _, body3_k (by assumption) htr1 (by rw [← hkd, (hw3 hne).1]; exact pairsD_3 htr3 (hw3 hne).2) hne, hne, rfl, rfl, hs⟩)
          rintro v52 w53 ⟨rfl, he0, rfl⟩
          obtain ⟨h8, rfl⟩ := hw0 he0
          have hd8 : (r3.drop 8).length = r3.length - 8 := by rw [List.length_drop]
          refine Ls_nil ?_
          refine Jm_seq ?_
          refine St_seq ?_
          refine St_region ?_
          refine Ls_run (run_move rfl) rfl ?_
          refine Ls_run (run_move rfl) rfl ?_
          refine Ls_run (run_nilCheck rfl) rfl ?_
          refine Ls_run (run_as (run_field Try.underlying103 rfl inf28 (by decide) rfl) (show _ = Value.pointer (some ⟨g, 0, none⟩) from rfl)) rfl ?_
          refine Ls_run (run_load sc28 rfl (hs.blk_at 0 rfl 0 rfl)) rfl ?_
          refine Ls_run (run_as (run_slice_l Try.underlying28 inf5 rfl rfl (by omega) (by omega)) (show _ = Value.slice (if cr3 = 8 then Ar3 else Ar3.map (·.add (8 * 1))) (r3.drop 8).length (cr3 - 8) from by rw [hd8]; rfl)) rfl ?_
          refine Ls_run (run_nilCheck rfl) rfl ?_
          refine Ls_run (run_as (run_field Try.underlying103 rfl inf28 (by decide) rfl) (show _ = Value.pointer (some ⟨g, 0, none⟩) from rfl)) rfl ?_
          refine Ls_store hs inf28 rfl rfl rfl rfl ?_
          intro w56 hs
          try simp only [List.set_cons_zero, List.set_cons_succ] at hs
          refine Ls_nil ?_
          refine Jm_seq ?_
          refine St_region ?_
          refine Ls_run (run_move rfl) rfl ?_
          refine Ls_run (run_move rfl) rfl ?_
          refine Ls_run (run_nilCheck rfl) rfl ?_
          refine Ls_run (run_as (run_field Try.underlying26 rfl inf24 (by decide) rfl) (show _ = Value.pointer (some ⟨gm, 8, none⟩) from rfl)) rfl ?_
          refine Ls_run (run_load sc24 rfl (hs.blk_at 1 rfl 8 rfl)) rfl ?_
          refine Ls_run (run_move rfl) rfl ?_
          refine Ls_run (run_move rfl) rfl ?_
          refine Ls_run (run_buildO (pv := [(0, _), (1, _)]) rfl (bld40_0_1 _ _)) rfl ?_
          refine Ls_run (run_buildO (pv := [(0, _), (1, _)]) rfl (bld42_0_1 _ _ _)) rfl ?_
          refine Ls_literal [_] hs Try.underlying24 inf42 rfl rfl rfl rfl rfl rfl ?_
          intro b57 w58 hs
          simp only [List.flatMap_cons, List.flatMap_nil, Value.cells, List.cons_append, List.nil_append] at hs
          replace hs := hs.front 3 rfl
          simp only [List.cons_append, List.nil_append, List.eraseIdx_cons_zero, List.eraseIdx_cons_succ] at hs
          refine Ls_append hs Try.underlying24 inf42 rfl (by decide) (by decide) rfl rfl (rd_block (hs.is_at 1 rfl).2 3 1 rfl) (by simp [KP, Value.oneCell']) (by omega) rfl ?_
          intro A59 c60 w61 hs
          replace hs := hs.erase 1
          simp only [List.cons_append, List.nil_append, List.eraseIdx_cons_zero, List.eraseIdx_cons_succ] at hs
          refine Ls_run (run_nilCheck rfl) rfl ?_
          refine Ls_run (run_as (run_field Try.underlying26 rfl inf24 (by decide) rfl) (show _ = Value.pointer (some ⟨gm, 8, none⟩) from rfl)) rfl ?_
          replace hs := hs.front 2 rfl
          simp only [List.cons_append, List.nil_append, List.eraseIdx_cons_zero, List.eraseIdx_cons_succ] at hs
          refine Ls_store hs inf24 rfl rfl rfl rfl ?_
          intro w62 hs
          try simp only [List.set_cons_zero, List.set_cons_succ] at hs
          refine Ls_nil ?_
          refine Jm_block_normal (Jm_seq ?_)
          refine St_region ?_
          refine Ls_run (run_add rfl rfl (wu64 (by omega))) rfl ?_
          refine Ls_run (run_move rfl) rfl ?_
          refine Ls_nil ?_
          replace hs := hs.front 1 rfl
          simp only [List.cons_append, List.nil_append, List.eraseIdx_cons_zero, List.eraseIdx_cons_succ] at hs
          replace hs := hs.front 1 rfl
          simp only [List.cons_append, List.nil_append, List.eraseIdx_cons_zero, List.eraseIdx_cons_succ] at hs
          replace hs := hs.front 2 rfl
          simp only [List.cons_append, List.nil_append, List.eraseIdx_cons_zero, List.eraseIdx_cons_succ] at hs
          refine Jm_round (i + 1, (if cr3 = 8 then Ar3 else Ar3.map (·.add (8 * 1))), (cr3 - 8), (r3.drop 8), (Value.slice A59 (m + 1) c60), m + 1, acc ++ [((xk : Int), true, (tw (r3.take 8) : Int))]) ?_ ?_ ?_
          · rw [hEn41]; exact (subE_cons rfl (subE_cons rfl (subE_cons rfl (subE_cons rfl subE_nil))))
          · skip
            rw [hIv42]
            rw [← flatKP_snoc]
            rw [pairsD_ok htr3 (by omega)] at hkd
            exact ⟨hs, by omega, by omega, hbr3.drop' 8, by rw [hd8]; exact rdB_drop hrr3 8 (by omega), by omega, by rw [hk8]; exact hkd⟩
          · skip
            rw [hms43, hms43]
            omega
        · skip
          refine St_exit ?_
          refine Jm_then_exit (Jm_then_exit (Jm_block_same (Jm_block_normal  ?_)))
          refine Jm_end0 rfl ?_
          replace hs := hs.front 2 rfl
          simp only [List.cons_append, List.nil_append, List.eraseIdx_cons_zero, List.eraseIdx_cons_succ] at hs
          replace hs := hs.front 2 rfl
          simp only [List.cons_append, List.nil_append, List.eraseIdx_cons_zero, List.eraseIdx_cons_succ] at hs
          replace hs := hs.front 2 rfl
          simp only [List.cons_append, List.nil_append, List.eraseIdx_cons_zero, List.eraseIdx_cons_succ] at hs
          replace hs := hs.front 2 rfl
          simp only [List.cons_append, List.nil_append, List.eraseIdx_cons_zero, List.eraseIdx_cons_succ] at hs
          obtain ⟨A9, c9, hv9, _, _, _⟩ := hs.own_form
          subst hv9
          replace hs := hs.own_nil 3 1
          replace hs := hs.own_nil 38 1
          replace hs := hs.front 2 rfl
          simp only [List.cons_append, List.nil_append, List.eraseIdx_cons_zero, List.eraseIdx_cons_succ] at hs
          replace hs := hs.front 1 rfl
          simp only [List.cons_append, List.nil_append, List.eraseIdx_cons_zero, List.eraseIdx_cons_succ] at hs
          replace hs := hs.front 2 rfl
          simp only [List.cons_append, List.nil_append, List.eraseIdx_cons_zero, List.eraseIdx_cons_succ] at hs
          replace hs := hs.front 4 rfl
          simp only [List.cons_append, List.nil_append, List.eraseIdx_cons_zero, List.eraseIdx_cons_succ] at hs
          replace hs := hs.front 4 rfl
          simp only [List.cons_append, List.nil_append, List.eraseIdx_cons_zero, List.eraseIdx_cons_succ] at hs
          have hz : n1 - i = 0 := by omega
          rw [hz] at hkd
          exact .inl ⟨_, rfl, rfl, ⟨k, f0, t0, b0, a0, 0, [], [], acc⟩, ⟨none, 0, 0, none, 0, 0, A9, m, c9⟩, r, _, _, body3_ok (by assumption) htr1 hkd.symm, hbr, hlr, hrr, hs⟩
      · skip
        refine St_seq ?_
        refine St_region ?_
        refine Ls_run (run_eql rfl rfl) rfl ?_
        refine Ls_run (run_assign rfl) rfl ?_
        refine Ls_nil ?_
        refine Jm_seq ?_
        refine St_ifP rfl (fun h63 => ?_) (fun h63 => ?_)
        · skip
          refine St_region ?_
          refine Ls_run (run_move rfl) rfl ?_
          refine Ls_run (run_move rfl) rfl ?_
          refine Ls_callP Try.func78 nm78 rfl rfl (number_c B w _ g A n c l 1099511627776 4 hs hr hb (by omega) (by decide) (by decide)) rfl ?_ ?_
          rotate_left
          · skip
            rintro ch66 w67 ⟨e9, ht9, hne, rfl, hs⟩
            repeat (first | refine Jm_then_panic ?_ | refine Jm_block_panic ?_)
            replace hs := hs.front 1 rfl
            simp only [List.cons_append, List.nil_append, List.eraseIdx_cons_zero, List.eraseIdx_cons_succ] at hs
            replace hs := hs.front 1 rfl
            simp only [List.cons_append, List.nil_append, List.eraseIdx_cons_zero, List.eraseIdx_cons_succ] at hs
            exact Jm_panic_end (.inr ⟨_, rfl, _, _, _, body4_e (by omega) (by omega) (by omega) ht9 hne, hne, rfl, rfl, hs⟩)
          rintro v64 w65 ⟨cx, r1, Ar1, cr1, rfl, htr1, hxr1, hbr1, hlr1, hrr1, hs⟩
          refine Ls_run (run_conv_int Try.underlying3 us38 rfl (w64 (by omega))) rfl ?_
          refine Ls_run (run_nilCheck rfl) rfl ?_
          refine Ls_run (run_as (run_field Try.underlying26 rfl inf3 (by decide) rfl) (show _ = Value.pointer (some ⟨gm, 5, none⟩) from rfl)) rfl ?_
          replace hs := hs.front 1 rfl
          simp only [List.cons_append, List.nil_append, List.eraseIdx_cons_zero, List.eraseIdx_cons_succ] at hs
          refine Ls_store hs inf3 rfl rfl rfl rfl ?_
          intro w68 hs
          try simp only [List.set_cons_zero, List.set_cons_succ] at hs
          refine Ls_nil ?_
          refine Jm_block_normal  ?_
          refine Jm_end0 rfl ?_
          replace hs := hs.front 1 rfl
          simp only [List.cons_append, List.nil_append, List.eraseIdx_cons_zero, List.eraseIdx_cons_succ] at hs
          replace hs := hs.own_nil 3 1
          replace hs := hs.own_nil 38 1
          replace hs := hs.own_nil 42 3
          replace hs := hs.front 1 rfl
          simp only [List.cons_append, List.nil_append, List.eraseIdx_cons_zero, List.eraseIdx_cons_succ] at hs
          replace hs := hs.front 2 rfl
          simp only [List.cons_append, List.nil_append, List.eraseIdx_cons_zero, List.eraseIdx_cons_succ] at hs
          replace hs := hs.front 4 rfl
          simp only [List.cons_append, List.nil_append, List.eraseIdx_cons_zero, List.eraseIdx_cons_succ] at hs
          replace hs := hs.front 4 rfl
          simp only [List.cons_append, List.nil_append, List.eraseIdx_cons_zero, List.eraseIdx_cons_succ] at hs
          exact .inl ⟨_, rfl, rfl, ⟨k, f0, t0, b0, a0, (cx : Int), [], [], []⟩, ⟨none, 0, 0, none, 0, 0, none, 0, 0⟩, r1, _, _, body4_ok (by assumption) (by assumption) (by assumption) htr1, hbr1, hlr1, hrr1, hs⟩
        · skip
          refine St_skip ?_
          refine Jm_block_normal  ?_
          refine Jm_end0 rfl ?_
          replace hs := hs.front 1 rfl
          simp only [List.cons_append, List.nil_append, List.eraseIdx_cons_zero, List.eraseIdx_cons_succ] at hs
          replace hs := hs.front 1 rfl
          simp only [List.cons_append, List.nil_append, List.eraseIdx_cons_zero, List.eraseIdx_cons_succ] at hs
          exfalso; omega
end Go.Proofs.Ytipkfdeiallifaa.Lg
