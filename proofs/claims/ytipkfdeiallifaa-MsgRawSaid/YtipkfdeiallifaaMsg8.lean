/-
  The reference's Decode, and the law MsgRaw, walked. By program (gen/msg8.py).
-/
import Derived.Test.YtipkfdeiallifaaMsg7
set_option linter.unusedVariables false
set_option linter.unusedSimpArgs false
namespace Go.Proofs.Ytipkfdeiallifaa.Lg
open Go Go.RowKit Go.Proofs.Ytipkfdeiallifaa.WirePure
theorem Jm_retCTT {P : Program} {fn : Func} {R : Ending → World → Prop} {n : Nat} {E : Env} {w : World} {t u s : Tmp} {ty b off size bytes : Nat} {zv x y : Value} {cs : List Value} (hr : fn.results = #[.cell t ty, .tmp u, .tmp s]) (ht : (∃ fs, P.underlying ty = some (.struct fs)) ∨ (∃ n e, P.underlying ty = some (.array n e))) (hi : Inf P ty zv size bytes) (hv : look E t = some (.pointer (some ⟨b, off, none⟩))) (hx : look E u = some x) (hy : look E s = some y)
    (hl : cs.length = size) (hc : ∀ j u, cs[j]? = some u → w.cell? ⟨b, off + j, none⟩ = some u) (h : R (.returned (.tuple #[.agg cs.toArray, x, y])) w) : Jm n [] E w .ret (bodyPost P fn R) := fun a ha =>
  ⟨ha.defers, _, by have h1 : a.tmps[t]?.getD undef = .pointer (some ⟨b, off, none⟩) := (by have := ha.tmp hv; simpa using this); have h3 : a.tmps[u]?.getD undef = x := (by have := ha.tmp hx; simpa using this); have h4 : a.tmps[s]?.getD undef = y := (by have := ha.tmp hy; simpa using this); have h2 := run_loadVar_agg ht hi hl hc; simp [results, hr, h1, h2, h3, h4, asAddr], h⟩
theorem tkd_err {l r : List Int} {m o e x : Int} (h : tkd l m o = (e, x, r)) (he : e ≠ 0) : x = 0 ∧ r = [] := by
  unfold tkd at h
  split at h
  · simp only [Prod.mk.injEq] at h; exact ⟨h.2.1.symm, h.2.2.symm⟩
  · split at h
    · simp only [Prod.mk.injEq] at h; exact ⟨h.2.1.symm, h.2.2.symm⟩
    · simp only [Prod.mk.injEq] at h; exact absurd h.1.symm he
theorem bodyD_err {x y : MC} {l r : List Int} {e : Int} (h : bodyD x l = (e, y, r)) (he : e ≠ 0) : y = x ∧ r = [] := by
  unfold bodyD at h
  simp only at h
  repeat' (first | split at h | (simp only [Prod.mk.injEq] at h; first | exact ⟨h.2.1.symm, h.2.2.symm⟩ | exact absurd h.1.symm he))
def ah (h : List Int) : List Value := (h ++ List.replicate (4 - h.length) 0).map fun z => Value.int .i64 z
theorem ah_len {h : List Int} {i : Nat} (hi : h.length = i) (h4 : i < 4) : Nat.blt i (ah h).length = true := by
  refine Nat.ble_eq_true_of_le ?_
  simp [ah]; omega
theorem ah_set {x : Int} {h : List Int} {i : Nat} (hi : h.length = i) (h4 : i < 4) : (ah h).set i (.int .i64 x) = ah (h ++ [x]) := by
  obtain ⟨j, hj⟩ : ∃ j, 4 - h.length = j + 1 := ⟨4 - h.length - 1, by omega⟩
  have hj' : 4 - (h ++ [x]).length = j := by simp; omega
  unfold ah
  rw [hj, hj', List.replicate_succ, List.map_append, List.map_cons, List.set_append_right _ _ (by simp; omega)]
  simp [hi]
set_option maxRecDepth 100000 in
set_option maxHeartbeats 1000000 in
theorem small_c (B w : World) (hBw : Sat B w []) (A : Option Addr) (n c : Nat) (l : List Int) (hr : Rd B A n c 1 (bytesV l)) (hb : IsBytes l) (hn : n ≤ 9223372036854775807) :
    Calls Try.prog 82 [.slice A n c].toArray w (Ret (fun v' w' => ∃ (e x : Int) (r : List Int) (A' : Option Addr) (c' : Nat), v' = .tuple #[.int .i64 x, .slice A' r.length c', .int .i64 e] ∧ tkd l 1099511627776 4 = (e, x, r) ∧ (0 ≤ x ∧ x ≤ 1099511627776) ∧ IsBytes r ∧ r.length ≤ n ∧ Rd B A' r.length c' 1 (bytesV r) ∧ Sat w w' [])) := by
  have hs := Sat.start w
  have hl : l.length = n := rdB_len hr
  refine Calls_body Try.func82 rfl rfl rfl (envE_cons (i := 0) (v := .slice A n c) rfl envE_nil) ?_
  refine St_seq ?_
  refine St_region ?_
  refine Ls_run (run_assign rfl) rfl ?_
  refine Ls_run (run_assign rfl) rfl ?_
  refine Ls_run (run_assign rfl) rfl ?_
  refine Ls_nil ?_
  refine Jm_seq ?_
  refine St_seq ?_
  refine St_region ?_
  refine Ls_run (run_move rfl) rfl ?_
  refine Ls_call Try.func81 nm81 rfl rfl (rTake_c w _ _ _ l ((hr.inB hBw).inB hs) hb hn) rfl ?_
  rintro v1 w2 ⟨rfl, rfl⟩
  obtain ⟨⟨xa, aa, ea⟩, htk⟩ : ∃ q, tk 0 0 l = q := ⟨_, rfl⟩
  rw [tkV_eq htk]
  refine Ls_run (run_move rfl) rfl ?_
  refine Ls_run (run_extract rfl rfl) rfl ?_
  refine Ls_run (run_extract rfl rfl) rfl ?_
  refine Ls_run (run_extract rfl rfl) rfl ?_
  refine Ls_run (run_assign rfl) rfl ?_
  refine Ls_run (run_assign rfl) rfl ?_
  refine Ls_run (run_assign rfl) rfl ?_
  refine Ls_nil ?_
  refine Jm_seq ?_
  refine St_seq ?_
  refine St_seq ?_
  refine St_region ?_
  refine Ls_run (run_move rfl) rfl ?_
  refine Ls_run (run_neq rfl rfl) rfl ?_
  refine Ls_nil ?_
  refine Jm_seq ?_
  refine St_ifP rfl (fun h3 => ?_) (fun h3 => ?_)
  · skip
    refine St_seq ?_
    refine St_region ?_
    refine Ls_run (run_move rfl) rfl ?_
    refine Ls_run (run_assign rfl) rfl ?_
    refine Ls_run (run_assign rfl) rfl ?_
    refine Ls_run (run_assign rfl) rfl ?_
    refine Ls_nil ?_
    refine Jm_seq ?_
    refine St_ret ?_
    refine Jm_then_ret  ?_
    refine Jm_ret3 rfl rfl rfl rfl ?_
    exact ⟨_, rfl, _, _, [], none, 0, rfl, tkd_e htk (by assumption), by omega, by simp [IsBytes], by simp, Rd.none _ 1, hs⟩
  · skip
    have e0 : ea = 0 := by omega
    subst e0
    have hrg := tk_range hb htk
    obtain ⟨xn, rfl⟩ : ∃ k : Nat, xa = (k : Int) := ⟨xa.toNat, by omega⟩
    obtain ⟨an, rfl⟩ : ∃ k : Nat, aa = (k : Int) := ⟨aa.toNat, by omega⟩
    have hdl : (l.drop an).length = l.length - an := by rw [List.length_drop]
    refine St_skip ?_
    refine Jm_seq ?_
    refine St_seq ?_
    refine St_seq ?_
    refine St_region ?_
    refine Ls_run (run_move rfl) rfl ?_
    refine Ls_run (run_gtr rfl rfl) rfl ?_
    refine Ls_nil ?_
    refine Jm_seq ?_
    refine St_ifP rfl (fun h4 => ?_) (fun h4 => ?_)
    · skip
      refine St_seq ?_
      refine St_region ?_
      refine Ls_run (run_assign rfl) rfl ?_
      refine Ls_run (run_assign rfl) rfl ?_
      refine Ls_run (run_assign rfl) rfl ?_
      refine Ls_nil ?_
      refine Jm_seq ?_
      refine St_ret ?_
      refine Jm_then_ret  ?_
      refine Jm_ret3 rfl rfl rfl rfl ?_
      exact ⟨_, rfl, _, _, [], none, 0, rfl, tkd_over htk (by assumption), by omega, by simp [IsBytes], by simp, Rd.none _ 1, hs⟩
    · skip
      refine St_skip ?_
      refine Jm_seq ?_
      refine St_seq ?_
      refine St_draw (fun x => Below w.heap.size w x) mixed ?_
      intro w5 q6
      have hH := q6.below
      replace hs := hs.quiet q6
      refine An_grow hH ?_
      replace hH := Below.refl w5.heap.size w5
      refine An_take 0 rfl (by kernel_rfl) (by kernel_rfl) (by kernel_rfl) (fun _ _ _ h => h) hH (fun x hx => run_move rfl) rfl ?_
      refine An_take 1 rfl (by kernel_rfl) (by kernel_rfl) (by kernel_rfl) (fun _ _ _ h => h) hH (fun x hx => run_conv_int Try.underlying3 us38 rfl (w64 (by omega))) rfl ?_
      refine An_take 2 rfl (by kernel_rfl) (by kernel_rfl) (by kernel_rfl) (fun _ _ _ h => h) hH (fun x hx => run_move rfl) rfl ?_
      refine An_take 3 rfl (by kernel_rfl) (by kernel_rfl) (by kernel_rfl) (fun _ _ _ h => h) hH (fun x hx => run_move rfl) rfl ?_
      refine An_take 4 rfl (by kernel_rfl) (by kernel_rfl) (by kernel_rfl) (fun _ _ _ h => h) hH (fun x hx => run_as (run_slice_l Try.underlying28 inf5 rfl rfl (by omega) (by omega)) (show _ = Value.slice (if c = an then A else A.map (·.add (an * 1))) (l.drop an).length (c - an) from by rw [hdl, hl]; rfl)) rfl ?_
      refine An_take 5 rfl (by kernel_rfl) (by kernel_rfl) (by kernel_rfl) (fun _ _ _ h => h) hH (fun x hx => run_assign rfl) rfl ?_
      refine An_take 6 rfl (by kernel_rfl) (by kernel_rfl) (by kernel_rfl) (fun _ _ _ h => h) hH (fun x hx => run_assign rfl) rfl ?_
      refine An_take 7 rfl (by kernel_rfl) (by kernel_rfl) (by kernel_rfl) (fun _ _ _ h => h) hH (fun x hx => run_assign rfl) rfl ?_
      refine An_done (by kernel_rfl) ?_
      refine Jm_seq ?_
      refine St_ret ?_
      refine Jm_ret3 rfl rfl rfl rfl ?_
      refine ⟨_, rfl, _, _, l.drop an, _, _, rfl, tkd_ok htk (by assumption), by omega, hb.drop' an, by omega, ?_, hs⟩
      rw [hdl, hl]
      exact rdB_drop hr an (by omega)
set_option maxRecDepth 100000 in
set_option maxHeartbeats 1000000 in
theorem many_c (B w : World) (hBw : Sat B w []) (A : Option Addr) (n c : Nat) (l : List Int) (hr : Rd B A n c 1 (bytesV l)) (hb : IsBytes l) (hn : n ≤ 9223372036854775807) :
    Calls Try.prog 115 [.slice A n c].toArray w (Ret (fun v' w' => ∃ (e x : Int) (r : List Int) (A' : Option Addr) (c' : Nat), v' = .tuple #[.int .i64 x, .slice A' r.length c', .int .i64 e] ∧ tkd l 64 6 = (e, x, r) ∧ (0 ≤ x ∧ x ≤ 64) ∧ IsBytes r ∧ r.length ≤ n ∧ Rd B A' r.length c' 1 (bytesV r) ∧ Sat w w' [])) := by
  have hs := Sat.start w
  have hl : l.length = n := rdB_len hr
  refine Calls_body Try.func115 rfl rfl rfl (envE_cons (i := 0) (v := .slice A n c) rfl envE_nil) ?_
  refine St_seq ?_
  refine St_region ?_
  refine Ls_run (run_assign rfl) rfl ?_
  refine Ls_run (run_assign rfl) rfl ?_
  refine Ls_run (run_assign rfl) rfl ?_
  refine Ls_nil ?_
  refine Jm_seq ?_
  refine St_seq ?_
  refine St_region ?_
  refine Ls_run (run_move rfl) rfl ?_
  refine Ls_call Try.func81 nm81 rfl rfl (rTake_c w _ _ _ l ((hr.inB hBw).inB hs) hb hn) rfl ?_
  rintro v1 w2 ⟨rfl, rfl⟩
  obtain ⟨⟨xa, aa, ea⟩, htk⟩ : ∃ q, tk 0 0 l = q := ⟨_, rfl⟩
  rw [tkV_eq htk]
  refine Ls_run (run_move rfl) rfl ?_
  refine Ls_run (run_extract rfl rfl) rfl ?_
  refine Ls_run (run_extract rfl rfl) rfl ?_
  refine Ls_run (run_extract rfl rfl) rfl ?_
  refine Ls_run (run_assign rfl) rfl ?_
  refine Ls_run (run_assign rfl) rfl ?_
  refine Ls_run (run_assign rfl) rfl ?_
  refine Ls_nil ?_
  refine Jm_seq ?_
  refine St_seq ?_
  refine St_seq ?_
  refine St_region ?_
  refine Ls_run (run_move rfl) rfl ?_
  refine Ls_run (run_neq rfl rfl) rfl ?_
  refine Ls_nil ?_
  refine Jm_seq ?_
  refine St_ifP rfl (fun h3 => ?_) (fun h3 => ?_)
  · skip
    refine St_seq ?_
    refine St_region ?_
    refine Ls_run (run_move rfl) rfl ?_
    refine Ls_run (run_assign rfl) rfl ?_
    refine Ls_run (run_assign rfl) rfl ?_
    refine Ls_run (run_assign rfl) rfl ?_
    refine Ls_nil ?_
    refine Jm_seq ?_
    refine St_ret ?_
    refine Jm_then_ret  ?_
    refine Jm_ret3 rfl rfl rfl rfl ?_
    exact ⟨_, rfl, _, _, [], none, 0, rfl, tkd_e htk (by assumption), by omega, by simp [IsBytes], by simp, Rd.none _ 1, hs⟩
  · skip
    have e0 : ea = 0 := by omega
    subst e0
    have hrg := tk_range hb htk
    obtain ⟨xn, rfl⟩ : ∃ k : Nat, xa = (k : Int) := ⟨xa.toNat, by omega⟩
    obtain ⟨an, rfl⟩ : ∃ k : Nat, aa = (k : Int) := ⟨aa.toNat, by omega⟩
    have hdl : (l.drop an).length = l.length - an := by rw [List.length_drop]
    refine St_skip ?_
    refine Jm_seq ?_
    refine St_seq ?_
    refine St_seq ?_
    refine St_region ?_
    refine Ls_run (run_move rfl) rfl ?_
    refine Ls_run (run_gtr rfl rfl) rfl ?_
    refine Ls_nil ?_
    refine Jm_seq ?_
    refine St_ifP rfl (fun h4 => ?_) (fun h4 => ?_)
    · skip
      refine St_seq ?_
      refine St_region ?_
      refine Ls_run (run_assign rfl) rfl ?_
      refine Ls_run (run_assign rfl) rfl ?_
      refine Ls_run (run_assign rfl) rfl ?_
      refine Ls_nil ?_
      refine Jm_seq ?_
      refine St_ret ?_
      refine Jm_then_ret  ?_
      refine Jm_ret3 rfl rfl rfl rfl ?_
      exact ⟨_, rfl, _, _, [], none, 0, rfl, tkd_over htk (by assumption), by omega, by simp [IsBytes], by simp, Rd.none _ 1, hs⟩
    · skip
      refine St_skip ?_
      refine Jm_seq ?_
      refine St_seq ?_
      refine St_draw (fun x => Below w.heap.size w x) mixed ?_
      intro w5 q6
      have hH := q6.below
      replace hs := hs.quiet q6
      refine An_grow hH ?_
      replace hH := Below.refl w5.heap.size w5
      refine An_take 0 rfl (by kernel_rfl) (by kernel_rfl) (by kernel_rfl) (fun _ _ _ h => h) hH (fun x hx => run_move rfl) rfl ?_
      refine An_take 1 rfl (by kernel_rfl) (by kernel_rfl) (by kernel_rfl) (fun _ _ _ h => h) hH (fun x hx => run_conv_int Try.underlying3 us38 rfl (w64 (by omega))) rfl ?_
      refine An_take 2 rfl (by kernel_rfl) (by kernel_rfl) (by kernel_rfl) (fun _ _ _ h => h) hH (fun x hx => run_move rfl) rfl ?_
      refine An_take 3 rfl (by kernel_rfl) (by kernel_rfl) (by kernel_rfl) (fun _ _ _ h => h) hH (fun x hx => run_move rfl) rfl ?_
      refine An_take 4 rfl (by kernel_rfl) (by kernel_rfl) (by kernel_rfl) (fun _ _ _ h => h) hH (fun x hx => run_as (run_slice_l Try.underlying28 inf5 rfl rfl (by omega) (by omega)) (show _ = Value.slice (if c = an then A else A.map (·.add (an * 1))) (l.drop an).length (c - an) from by rw [hdl, hl]; rfl)) rfl ?_
      refine An_take 5 rfl (by kernel_rfl) (by kernel_rfl) (by kernel_rfl) (fun _ _ _ h => h) hH (fun x hx => run_assign rfl) rfl ?_
      refine An_take 6 rfl (by kernel_rfl) (by kernel_rfl) (by kernel_rfl) (fun _ _ _ h => h) hH (fun x hx => run_assign rfl) rfl ?_
      refine An_take 7 rfl (by kernel_rfl) (by kernel_rfl) (by kernel_rfl) (fun _ _ _ h => h) hH (fun x hx => run_assign rfl) rfl ?_
      refine An_done (by kernel_rfl) ?_
      refine Jm_seq ?_
      refine St_ret ?_
      refine Jm_ret3 rfl rfl rfl rfl ?_
      refine ⟨_, rfl, _, _, l.drop an, _, _, rfl, tkd_ok htk (by assumption), by omega, hb.drop' an, by omega, ?_, hs⟩
      rw [hdl, hl]
      exact rdB_drop hr an (by omega)
set_option maxRecDepth 100000 in
set_option maxHeartbeats 1000000 in
theorem rbody_c (w : World) (A : Option Addr) (n c : Nat) (l : List Int) (k f0 t0 b0 a0 : Int) (hr : Rd w A n c 1 (bytesV l)) (hb : IsBytes l) (hn : n ≤ 9223372036854775807) (hk0 : mof k ≠ 0) :
    Calls Try.prog 83 [.agg #[.int .i64 k, .int .i64 f0, .int .i64 t0, .int .i64 b0, .int .i64 a0, .int .i64 0, .slice none 0 0, .slice none 0 0, .slice none 0 0], .slice A n c].toArray w (Ret (fun v' w' => ∃ (us : List Value) (e : Int) (y : MC) (r : List Int) (A' : Option Addr) (c' : Nat), v' = .tuple #[.agg us.toArray, .slice A' r.length c', .int .i64 e] ∧ bodyD ⟨k, f0, t0, b0, a0, 0, [], [], []⟩ l = (e, y, r) ∧ us.length = 9 ∧ (∀ u ∈ us, u.oneCell' = true) ∧ IsBytes r ∧ r.length ≤ n ∧ Rd w A' r.length c' 1 (bytesV r) ∧ Sat w w' [] ∧ (e = 0 → ∃ p : MP, us = mcells y p ∧ Sat w w' [Own 3 1 (.slice p.eA p.en p.ec) p.en ((El.int .i64).flat y.es), Own 38 1 (.slice p.kA p.kn p.kc) p.kn ((El.int .u64).flat y.ks), Own 42 3 (.slice p.pA p.pn p.pc) p.pn (KP.flat y.ps)]))) := by
  have hs := Sat.start w
  have hl : l.length = n := rdB_len hr
  have hmr := mof_range k
  refine Calls_body Try.func83 rfl rfl rfl (envE_cons (i := 0) (v := .agg #[.int .i64 k, .int .i64 f0, .int .i64 t0, .int .i64 b0, .int .i64 a0, .int .i64 0, .slice none 0 0, .slice none 0 0, .slice none 0 0]) rfl (envE_cons (i := 1) (v := .slice A n c) rfl envE_nil)) ?_
  refine St_seq ?_
  refine St_region ?_
  refine Ls_box hs rfl rfl ?_
  intro b2 w1 hs
  refine Ls_alloc hs inf26 rfl ?_
  intro b4 w3 hs
  refine Ls_run (run_assign rfl) rfl ?_
  refine Ls_run (run_assign rfl) rfl ?_
  refine Ls_nil ?_
  refine Jm_seq ?_
  refine St_seq ?_
  refine St_region ?_
  refine Ls_run (run_as (run_field Try.underlying26 rfl inf3 (by decide) rfl) (show _ = Value.pointer (some ⟨b2, 0, none⟩) from rfl)) rfl ?_
  refine Ls_run (run_load sc3 rfl (hs.blk_at 1 rfl 0 rfl)) rfl ?_
  refine Ls_call Try.func68 nm68 rfl rfl (Field_c w3 k) rfl ?_
  rintro v5 w6 ⟨rfl, rfl⟩
  refine Ls_run (run_assign rfl) rfl ?_
  refine Ls_nil ?_
  refine Jm_seq ?_
  refine St_seq ?_
  refine St_seq ?_
  refine St_region ?_
  refine Ls_run (run_move rfl) rfl ?_
  refine Ls_run (run_eql rfl rfl) rfl ?_
  refine Ls_nil ?_
  refine Jm_seq ?_
  refine St_ifP rfl (fun h7 => ?_) (fun h7 => ?_)
  · skip
    refine St_seq ?_
    refine St_region ?_
    refine Ls_run (run_move rfl) rfl ?_
    refine Ls_call Try.func114 nm114 rfl rfl (rTakeNums_c w3 _ _ _ l 4 (hr.inB hs) hb (by omega) (by decide)) rfl ?_
    rintro v8 w9 ⟨Ae, ce, rfl, hsN⟩
    replace hs := hs.trans hsN
    simp only [List.nil_append, List.cons_append] at hs
    refine Ls_run (run_move rfl) rfl ?_
    refine Ls_run (run_extract rfl rfl) rfl ?_
    refine Ls_run (run_extract rfl rfl) rfl ?_
    refine Ls_run (run_extract rfl rfl) rfl ?_
    refine Ls_run (run_assign rfl) rfl ?_
    refine Ls_run (run_assign rfl) rfl ?_
    refine Ls_run (run_assign rfl) rfl ?_
    refine Ls_nil ?_
    refine Jm_seq ?_
    refine St_seq ?_
    refine St_seq ?_
    refine St_region ?_
    refine Ls_run (run_move rfl) rfl ?_
    refine Ls_run (run_neq rfl rfl) rfl ?_
    refine Ls_nil ?_
    refine Jm_seq ?_
    refine St_ifP rfl (fun h10 => ?_) (fun h10 => ?_)
    · skip
      refine St_seq ?_
      refine St_region ?_
      refine Ls_run (run_load_agg agg26 inf26 rfl rfl (hs.blk_cells 2 rfl 0 9)) rfl ?_
      refine Ls_run (run_move rfl) rfl ?_
      replace hs := hs.front 1 rfl
      simp only [List.cons_append, List.nil_append, List.eraseIdx_cons_zero, List.eraseIdx_cons_succ] at hs
      refine Ls_storeAgg hs inf26 rfl rfl rfl rfl (by simp [KP, Value.oneCell', Value.cells]) ?_
      intro w11 hs
      refine Ls_run (run_assign rfl) rfl ?_
      refine Ls_run (run_assign rfl) rfl ?_
      refine Ls_nil ?_
      refine Jm_seq ?_
      refine St_ret ?_
      refine Jm_then_ret (Jm_then_ret  ?_)
      refine Jm_retCTT rfl agg26 inf26 rfl rfl rfl rfl (hs.blk_cells 0 rfl 0 9) ?_
      exact ⟨_, rfl, _, _, _, [], none, 0, rfl, body1_e (by assumption) (by assumption), rfl, by simp [Value.oneCell', Value.cells], by simp [IsBytes], by simp, Rd.none _ 1, hs.forget, fun q => absurd q (by omega)⟩
    · skip
      have he0 : (tnum l 4).2.2 = 0 := by omega
      have htn := tnum_at (most := 4) hb he0
      obtain ⟨u, hu⟩ : ∃ u : Nat, (tnum l 4).2.1 = (u : Int) := ⟨(tnum l 4).2.1.toNat, by omega⟩
      have hdl : (l.drop u).length = n - u := by rw [List.length_drop, hl]
      refine St_skip ?_
      refine Jm_seq ?_
      refine St_seq ?_
      refine St_region ?_
      refine Ls_run (run_move rfl) rfl ?_
      refine Ls_run (run_as (run_field Try.underlying26 rfl inf22 (by decide) rfl) (show _ = Value.pointer (some ⟨b2, 6, none⟩) from rfl)) rfl ?_
      replace hs := hs.front 2 rfl
      simp only [List.cons_append, List.nil_append, List.eraseIdx_cons_zero, List.eraseIdx_cons_succ] at hs
      refine Ls_store hs inf22 rfl rfl rfl rfl ?_
      intro w12 hs
      try simp only [List.set_cons_zero, List.set_cons_succ] at hs
      refine Ls_nil ?_
      refine Jm_seq ?_
      refine St_seq ?_
      refine St_holdC 4 (Hold.of (Ls := [_]) hs) mixed ?_
      intro w13 q14
      replace hs := hs.quiet q14
      have hH := Hold.of (Ls := [_]) hs
      refine AnC_take 0 [4, 0] rfl (by kernel_rfl) (by kernel_rfl) (by kernel_rfl) (by kernel_rfl) (fun _ _ _ h => h) hH (fun x hx => run_load_agg agg26 inf26 rfl rfl (hx.choose_spec.blk_cells 0 rfl 0 9)) rfl ?_
      refine AnC_takeP 1 (by kernel_rfl) rfl (by kernel_rfl) (by kernel_rfl) (by kernel_rfl) (fun _ _ _ h => h) (fun _ => hH) (fun x => run_move rfl) rfl ?_
      refine AnC_takeP 2 (by kernel_rfl) rfl (by kernel_rfl) (by kernel_rfl) (by kernel_rfl) (fun _ _ _ h => h) (fun _ => hH) (fun x => run_as (run_move rfl) (show _ = Value.int .i64 (u : Int) from by rw [hu])) rfl ?_
      refine AnC_takeP 3 (by kernel_rfl) rfl (by kernel_rfl) (by kernel_rfl) (by kernel_rfl) (fun _ _ _ h => h) (fun _ => hH) (fun x => run_as (run_slice_l Try.underlying28 inf5 rfl rfl (by omega) (by omega)) (show _ = Value.slice (if c = u then A else A.map (·.add (u * 1))) (l.drop u).length (c - u) from by rw [hdl]; rfl)) rfl ?_
      refine AnC_only 4 (by kernel_rfl) rfl ?_
      replace hs := hs.front 2 rfl
      simp only [List.cons_append, List.nil_append, List.eraseIdx_cons_zero, List.eraseIdx_cons_succ] at hs
      refine Ls_storeAgg hs inf26 rfl rfl rfl rfl (by simp [KP, Value.oneCell', Value.cells]) ?_
      intro w15 hs
      refine Ls_nil (Jm_AnC_closed (by kernel_rfl) ?_)
      refine AnC_switch (H' := fun _ => True) 7 (by kernel_rfl) ?_
      replace hH := trivial
      refine AnC_takeP 5 (by kernel_rfl) rfl (by kernel_rfl) (by kernel_rfl) (by kernel_rfl) (fun _ _ _ h => h) (fun _ => hH) (fun x => run_assign rfl) rfl ?_
      refine AnC_takeP 6 (by kernel_rfl) rfl (by kernel_rfl) (by kernel_rfl) (by kernel_rfl) (fun _ _ _ h => h) (fun _ => hH) (fun x => run_assign rfl) rfl ?_
      refine AnC_done (by kernel_rfl) ?_
      refine Jm_seq ?_
      refine St_ret ?_
      refine Jm_then_ret  ?_
      refine Jm_retCTT rfl agg26 inf26 rfl rfl rfl rfl (hs.blk_cells 0 rfl 0 9) ?_
      replace hs := hs.erase 0
      simp only [List.cons_append, List.nil_append, List.eraseIdx_cons_zero, List.eraseIdx_cons_succ] at hs
      replace hs := hs.erase 0
      simp only [List.cons_append, List.nil_append, List.eraseIdx_cons_zero, List.eraseIdx_cons_succ] at hs
      replace hs := hs.own_nil 38 1
      replace hs := hs.own_nil 42 3
      replace hs := hs.front 1 rfl
      simp only [List.cons_append, List.nil_append, List.eraseIdx_cons_zero, List.eraseIdx_cons_succ] at hs
      replace hs := hs.front 2 rfl
      simp only [List.cons_append, List.nil_append, List.eraseIdx_cons_zero, List.eraseIdx_cons_succ] at hs
      refine ⟨_, rfl, _, _, ⟨k, f0, t0, b0, a0, 0, (tnum l 4).1, [], []⟩, l.drop u, _, _, rfl, by rw [body1_ok (by assumption) he0, hu]; rfl, rfl, by simp [Value.oneCell', Value.cells], hb.drop' u, by omega, ?_, hs.forget, fun _ => ⟨⟨Ae, (tnum l 4).1.length, ce, none, 0, 0, none, 0, 0⟩, rfl, hs⟩⟩
      rw [hdl]
      exact rdB_drop hr u (by omega)
  · skip
    refine St_skip ?_
    refine Jm_seq ?_
    refine St_seq ?_
    refine St_seq ?_
    refine St_region ?_
    refine Ls_run (run_move rfl) rfl ?_
    refine Ls_run (run_eql rfl rfl) rfl ?_
    refine Ls_nil ?_
    refine Jm_seq ?_
    refine St_ifP rfl (fun h16 => ?_) (fun h16 => ?_)
    · skip
      refine St_seq ?_
      refine St_region ?_
      refine Ls_run (run_move rfl) rfl ?_
      refine Ls_call Try.func82 nm82 rfl rfl (small_c w w3 hs.forget _ _ _ l hr hb hn) rfl ?_
      rintro v17 w18 ⟨es, xs, rs, Ars, crs, rfl, hts, hxs, hbs, hls, hrs, hsM⟩
      replace hs := hs.trans hsM
      simp only [List.nil_append, List.cons_append] at hs
      refine Ls_run (run_move rfl) rfl ?_
      refine Ls_run (run_extract rfl rfl) rfl ?_
      refine Ls_run (run_extract rfl rfl) rfl ?_
      refine Ls_run (run_extract rfl rfl) rfl ?_
      refine Ls_run (run_assign rfl) rfl ?_
      refine Ls_run (run_assign rfl) rfl ?_
      refine Ls_run (run_assign rfl) rfl ?_
      refine Ls_nil ?_
      refine Jm_seq ?_
      refine St_seq ?_
      refine St_region ?_
      refine Ls_run (run_move rfl) rfl ?_
      refine Ls_run (run_as (run_field Try.underlying26 rfl inf3 (by decide) rfl) (show _ = Value.pointer (some ⟨b2, 5, none⟩) from rfl)) rfl ?_
      replace hs := hs.front 1 rfl
      simp only [List.cons_append, List.nil_append, List.eraseIdx_cons_zero, List.eraseIdx_cons_succ] at hs
      refine Ls_store hs inf3 rfl rfl rfl rfl ?_
      intro w19 hs
      try simp only [List.set_cons_zero, List.set_cons_succ] at hs
      refine Ls_nil ?_
      refine Jm_seq ?_
      refine St_seq ?_
      refine St_region ?_
      refine Ls_run (run_load_agg agg26 inf26 rfl rfl (hs.blk_cells 0 rfl 0 9)) rfl ?_
      refine Ls_run (run_move rfl) rfl ?_
      refine Ls_run (run_move rfl) rfl ?_
      replace hs := hs.front 1 rfl
      simp only [List.cons_append, List.nil_append, List.eraseIdx_cons_zero, List.eraseIdx_cons_succ] at hs
      refine Ls_storeAgg hs inf26 rfl rfl rfl rfl (by simp [KP, Value.oneCell', Value.cells]) ?_
      intro w20 hs
      refine Ls_run (run_assign rfl) rfl ?_
      refine Ls_run (run_assign rfl) rfl ?_
      refine Ls_nil ?_
      refine Jm_seq ?_
      refine St_ret ?_
      refine Jm_then_ret  ?_
      refine Jm_retCTT rfl agg26 inf26 rfl rfl rfl rfl (hs.blk_cells 0 rfl 0 9) ?_
      by_cases he9 : es = 0
      · subst he9
        replace hs := hs.erase 0
        simp only [List.cons_append, List.nil_append, List.eraseIdx_cons_zero, List.eraseIdx_cons_succ] at hs
        replace hs := hs.erase 0
        simp only [List.cons_append, List.nil_append, List.eraseIdx_cons_zero, List.eraseIdx_cons_succ] at hs
        replace hs := hs.own_nil 3 1
        replace hs := hs.own_nil 38 1
        replace hs := hs.own_nil 42 3
        replace hs := hs.front 1 rfl
        simp only [List.cons_append, List.nil_append, List.eraseIdx_cons_zero, List.eraseIdx_cons_succ] at hs
        replace hs := hs.front 2 rfl
        simp only [List.cons_append, List.nil_append, List.eraseIdx_cons_zero, List.eraseIdx_cons_succ] at hs
        exact ⟨_, rfl, _, _, ⟨k, f0, t0, b0, a0, xs, [], [], []⟩, rs, _, _, rfl, body4_ok (show mof k ≠ 1 by omega) (show mof k ≠ 2 by omega) (show mof k ≠ 3 by omega) hts, rfl, by simp [Value.oneCell', Value.cells], hbs, hls, hrs, hs.forget, fun _ => ⟨⟨none, 0, 0, none, 0, 0, none, 0, 0⟩, rfl, hs⟩⟩
      · have hz := tkd_err hts he9
        obtain ⟨rfl, rfl⟩ := hz
        exact ⟨_, rfl, _, _, _, [], Ars, crs, rfl, body4_e (show mof k ≠ 1 by omega) (show mof k ≠ 2 by omega) (show mof k ≠ 3 by omega) hts he9, rfl, by simp [Value.oneCell', Value.cells], hbs, by omega, hrs, hs.forget, fun q => absurd q he9⟩
    · skip
      refine St_skip ?_
      refine Jm_seq ?_
      refine St_seq ?_
      refine St_region ?_
      refine Ls_run (run_move rfl) rfl ?_
      refine Ls_call Try.func115 nm115 rfl rfl (many_c w w3 hs.forget _ _ _ l hr hb hn) rfl ?_
      rintro v21 w22 ⟨em, xm, rm, Arm, crm, rfl, htm, hxm, hbm, hlm, hrm, hsM⟩
      replace hs := hs.trans hsM
      simp only [List.nil_append, List.cons_append] at hs
      refine Ls_run (run_move rfl) rfl ?_
      refine Ls_run (run_extract rfl rfl) rfl ?_
      refine Ls_run (run_extract rfl rfl) rfl ?_
      refine Ls_run (run_extract rfl rfl) rfl ?_
      refine Ls_run (run_assign rfl) rfl ?_
      refine Ls_run (run_assign rfl) rfl ?_
      refine Ls_run (run_assign rfl) rfl ?_
      refine Ls_nil ?_
      refine Jm_seq ?_
      refine St_seq ?_
      refine St_seq ?_
      refine St_region ?_
      refine Ls_run (run_move rfl) rfl ?_
      refine Ls_run (run_neq rfl rfl) rfl ?_
      refine Ls_nil ?_
      refine Jm_seq ?_
      refine St_ifP rfl (fun h23 => ?_) (fun h23 => ?_)
      · skip
        refine St_seq ?_
        refine St_region ?_
        refine Ls_run (run_load_agg agg26 inf26 rfl rfl (hs.blk_cells 1 rfl 0 9)) rfl ?_
        refine Ls_run (run_move rfl) rfl ?_
        refine Ls_storeAgg hs inf26 rfl rfl rfl rfl (by simp [KP, Value.oneCell', Value.cells]) ?_
        intro w24 hs
        refine Ls_run (run_assign rfl) rfl ?_
        refine Ls_run (run_assign rfl) rfl ?_
        refine Ls_nil ?_
        refine Jm_seq ?_
        refine St_ret ?_
        refine Jm_then_ret  ?_
        refine Jm_retCTT rfl agg26 inf26 rfl rfl rfl rfl (hs.blk_cells 0 rfl 0 9) ?_
        obtain ⟨rfl, rfl⟩ := tkd_err htm (by assumption)
        have h23 : mof k = 2 ∨ mof k = 3 := by omega
        rcases h23 with h2 | h3
        · exact ⟨_, rfl, _, _, _, [], none, 0, rfl, body2_e h2 htm (by assumption), rfl, by simp [Value.oneCell', Value.cells], by simp [IsBytes], by simp, Rd.none _ 1, hs.forget, fun q => absurd q (by omega)⟩
        · exact ⟨_, rfl, _, _, _, [], none, 0, rfl, body3_e h3 htm (by assumption), rfl, by simp [Value.oneCell', Value.cells], by simp [IsBytes], by simp, Rd.none _ 1, hs.forget, fun q => absurd q (by omega)⟩
      · skip
        refine St_skip ?_
        refine Jm_seq ?_
        refine St_seq ?_
        refine St_seq ?_
        refine St_region ?_
        refine Ls_run (run_assign rfl) rfl ?_
        refine Ls_nil ?_
        refine Jm_seq ?_
        refine St_block ?_
        replace hs := (hs.own_nil 38 1).own_nil 42 3
        replace hs := hs.front 1 rfl
        simp only [List.cons_append, List.nil_append, List.eraseIdx_cons_zero, List.eraseIdx_cons_succ] at hs
        replace hs := hs.front 2 rfl
        simp only [List.cons_append, List.nil_append, List.eraseIdx_cons_zero, List.eraseIdx_cons_succ] at hs
        replace hs := hs.front 3 rfl
        simp only [List.cons_append, List.nil_append, List.eraseIdx_cons_zero, List.eraseIdx_cons_succ] at hs
        obtain ⟨n1, rfl⟩ : ∃ k : Nat, xm = (k : Int) := ⟨xm.toNat, by omega⟩
        have hem : em = 0 := by omega
        subst hem
        obtain ⟨En25, hEn25⟩ : ∃ F : Nat × Option Addr × Nat × List Int × Value × Nat × List Int × Value × Nat × List Pr → Env, ∀ (i : Nat) (Ar : Option Addr) (cr : Nat) (r : List Int) (vk : Value) (mk : Nat) (ka : List Int) (vp : Value) (mp : Nat) (pa : List Pr), F (i, Ar, cr, r, vk, mk, ka, vp, mp, pa) = [(2, .pointer (some ⟨b2, 0, none⟩)), (4, .pointer (some ⟨b4, 0, none⟩)), (7, .int .i64 (mof k)), (14, .int .i64 (n1 : Int)), (1, .slice Ar r.length cr), (16, .int .i64 (i : Int))] := ⟨(fun (s : Nat × Option Addr × Nat × List Int × Value × Nat × List Int × Value × Nat × List Pr) => match s with | (i, Ar, cr, r, vk, mk, ka, vp, mp, pa) => [(2, .pointer (some ⟨b2, 0, none⟩)), (4, .pointer (some ⟨b4, 0, none⟩)), (7, .int .i64 (mof k)), (14, .int .i64 (n1 : Int)), (1, .slice Ar r.length cr), (16, .int .i64 (i : Int))]), fun _ _ _ _ _ _ _ _ _ _ => rfl⟩
        obtain ⟨Iv26, hIv26⟩ : ∃ F : Nat × Option Addr × Nat × List Int × Value × Nat × List Int × Value × Nat × List Pr → World → Prop, ∀ (i : Nat) (Ar : Option Addr) (cr : Nat) (r : List Int) (vk : Value) (mk : Nat) (ka : List Int) (vp : Value) (mp : Nat) (pa : List Pr) (wq : World), F (i, Ar, cr, r, vk, mk, ka, vp, mp, pa) wq = (Sat w wq [Blk b2 [.int .i64 k, .int .i64 f0, .int .i64 t0, .int .i64 b0, .int .i64 a0, .int .i64 0, .slice none 0 0, vk, vp] 26, Blk b4 [.int .i64 0, .int .i64 0, .int .i64 0, .int .i64 0, .int .i64 0, .int .i64 0, .slice none 0 0, .slice none 0 0, .slice none 0 0] 26, Own 38 1 vk mk ((El.int .u64).flat ka), Own 42 3 vp mp (KP.flat pa)] ∧ i ≤ n1 ∧ mk ≤ i ∧ mp ≤ i ∧ IsBytes r ∧ Rd w Ar r.length cr 1 (bytesV r) ∧ r.length ≤ n ∧ (mof k = 2 → keysD (n1 - i) r ka = keysD n1 rm [] ∧ pa = []) ∧ (mof k = 3 → pairsD (n1 - i) r pa = pairsD n1 rm [] ∧ ka = [])) := ⟨(fun (s : Nat × Option Addr × Nat × List Int × Value × Nat × List Int × Value × Nat × List Pr) => match s with | (i, Ar, cr, r, vk, mk, ka, vp, mp, pa) => fun (wq : World) => Sat w wq [Blk b2 [.int .i64 k, .int .i64 f0, .int .i64 t0, .int .i64 b0, .int .i64 a0, .int .i64 0, .slice none 0 0, vk, vp] 26, Blk b4 [.int .i64 0, .int .i64 0, .int .i64 0, .int .i64 0, .int .i64 0, .int .i64 0, .slice none 0 0, .slice none 0 0, .slice none 0 0] 26, Own 38 1 vk mk ((El.int .u64).flat ka), Own 42 3 vp mp (KP.flat pa)] ∧ i ≤ n1 ∧ mk ≤ i ∧ mp ≤ i ∧ IsBytes r ∧ Rd w Ar r.length cr 1 (bytesV r) ∧ r.length ≤ n ∧ (mof k = 2 → keysD (n1 - i) r ka = keysD n1 rm [] ∧ pa = []) ∧ (mof k = 3 → pairsD (n1 - i) r pa = pairsD n1 rm [] ∧ ka = [])), fun _ _ _ _ _ _ _ _ _ _ _ => rfl⟩
        obtain ⟨ms27, hms27⟩ : ∃ F : Nat × Option Addr × Nat × List Int × Value × Nat × List Int × Value × Nat × List Pr → Nat, ∀ (i : Nat) (Ar : Option Addr) (cr : Nat) (r : List Int) (vk : Value) (mk : Nat) (ka : List Int) (vp : Value) (mp : Nat) (pa : List Pr), F (i, Ar, cr, r, vk, mk, ka, vp, mp, pa) = (n1 - i) := ⟨(fun (s : Nat × Option Addr × Nat × List Int × Value × Nat × List Int × Value × Nat × List Pr) => match s with | (i, Ar, cr, r, vk, mk, ka, vp, mp, pa) => n1 - i), fun _ _ _ _ _ _ _ _ _ _ => rfl⟩
        refine St_loop En25 Iv26 ms27 (0, Arm, crm, rm, Value.slice none 0 0, 0, [], Value.slice none 0 0, 0, []) ?_ ?_ ?_
        · skip
          rw [hIv26]
          exact ⟨hs, by omega, by omega, by omega, hbm, hrm, hlm, fun _ => ⟨rfl, rfl⟩, fun _ => ⟨rfl, rfl⟩⟩
        · rw [hEn25]; exact (subE_cons rfl (subE_cons rfl (subE_cons rfl (subE_cons rfl (subE_cons rfl (subE_cons rfl subE_nil))))))
        rintro ⟨i, Ar, cr, r, vk, mk, ka, vp, mp, pa⟩ wq hI28
        rw [hIv26] at hI28
        obtain ⟨hs, hi, hmk, hmp, hbr, hrr, hlr, hk2, hk3⟩ := hI28
        refine St_eqE (hEn25 _ _ _ _ _ _ _ _ _ _) ?_
        obtain ⟨Avk, cvk, hvk9, _, _, _⟩ := (hs.front 2 rfl).own_form
        obtain ⟨Avp, cvp, hvp9, _, _, _⟩ := (hs.front 3 rfl).own_form
        subst hvk9
        subst hvp9
        refine St_seq ?_
        refine St_seq ?_
        refine St_region ?_
        refine Ls_run (run_move rfl) rfl ?_
        refine Ls_run (run_move rfl) rfl ?_
        refine Ls_run (run_lss rfl rfl) rfl ?_
        refine Ls_nil ?_
        refine Jm_seq ?_
        refine St_ifP rfl (fun h29 => ?_) (fun h29 => ?_)
        · skip
          refine St_skip ?_
          refine Jm_seq ?_
          refine St_seq ?_
          refine St_block ?_
          refine St_seq ?_
          refine St_region ?_
          refine Ls_run (run_move rfl) rfl ?_
          refine Ls_call Try.func81 nm81 rfl rfl (rTake_c wq _ _ _ r (hrr.inB hs) hbr (by omega)) rfl ?_
          rintro v30 w31 ⟨rfl, rfl⟩
          obtain ⟨⟨xa, aa, ea⟩, htk⟩ : ∃ q, tk 0 0 r = q := ⟨_, rfl⟩
          rw [tkV_eq htk]
          refine Ls_run (run_move rfl) rfl ?_
          refine Ls_run (run_extract rfl rfl) rfl ?_
          refine Ls_run (run_extract rfl rfl) rfl ?_
          refine Ls_run (run_extract rfl rfl) rfl ?_
          refine Ls_run (run_assign rfl) rfl ?_
          refine Ls_run (run_assign rfl) rfl ?_
          refine Ls_run (run_assign rfl) rfl ?_
          refine Ls_nil ?_
          refine Jm_seq ?_
          refine St_seq ?_
          refine St_seq ?_
          refine St_region ?_
          refine Ls_run (run_move rfl) rfl ?_
          refine Ls_run (run_neq rfl rfl) rfl ?_
          refine Ls_nil ?_
          refine Jm_seq ?_
          refine St_ifP rfl (fun h32 => ?_) (fun h32 => ?_)
          · skip
            obtain ⟨k9, hk9⟩ : ∃ k9, n1 - i = k9 + 1 := ⟨n1 - i - 1, by omega⟩
            rw [hk9] at hk2 hk3
            refine St_seq ?_
            refine St_region ?_
            refine Ls_run (run_load_agg agg26 inf26 rfl rfl (hs.blk_cells 0 rfl 0 9)) rfl ?_
            refine Ls_run (run_move rfl) rfl ?_
            replace hs := hs.front 1 rfl
            simp only [List.cons_append, List.nil_append, List.eraseIdx_cons_zero, List.eraseIdx_cons_succ] at hs
            refine Ls_storeAgg hs inf26 rfl rfl rfl rfl (by simp [KP, Value.oneCell', Value.cells]) ?_
            intro w33 hs
            refine Ls_run (run_assign rfl) rfl ?_
            refine Ls_run (run_assign rfl) rfl ?_
            refine Ls_nil ?_
            refine Jm_seq ?_
            refine St_ret ?_
            refine Jm_then_ret (Jm_block_ret (Jm_then_ret (Jm_then_ret (Jm_block_ret (Jm_then_ret  ?_)))))
            refine Jm_retCTT rfl agg26 inf26 rfl rfl rfl rfl (hs.blk_cells 0 rfl 0 9) ?_
            have hte := tkd_e (most := 18446744073709551615) (over := 4) htk (by assumption)
            have h23 : mof k = 2 ∨ mof k = 3 := by omega
            rcases h23 with h2 | h3
            · exact ⟨_, rfl, _, _, _, [], none, 0, rfl, body2_k h2 htm (by rw [← (hk2 h2).1]; exact keysD_e hte (by assumption)) (by assumption), rfl, by simp [Value.oneCell', Value.cells], by simp [IsBytes], by simp, Rd.none _ 1, hs.forget, fun q => absurd q (by omega)⟩
            · exact ⟨_, rfl, _, _, _, [], none, 0, rfl, body3_k h3 htm (by rw [← (hk3 h3).1]; exact pairsD_e hte (by assumption)) (by assumption), rfl, by simp [Value.oneCell', Value.cells], by simp [IsBytes], by simp, Rd.none _ 1, hs.forget, fun q => absurd q (by omega)⟩
          · skip
            have e0 : ea = 0 := by omega
            subst e0
            have hrg := tk_range hbr htk
            obtain ⟨xn, rfl⟩ : ∃ k : Nat, xa = (k : Int) := ⟨xa.toNat, by omega⟩
            obtain ⟨an, rfl⟩ : ∃ k : Nat, aa = (k : Int) := ⟨aa.toNat, by omega⟩
            have hdl : (r.drop an).length = r.length - an := by rw [List.length_drop]
            have hto := tkd_ok (most := 18446744073709551615) (over := 4) htk (by omega)
            obtain ⟨k9, hk9⟩ : ∃ k9, n1 - i = k9 + 1 := ⟨n1 - i - 1, by omega⟩
            have hk8 : n1 - (i + 1) = k9 := by omega
            have hro : Rd w (if cr = an then Ar else Ar.map (·.add (an * 1))) (r.drop an).length (cr - an) 1 (bytesV (r.drop an)) := by rw [hdl]; exact rdB_drop hrr an (by omega)
            refine St_skip ?_
            refine Jm_seq ?_
            refine St_seq ?_
            refine St_region ?_
            refine Ls_run (run_move rfl) rfl ?_
            refine Ls_run (run_move rfl) rfl ?_
            refine Ls_run (run_as (run_slice_l Try.underlying28 inf5 rfl rfl (by omega) (by omega)) (show _ = Value.slice (if cr = an then Ar else Ar.map (·.add (an * 1))) (r.drop an).length (cr - an) from by rw [hdl]; rfl)) rfl ?_
            refine Ls_run (run_assign rfl) rfl ?_
            refine Ls_nil ?_
            refine Jm_seq ?_
            refine St_seq ?_
            refine St_seq ?_
            refine St_region ?_
            refine Ls_run (run_move rfl) rfl ?_
            refine Ls_run (run_eql rfl rfl) rfl ?_
            refine Ls_nil ?_
            refine Jm_seq ?_
            refine St_ifP rfl (fun h34 => ?_) (fun h34 => ?_)
            · skip
              refine St_seq ?_
              refine St_region ?_
              refine Ls_run (run_as (run_field Try.underlying26 rfl inf23 (by decide) rfl) (show _ = Value.pointer (some ⟨b2, 7, none⟩) from rfl)) rfl ?_
              refine Ls_run (run_load sc23 rfl (hs.blk_at 0 rfl 7 rfl)) rfl ?_
              refine Ls_run (run_move rfl) rfl ?_
              refine Ls_literal [_] hs Try.underlying23 inf38 rfl rfl rfl rfl rfl rfl ?_
              intro b35 w36 hs
              simp only [List.flatMap_cons, List.flatMap_nil, Value.cells, List.cons_append, List.nil_append] at hs
              replace hs := hs.front 3 rfl
              simp only [List.cons_append, List.nil_append, List.eraseIdx_cons_zero, List.eraseIdx_cons_succ] at hs
              refine Ls_append hs Try.underlying23 inf38 rfl (by decide) (by decide) rfl rfl (rd_block (hs.is_at 1 rfl).2 1 1 rfl) (by simp [Value.oneCell']) (by omega) rfl ?_
              intro A37 c38 w39 hs
              replace hs := hs.erase 1
              simp only [List.cons_append, List.nil_append, List.eraseIdx_cons_zero, List.eraseIdx_cons_succ] at hs
              refine Ls_run (run_as (run_field Try.underlying26 rfl inf23 (by decide) rfl) (show _ = Value.pointer (some ⟨b2, 7, none⟩) from rfl)) rfl ?_
              replace hs := hs.front 1 rfl
              simp only [List.cons_append, List.nil_append, List.eraseIdx_cons_zero, List.eraseIdx_cons_succ] at hs
              refine Ls_store hs inf23 rfl rfl rfl rfl ?_
              intro w40 hs
              try simp only [List.set_cons_zero, List.set_cons_succ] at hs
              refine Ls_nil ?_
              refine Jm_seq ?_
              refine St_exit ?_
              refine Jm_then_exit (Jm_block_same (Jm_seq ?_))
              refine St_region ?_
              refine Ls_run (run_move rfl) rfl ?_
              refine Ls_run (run_add rfl rfl (w64 (by omega))) rfl ?_
              refine Ls_run (run_assign rfl) rfl ?_
              refine Ls_nil ?_
              replace hs := hs.front 3 rfl
              simp only [List.cons_append, List.nil_append, List.eraseIdx_cons_zero, List.eraseIdx_cons_succ] at hs
              replace hs := hs.front 2 rfl
              simp only [List.cons_append, List.nil_append, List.eraseIdx_cons_zero, List.eraseIdx_cons_succ] at hs
              replace hs := hs.front 3 rfl
              simp only [List.cons_append, List.nil_append, List.eraseIdx_cons_zero, List.eraseIdx_cons_succ] at hs
              replace hs := hs.front 3 rfl
              simp only [List.cons_append, List.nil_append, List.eraseIdx_cons_zero, List.eraseIdx_cons_succ] at hs
              refine Jm_round (i + 1, (if cr = an then Ar else Ar.map (·.add (an * 1))), (cr - an), (r.drop an), (Value.slice A37 (mk + 1) c38), mk + 1, ka ++ [(xn : Int)], (Value.slice Avp mp cvp), mp, pa) ?_ ?_ ?_
              · rw [hEn25]; exact (subE_cons rfl (subE_cons rfl (subE_cons rfl (subE_cons rfl (subE_cons rfl (subE_cons rfl subE_nil))))))
              · skip
                rw [hIv26]
                rw [← flatU_snoc]
                refine ⟨hs, by omega, by omega, by omega, hbr.drop' an, by rw [hdl]; exact rdB_drop hrr an (by omega), by omega, fun q => ?_, fun q => by omega⟩
                have hq := hk2 q
                rw [hk9, keysD_ok hto] at hq
                exact ⟨by rw [hk8]; exact hq.1, hq.2⟩
              · skip
                rw [hms27, hms27]
                omega
            · skip
              refine St_skip ?_
              refine Jm_seq ?_
              refine St_seq ?_
              refine St_region ?_
              refine Ls_run (run_move rfl) rfl ?_
              refine Ls_call Try.func116 nm116 rfl rfl (rTakeWord_c wq _ _ _ (r.drop an) (hro.inB hs) (hbr.drop' an) (by omega)) rfl ?_
              rintro v41 w42 ⟨rfl, htw⟩
              obtain ⟨we, wx, hvw, hw3, hw0⟩ : ∃ (we : Int) (wx : Nat), v41 = Value.tuple #[.int .u64 (wx : Int), .int .i64 we] ∧ (we ≠ 0 → we = 3 ∧ (r.drop an).length < 8) ∧ (we = 0 → 8 ≤ (r.drop an).length ∧ wx = tw ((r.drop an).take 8)) := by
                rcases htw with ⟨h8, hv⟩ | ⟨h8, hv⟩
                · exact ⟨3, 0, by rw [hv]; rfl, fun _ => ⟨rfl, h8⟩, fun h => by omega⟩
                · exact ⟨0, _, hv, fun h => absurd rfl h, fun _ => ⟨h8, rfl⟩⟩
              subst hvw
              refine Ls_run (run_move rfl) rfl ?_
              refine Ls_run (run_extract rfl rfl) rfl ?_
              refine Ls_run (run_extract rfl rfl) rfl ?_
              refine Ls_run (run_assign rfl) rfl ?_
              refine Ls_run (run_assign rfl) rfl ?_
              refine Ls_nil ?_
              refine Jm_seq ?_
              refine St_seq ?_
              refine St_seq ?_
              refine St_region ?_
              refine Ls_run (run_move rfl) rfl ?_
              refine Ls_run (run_neq rfl rfl) rfl ?_
              refine Ls_nil ?_
              refine Jm_seq ?_
              refine St_ifP rfl (fun h43 => ?_) (fun h43 => ?_)
              · skip
                rw [hk9] at hk2 hk3
                refine St_seq ?_
                refine St_region ?_
                refine Ls_run (run_load_agg agg26 inf26 rfl rfl (hs.blk_cells 0 rfl 0 9)) rfl ?_
                refine Ls_run (run_move rfl) rfl ?_
                replace hs := hs.front 1 rfl
                simp only [List.cons_append, List.nil_append, List.eraseIdx_cons_zero, List.eraseIdx_cons_succ] at hs
                refine Ls_storeAgg hs inf26 rfl rfl rfl rfl (by simp [KP, Value.oneCell', Value.cells]) ?_
                intro w44 hs
                refine Ls_run (run_assign rfl) rfl ?_
                refine Ls_run (run_assign rfl) rfl ?_
                refine Ls_nil ?_
                refine Jm_seq ?_
                refine St_ret ?_
                refine Jm_then_ret (Jm_block_ret (Jm_then_ret (Jm_then_ret (Jm_block_ret (Jm_then_ret  ?_)))))
                refine Jm_retCTT rfl agg26 inf26 rfl rfl rfl rfl (hs.blk_cells 0 rfl 0 9) ?_
                have h3 : mof k = 3 := by omega
                exact ⟨_, rfl, _, _, _, [], none, 0, rfl, body3_k h3 htm (by rw [← (hk3 h3).1, (hw3 (by assumption)).1]; exact pairsD_3 hto (hw3 (by assumption)).2) (by assumption), rfl, by simp [Value.oneCell', Value.cells], by simp [IsBytes], by simp, Rd.none _ 1, hs.forget, fun q => absurd q (by omega)⟩
              · skip
                obtain ⟨h8, rfl⟩ := hw0 (by omega)
                have hd8 : ((r.drop an).drop 8).length = (r.drop an).length - 8 := by rw [List.length_drop]
                refine St_skip ?_
                refine Jm_seq ?_
                refine St_seq ?_
                refine St_region ?_
                refine Ls_run (run_move rfl) rfl ?_
                refine Ls_run (run_as (run_slice_l Try.underlying28 inf5 rfl rfl (by omega) (by omega)) (show _ = Value.slice (if cr - an = 8 then (if cr = an then Ar else Ar.map (·.add (an * 1))) else (if cr = an then Ar else Ar.map (·.add (an * 1))).map (·.add (8 * 1))) ((r.drop an).drop 8).length (cr - an - 8) from by rw [hd8]; rfl)) rfl ?_
                refine Ls_run (run_assign rfl) rfl ?_
                refine Ls_nil ?_
                refine Jm_seq ?_
                refine St_region ?_
                refine Ls_run (run_as (run_field Try.underlying26 rfl inf24 (by decide) rfl) (show _ = Value.pointer (some ⟨b2, 8, none⟩) from rfl)) rfl ?_
                refine Ls_run (run_load sc24 rfl (hs.blk_at 0 rfl 8 rfl)) rfl ?_
                refine Ls_run (run_move rfl) rfl ?_
                refine Ls_run (run_move rfl) rfl ?_
                refine Ls_run (run_buildO (pv := [(0, _), (1, _)]) rfl (bld40_0_1 _ _)) rfl ?_
                refine Ls_run (run_buildO (pv := [(0, _), (1, _)]) rfl (bld42_0_1 _ _ _)) rfl ?_
                refine Ls_literal [_] hs Try.underlying24 inf42 rfl rfl rfl rfl rfl rfl ?_
                intro b45 w46 hs
                simp only [List.flatMap_cons, List.flatMap_nil, Value.cells, List.cons_append, List.nil_append] at hs
                replace hs := hs.front 4 rfl
                simp only [List.cons_append, List.nil_append, List.eraseIdx_cons_zero, List.eraseIdx_cons_succ] at hs
                refine Ls_append hs Try.underlying24 inf42 rfl (by decide) (by decide) rfl rfl (rd_block (hs.is_at 1 rfl).2 3 1 rfl) (by simp [KP, Value.oneCell']) (by omega) rfl ?_
                intro A47 c48 w49 hs
                replace hs := hs.erase 1
                simp only [List.cons_append, List.nil_append, List.eraseIdx_cons_zero, List.eraseIdx_cons_succ] at hs
                refine Ls_run (run_as (run_field Try.underlying26 rfl inf24 (by decide) rfl) (show _ = Value.pointer (some ⟨b2, 8, none⟩) from rfl)) rfl ?_
                replace hs := hs.front 1 rfl
                simp only [List.cons_append, List.nil_append, List.eraseIdx_cons_zero, List.eraseIdx_cons_succ] at hs
                refine Ls_store hs inf24 rfl rfl rfl rfl ?_
                intro w50 hs
                try simp only [List.set_cons_zero, List.set_cons_succ] at hs
                refine Ls_nil ?_
                refine Jm_block_normal (Jm_seq ?_)
                refine St_region ?_
                refine Ls_run (run_move rfl) rfl ?_
                refine Ls_run (run_add rfl rfl (w64 (by omega))) rfl ?_
                refine Ls_run (run_assign rfl) rfl ?_
                refine Ls_nil ?_
                replace hs := hs.front 1 rfl
                simp only [List.cons_append, List.nil_append, List.eraseIdx_cons_zero, List.eraseIdx_cons_succ] at hs
                replace hs := hs.front 3 rfl
                simp only [List.cons_append, List.nil_append, List.eraseIdx_cons_zero, List.eraseIdx_cons_succ] at hs
                replace hs := hs.front 3 rfl
                simp only [List.cons_append, List.nil_append, List.eraseIdx_cons_zero, List.eraseIdx_cons_succ] at hs
                replace hs := hs.front 3 rfl
                simp only [List.cons_append, List.nil_append, List.eraseIdx_cons_zero, List.eraseIdx_cons_succ] at hs
                refine Jm_round (i + 1, (if cr - an = 8 then (if cr = an then Ar else Ar.map (·.add (an * 1))) else (if cr = an then Ar else Ar.map (·.add (an * 1))).map (·.add (8 * 1))), (cr - an - 8), ((r.drop an).drop 8), (Value.slice Avk mk cvk), mk, ka, (Value.slice A47 (mp + 1) c48), mp + 1, pa ++ [((xn : Int), true, (tw ((r.drop an).take 8) : Int))]) ?_ ?_ ?_
                · rw [hEn25]; exact (subE_cons rfl (subE_cons rfl (subE_cons rfl (subE_cons rfl (subE_cons rfl (subE_cons rfl subE_nil))))))
                · skip
                  rw [hIv26]
                  rw [← flatKP_snoc]
                  refine ⟨hs, by omega, by omega, by omega, (hbr.drop' an).drop' 8, by rw [hd8]; exact rdB_drop (by rw [hdl]; exact rdB_drop hrr an (by omega)) 8 (by omega), by omega, fun q => by omega, fun q => ?_⟩
                  have hq := hk3 q
                  rw [hk9, pairsD_ok hto (by omega)] at hq
                  exact ⟨by rw [hk8]; exact hq.1, hq.2⟩
                · skip
                  rw [hms27, hms27]
                  omega
        · skip
          refine St_exit ?_
          refine Jm_then_exit (Jm_then_exit (Jm_block_same (Jm_seq ?_)))
          refine St_seq ?_
          refine St_region ?_
          refine Ls_run (run_load_agg agg26 inf26 rfl rfl (hs.blk_cells 0 rfl 0 9)) rfl ?_
          refine Ls_run (run_move rfl) rfl ?_
          replace hs := hs.front 1 rfl
          simp only [List.cons_append, List.nil_append, List.eraseIdx_cons_zero, List.eraseIdx_cons_succ] at hs
          refine Ls_storeAgg hs inf26 rfl rfl rfl rfl (by simp [KP, Value.oneCell', Value.cells]) ?_
          intro w51 hs
          refine Ls_run (run_assign rfl) rfl ?_
          refine Ls_run (run_assign rfl) rfl ?_
          refine Ls_nil ?_
          refine Jm_seq ?_
          refine St_ret ?_
          refine Jm_retCTT rfl agg26 inf26 rfl rfl rfl rfl (hs.blk_cells 0 rfl 0 9) ?_
          replace hs := hs.erase 0
          simp only [List.cons_append, List.nil_append, List.eraseIdx_cons_zero, List.eraseIdx_cons_succ] at hs
          replace hs := hs.erase 0
          simp only [List.cons_append, List.nil_append, List.eraseIdx_cons_zero, List.eraseIdx_cons_succ] at hs
          replace hs := hs.own_nil 3 1
          replace hs := hs.front 2 rfl
          simp only [List.cons_append, List.nil_append, List.eraseIdx_cons_zero, List.eraseIdx_cons_succ] at hs
          replace hs := hs.front 2 rfl
          simp only [List.cons_append, List.nil_append, List.eraseIdx_cons_zero, List.eraseIdx_cons_succ] at hs
          replace hs := hs.front 2 rfl
          simp only [List.cons_append, List.nil_append, List.eraseIdx_cons_zero, List.eraseIdx_cons_succ] at hs
          have hz : n1 - i = 0 := by omega
          rw [hz] at hk2 hk3
          have h23 : mof k = 2 ∨ mof k = 3 := by omega
          rcases h23 with h2 | h3
          · obtain ⟨hk, rfl⟩ := hk2 h2
            exact ⟨_, rfl, _, _, ⟨k, f0, t0, b0, a0, 0, [], ka, []⟩, r, _, _, rfl, body2_ok h2 htm hk.symm, rfl, by simp [Value.oneCell', Value.cells], hbr, hlr, hrr, hs.forget, fun _ => ⟨⟨none, 0, 0, Avk, mk, cvk, Avp, mp, cvp⟩, rfl, hs⟩⟩
          · obtain ⟨hk, rfl⟩ := hk3 h3
            exact ⟨_, rfl, _, _, ⟨k, f0, t0, b0, a0, 0, [], [], pa⟩, r, _, _, rfl, body3_ok h3 htm hk.symm, rfl, by simp [Value.oneCell', Value.cells], hbr, hlr, hrr, hs.forget, fun _ => ⟨⟨none, 0, 0, Avk, mk, cvk, Avp, mp, cvp⟩, rfl, hs⟩⟩
/-- What a body leaves: its lists, where it is whole. -/
def CB (e : Int) (us : List Value) (y : MC) : Assn := fun h => (e = 0 ∧ ∃ p : MP, us = mcells y p ∧ Stars [Own 3 1 (.slice p.eA p.en p.ec) p.en ((El.int .i64).flat y.es), Own 38 1 (.slice p.kA p.kn p.kc) p.kn ((El.int .u64).flat y.ks), Own 42 3 (.slice p.pA p.pn p.pc) p.pn (KP.flat y.ps)] h) ∨ (e ≠ 0 ∧ ∀ b, h b = none)
theorem CB_of {w w' : World} {e : Int} {us : List Value} {y : MC} (h0 : Sat w w' []) (h : e = 0 → ∃ p : MP, us = mcells y p ∧ Sat w w' [Own 3 1 (.slice p.eA p.en p.ec) p.en ((El.int .i64).flat y.es), Own 38 1 (.slice p.kA p.kn p.kc) p.kn ((El.int .u64).flat y.ks), Own 42 3 (.slice p.pA p.pn p.pc) p.pn (KP.flat y.ps)]) : Sat w w' [CB e us y] := by
  by_cases he : e = 0
  · obtain ⟨p, hu, h1⟩ := h he
    exact (Sat.pack (L := []) h1).imp fun q hq => .inl ⟨he, p, hu, hq⟩
  · exact h0.addNone (.inr ⟨he, fun _ => rfl⟩)
theorem CB_open {B w : World} {us : List Value} {y : MC} {L : List Assn} (hs : Sat B w (CB 0 us y :: L)) : ∃ p : MP, us = mcells y p ∧ Sat B w ([Own 3 1 (.slice p.eA p.en p.ec) p.en ((El.int .i64).flat y.es), Own 38 1 (.slice p.kA p.kn p.kc) p.kn ((El.int .u64).flat y.ks), Own 42 3 (.slice p.pA p.pn p.pc) p.pn (KP.flat y.ps)] ++ L) := by
  have h1 : Sat B w ((fun h => ∃ p : MP, us = mcells y p ∧ Stars [Own 3 1 (.slice p.eA p.en p.ec) p.en ((El.int .i64).flat y.es), Own 38 1 (.slice p.kA p.kn p.kc) p.kn ((El.int .u64).flat y.ks), Own 42 3 (.slice p.pA p.pn p.pc) p.pn (KP.flat y.ps)] h) :: L) := hs.imp fun h hh => by
    rcases hh with ⟨_, p, h1⟩ | ⟨h0, _⟩
    · exact ⟨p, h1⟩
    · exact absurd rfl h0
  obtain ⟨p, h2⟩ := Sat.ex (A := fun p h => us = mcells y p ∧ Stars [Own 3 1 (.slice p.eA p.en p.ec) p.en ((El.int .i64).flat y.es), Own 38 1 (.slice p.kA p.kn p.kc) p.kn ((El.int .u64).flat y.ks), Own 42 3 (.slice p.pA p.pn p.pc) p.pn (KP.flat y.ps)] h) h1
  obtain ⟨h3, h4⟩ := h2.pure
  exact ⟨p, h3, h4.unpack⟩
set_option maxRecDepth 100000 in
set_option maxHeartbeats 1000000 in
theorem rDecode_c (w : World) (A : Option Addr) (n c : Nat) (l : List Int) (hr : Rd w A n c 1 (bytesV l)) (hb : IsBytes l) (hn : n ≤ 9223372036854775807) :
    Calls Try.prog 21 [.slice A n c].toArray w (Ret (fun v' w' => ∃ p : MP, v' = .tuple #[mV (Mdec l).1 p, .int .i64 (Mdec l).2] ∧ Sat w w' [Own 3 1 (.slice p.eA p.en p.ec) p.en ((El.int .i64).flat (Mdec l).1.es), Own 38 1 (.slice p.kA p.kn p.kc) p.kn ((El.int .u64).flat (Mdec l).1.ks), Own 42 3 (.slice p.pA p.pn p.pc) p.pn (KP.flat (Mdec l).1.ps)])) := by
  have hs := Sat.start w
  have hl : l.length = n := rdB_len hr
  refine Calls_body Try.func21 rfl rfl rfl (envE_cons (i := 0) (v := .slice A n c) rfl envE_nil) ?_
  refine St_seq ?_
  refine St_region ?_
  refine Ls_alloc hs inf26 rfl ?_
  intro b2 w1 hs
  refine Ls_run (run_assign rfl) rfl ?_
  refine Ls_nil ?_
  refine Jm_seq ?_
  refine St_seq ?_
  refine St_region ?_
  refine Ls_run (run_move rfl) rfl ?_
  refine Ls_call Try.func81 nm81 rfl rfl (rTake_c w1 _ _ _ l (hr.inB hs) hb hn) rfl ?_
  rintro v3 w4 ⟨rfl, rfl⟩
  obtain ⟨⟨xa, aa, ea⟩, htk⟩ : ∃ q, tk 0 0 l = q := ⟨_, rfl⟩
  rw [tkV_eq htk]
  refine Ls_run (run_move rfl) rfl ?_
  refine Ls_run (run_extract rfl rfl) rfl ?_
  refine Ls_run (run_extract rfl rfl) rfl ?_
  refine Ls_run (run_extract rfl rfl) rfl ?_
  refine Ls_run (run_assign rfl) rfl ?_
  refine Ls_run (run_assign rfl) rfl ?_
  refine Ls_run (run_assign rfl) rfl ?_
  refine Ls_nil ?_
  refine Jm_seq ?_
  refine St_seq ?_
  refine St_seq ?_
  refine St_region ?_
  refine Ls_run (run_move rfl) rfl ?_
  refine Ls_run (run_neq rfl rfl) rfl ?_
  refine Ls_nil ?_
  refine Jm_seq ?_
  refine St_ifP rfl (fun h5 => ?_) (fun h5 => ?_)
  · skip
    refine St_seq ?_
    refine St_region ?_
    refine Ls_run (run_buildO (pv := []) rfl (bld26 )) rfl ?_
    refine Ls_run (run_move rfl) rfl ?_
    refine Ls_storeAgg hs inf26 rfl rfl rfl rfl (by simp [Value.oneCell', Value.cells, mcells]) ?_
    intro w6 hs
    refine Ls_run (run_assign rfl) rfl ?_
    refine Ls_nil ?_
    refine Jm_seq ?_
    refine St_ret ?_
    refine Jm_then_ret  ?_
    refine Jm_retCT rfl agg26 inf26 rfl rfl rfl (hs.blk_cells 0 rfl 0 9) ?_
    have hM : Mdec l = (MC0, ea) := Mdec_e hb (tkd_e htk (by assumption)) (by assumption)
    rw [hM]
    exact ⟨_, rfl, MP0, rfl, ((hs.forget.own_nil 42 3).own_nil 38 1).own_nil 3 1⟩
  · skip
    have e0 : ea = 0 := by omega
    subst e0
    have hrg := tk_range hb htk
    obtain ⟨xn, rfl⟩ : ∃ k : Nat, xa = (k : Int) := ⟨xa.toNat, by omega⟩
    obtain ⟨an, rfl⟩ : ∃ k : Nat, aa = (k : Int) := ⟨aa.toNat, by omega⟩
    have hdl : (l.drop an).length = l.length - an := by rw [List.length_drop]
    refine St_skip ?_
    refine Jm_seq ?_
    refine St_seq ?_
    refine St_seq ?_
    refine St_region ?_
    refine Ls_run (run_move rfl) rfl ?_
    refine Ls_run (run_lss rfl rfl) rfl ?_
    refine Ls_run (run_move rfl) rfl ?_
    refine Ls_partP (t := 25) rfl (fun h7 => ?_) (fun h7 => ?_)
    · skip
      refine Ls_off rfl rfl rfl rfl ?_
      refine Ls_off rfl rfl rfl rfl ?_
      refine Ls_run (run_pick_t rfl rfl) rfl ?_
      refine Ls_nil ?_
      refine Jm_seq ?_
      refine St_ift rfl ?_
      refine St_seq ?_
      refine St_region ?_
      refine Ls_run (run_buildO (pv := []) rfl (bld26 )) rfl ?_
      refine Ls_storeAgg hs inf26 rfl rfl rfl rfl (by simp [Value.oneCell', Value.cells, mcells]) ?_
      intro w9 hs
      refine Ls_run (run_assign rfl) rfl ?_
      refine Ls_nil ?_
      refine Jm_seq ?_
      refine St_ret ?_
      refine Jm_then_ret  ?_
      refine Jm_retCT rfl agg26 inf26 rfl rfl rfl (hs.blk_cells 0 rfl 0 9) ?_
      have hM : Mdec l = (MC0, 150) := Mdec_150 (tkd_ok (most := 18446744073709551615) (over := 4) htk (by omega)) (by omega)
      rw [hM]
      exact ⟨_, rfl, MP0, rfl, ((hs.forget.own_nil 42 3).own_nil 38 1).own_nil 3 1⟩
    · skip
      refine Ls_on rfl rfl ?_
      refine Ls_run (run_move rfl) rfl ?_
      refine Ls_on rfl rfl ?_
      refine Ls_run (run_gtr rfl rfl) rfl ?_
      refine Ls_run (run_pick_f rfl rfl) rfl ?_
      refine Ls_nil ?_
      refine Jm_seq ?_
      refine St_ifP rfl (fun h10 => ?_) (fun h10 => ?_)
      · skip
        refine St_seq ?_
        refine St_region ?_
        refine Ls_run (run_buildO (pv := []) rfl (bld26 )) rfl ?_
        refine Ls_storeAgg hs inf26 rfl rfl rfl rfl (by simp [Value.oneCell', Value.cells, mcells]) ?_
        intro w11 hs
        refine Ls_run (run_assign rfl) rfl ?_
        refine Ls_nil ?_
        refine Jm_seq ?_
        refine St_ret ?_
        refine Jm_then_ret  ?_
        refine Jm_retCT rfl agg26 inf26 rfl rfl rfl (hs.blk_cells 0 rfl 0 9) ?_
        have hM : Mdec l = (MC0, 150) := Mdec_150 (tkd_ok (most := 18446744073709551615) (over := 4) htk (by omega)) (by omega)
        rw [hM]
        exact ⟨_, rfl, MP0, rfl, ((hs.forget.own_nil 42 3).own_nil 38 1).own_nil 3 1⟩
      · skip
        refine St_skip ?_
        refine Jm_seq ?_
        refine St_seq ?_
        refine St_region ?_
        have hkx : ¬ ((xn : Int) < 1 ∨ (xn : Int) > 8) := by omega
        refine Ls_run (run_move rfl) rfl ?_
        refine Ls_run (run_move rfl) rfl ?_
        refine Ls_run (run_as (run_slice_l Try.underlying28 inf5 rfl rfl (by omega) (by omega)) (show _ = Value.slice (if c = an then A else A.map (·.add (an * 1))) (l.drop an).length (c - an) from by rw [hdl, hl]; rfl)) rfl ?_
        refine Ls_run (run_assign rfl) rfl ?_
        refine Ls_nil ?_
        refine Jm_seq ?_
        refine St_seq ?_
        refine St_region ?_
        refine Ls_alloc hs inf112 rfl ?_
        intro b13 w12 hs
        refine Ls_nil ?_
        refine Jm_seq ?_
        refine St_seq ?_
        refine St_seq ?_
        refine St_region ?_
        refine Ls_run (run_assign rfl) rfl ?_
        refine Ls_nil ?_
        refine Jm_seq ?_
        refine St_block ?_
        replace hs := hs.front 1 rfl
        simp only [List.cons_append, List.nil_append, List.eraseIdx_cons_zero, List.eraseIdx_cons_succ] at hs
        obtain ⟨En14, hEn14⟩ : ∃ F : Nat × Option Addr × Nat × List Int × List Int → Env, ∀ (i : Nat) (Ar : Option Addr) (cr : Nat) (r : List Int) (h : List Int), F (i, Ar, cr, r, h) = [(2, .pointer (some ⟨b2, 0, none⟩)), (7, .pointer (some ⟨b13, 0, none⟩)), (4, .int .u64 (xn : Int)), (0, .slice Ar r.length cr), (8, .int .i64 (i : Int))] := ⟨(fun (s : Nat × Option Addr × Nat × List Int × List Int) => match s with | (i, Ar, cr, r, h) => [(2, .pointer (some ⟨b2, 0, none⟩)), (7, .pointer (some ⟨b13, 0, none⟩)), (4, .int .u64 (xn : Int)), (0, .slice Ar r.length cr), (8, .int .i64 (i : Int))]), fun _ _ _ _ _ => rfl⟩
        obtain ⟨Iv15, hIv15⟩ : ∃ F : Nat × Option Addr × Nat × List Int × List Int → World → Prop, ∀ (i : Nat) (Ar : Option Addr) (cr : Nat) (r : List Int) (h : List Int) (wq : World), F (i, Ar, cr, r, h) wq = (Sat w wq [Blk b2 [.int .i64 0, .int .i64 0, .int .i64 0, .int .i64 0, .int .i64 0, .int .i64 0, .slice none 0 0, .slice none 0 0, .slice none 0 0] 26, Blk b13 (ah h) 112] ∧ i ≤ 4 ∧ h.length = i ∧ IsBytes r ∧ Rd w Ar r.length cr 1 (bytesV r) ∧ r.length ≤ n ∧ headD (4 - i) r h = headD 4 (l.drop an) []) := ⟨(fun (s : Nat × Option Addr × Nat × List Int × List Int) => match s with | (i, Ar, cr, r, h) => fun (wq : World) => Sat w wq [Blk b2 [.int .i64 0, .int .i64 0, .int .i64 0, .int .i64 0, .int .i64 0, .int .i64 0, .slice none 0 0, .slice none 0 0, .slice none 0 0] 26, Blk b13 (ah h) 112] ∧ i ≤ 4 ∧ h.length = i ∧ IsBytes r ∧ Rd w Ar r.length cr 1 (bytesV r) ∧ r.length ≤ n ∧ headD (4 - i) r h = headD 4 (l.drop an) []), fun _ _ _ _ _ _ => rfl⟩
        obtain ⟨ms16, hms16⟩ : ∃ F : Nat × Option Addr × Nat × List Int × List Int → Nat, ∀ (i : Nat) (Ar : Option Addr) (cr : Nat) (r : List Int) (h : List Int), F (i, Ar, cr, r, h) = (4 - i) := ⟨(fun (s : Nat × Option Addr × Nat × List Int × List Int) => match s with | (i, Ar, cr, r, h) => 4 - i), fun _ _ _ _ _ => rfl⟩
        refine St_loop En14 Iv15 ms16 (0, (if c = an then A else A.map (·.add (an * 1))), (c - an), (l.drop an), []) ?_ ?_ ?_
        · skip
          rw [hIv15]
          exact ⟨hs, by omega, rfl, hb.drop' an, by rw [hdl, hl]; exact rdB_drop hr an (by omega), by omega, rfl⟩
        · rw [hEn14]; exact (subE_cons rfl (subE_cons rfl (subE_cons rfl (subE_cons rfl (subE_cons rfl subE_nil)))))
        rintro ⟨i, Ar, cr, r, h⟩ wq hI17
        rw [hIv15] at hI17
        obtain ⟨hs, hi, hhl, hbr, hrr, hlr, hhd⟩ := hI17
        refine St_eqE (hEn14 _ _ _ _ _) ?_
        obtain ⟨k9, hk9⟩ : ∃ k9, i < 4 → 4 - i = k9 + 1 ∧ 4 - (i + 1) = k9 := ⟨4 - i - 1, by omega⟩
        refine St_seq ?_
        refine St_seq ?_
        refine St_region ?_
        refine Ls_run (run_move rfl) rfl ?_
        refine Ls_run (run_lss rfl rfl) rfl ?_
        refine Ls_nil ?_
        refine Jm_seq ?_
        refine St_ifP rfl (fun h18 => ?_) (fun h18 => ?_)
        · skip
          refine St_skip ?_
          refine Jm_seq ?_
          refine St_seq ?_
          refine St_block ?_
          refine St_seq ?_
          refine St_region ?_
          refine Ls_run (run_move rfl) rfl ?_
          refine Ls_call Try.func82 nm82 rfl rfl (small_c w wq hs.forget _ _ _ r hrr hbr (by omega)) rfl ?_
          rintro v19 w20 ⟨es, xs, rs, Ars, crs, rfl, hts, hxs, hbs, hls, hrs, hsM⟩
          replace hs := hs.trans hsM
          simp only [List.nil_append, List.cons_append] at hs
          refine Ls_run (run_move rfl) rfl ?_
          refine Ls_run (run_extract rfl rfl) rfl ?_
          refine Ls_run (run_extract rfl rfl) rfl ?_
          refine Ls_run (run_extract rfl rfl) rfl ?_
          refine Ls_run (run_assign rfl) rfl ?_
          refine Ls_run (run_assign rfl) rfl ?_
          refine Ls_run (run_assign rfl) rfl ?_
          refine Ls_nil ?_
          refine Jm_seq ?_
          refine St_seq ?_
          refine St_seq ?_
          refine St_region ?_
          refine Ls_run (run_move rfl) rfl ?_
          refine Ls_run (run_neq rfl rfl) rfl ?_
          refine Ls_nil ?_
          refine Jm_seq ?_
          refine St_ifP rfl (fun h21 => ?_) (fun h21 => ?_)
          · skip
            refine St_seq ?_
            refine St_region ?_
            refine Ls_run (run_buildO (pv := []) rfl (bld26 )) rfl ?_
            refine Ls_run (run_move rfl) rfl ?_
            refine Ls_storeAgg hs inf26 rfl rfl rfl rfl (by simp [Value.oneCell', Value.cells, mcells]) ?_
            intro w22 hs
            refine Ls_run (run_assign rfl) rfl ?_
            refine Ls_nil ?_
            refine Jm_seq ?_
            refine St_ret ?_
            refine Jm_then_ret (Jm_block_ret (Jm_then_ret (Jm_then_ret (Jm_block_ret (Jm_then_ret  ?_)))))
            refine Jm_retCT rfl agg26 inf26 rfl rfl rfl (hs.blk_cells 0 rfl 0 9) ?_
            obtain ⟨rfl, rfl⟩ := tkd_err hts (by assumption)
            have hM : Mdec l = (MC0, es) := Mdec_h (tkd_ok (most := 18446744073709551615) (over := 4) htk (by omega)) hkx (by rw [← hhd, (hk9 (by omega)).1]; exact headD_e hts (by assumption)) (by assumption)
            rw [hM]
            exact ⟨_, rfl, MP0, rfl, ((hs.forget.own_nil 42 3).own_nil 38 1).own_nil 3 1⟩
          · skip
            have hes : es = 0 := by omega
            subst hes
            refine St_skip ?_
            refine Jm_seq ?_
            refine St_seq ?_
            refine St_region ?_
            refine Ls_run (run_move rfl) rfl ?_
            refine Ls_run (run_move rfl) rfl ?_
            refine Ls_run (run_as (run_index_arr Try.underlying112 inf3 rfl rfl (by omega) (by omega)) (show _ = Value.pointer (some ⟨b13, i, none⟩) from by simp)) rfl ?_
            replace hs := hs.front 1 rfl
            simp only [List.cons_append, List.nil_append, List.eraseIdx_cons_zero, List.eraseIdx_cons_succ] at hs
            refine Ls_store hs inf3 rfl rfl rfl (ah_len hhl (by omega)) ?_
            intro w23 hs
            rw [ah_set hhl (by omega)] at hs
            refine Ls_nil ?_
            refine Jm_seq ?_
            refine St_region ?_
            refine Ls_run (run_move rfl) rfl ?_
            refine Ls_run (run_assign rfl) rfl ?_
            refine Ls_nil ?_
            refine Jm_block_normal (Jm_seq ?_)
            refine St_region ?_
            refine Ls_run (run_move rfl) rfl ?_
            refine Ls_run (run_add rfl rfl (w64 (by omega))) rfl ?_
            refine Ls_run (run_assign rfl) rfl ?_
            refine Ls_nil ?_
            replace hs := hs.front 1 rfl
            simp only [List.cons_append, List.nil_append, List.eraseIdx_cons_zero, List.eraseIdx_cons_succ] at hs
            refine Jm_round (i + 1, Ars, crs, rs, h ++ [xs]) ?_ ?_ ?_
            · rw [hEn14]; exact (subE_cons rfl (subE_cons rfl (subE_cons rfl (subE_cons rfl (subE_cons rfl subE_nil)))))
            · skip
              rw [hIv15]
              rw [(hk9 (by omega)).1, headD_ok hts] at hhd
              exact ⟨hs, by omega, by simp [hhl], hbs, hrs, by omega, by rw [(hk9 (by omega)).2]; exact hhd⟩
            · skip
              rw [hms16, hms16]
              omega
        · skip
          have hi9 : i = 4 := by omega
          obtain ⟨f0, t0, b0, a0, rfl⟩ := list4 (h := h) (by omega)
          rw [hi9] at hhd
          refine St_exit ?_
          refine Jm_then_exit (Jm_then_exit (Jm_block_same (Jm_seq ?_)))
          refine St_seq ?_
          refine St_region ?_
          refine Ls_run (run_move rfl) rfl ?_
          refine Ls_run (run_conv_int Try.underlying3 us38 rfl (w64 (by omega))) rfl ?_
          rw [show ah [f0, t0, b0, a0] = [.int .i64 f0, .int .i64 t0, .int .i64 b0, .int .i64 a0] from rfl] at hs
          refine Ls_run (run_index_arr Try.underlying112 inf3 rfl rfl (by decide) (by decide)) rfl ?_
          refine Ls_run (run_load sc3 rfl (hs.blk_at 1 rfl 0 rfl)) rfl ?_
          refine Ls_run (run_index_arr Try.underlying112 inf3 rfl rfl (by decide) (by decide)) rfl ?_
          refine Ls_run (run_load sc3 rfl (hs.blk_at 1 rfl 1 rfl)) rfl ?_
          refine Ls_run (run_index_arr Try.underlying112 inf3 rfl rfl (by decide) (by decide)) rfl ?_
          refine Ls_run (run_load sc3 rfl (hs.blk_at 1 rfl 2 rfl)) rfl ?_
          refine Ls_run (run_index_arr Try.underlying112 inf3 rfl rfl (by decide) (by decide)) rfl ?_
          refine Ls_run (run_load sc3 rfl (hs.blk_at 1 rfl 3 rfl)) rfl ?_
          refine Ls_run (run_buildO (pv := [(0, _), (1, _), (2, _), (3, _), (4, _)]) rfl (bld26_0_1_2_3_4 _ _ _ _ _)) rfl ?_
          refine Ls_run (run_move rfl) rfl ?_
          refine Ls_call Try.func83 nm83 rfl rfl (rbody_c wq _ _ _ r (xn : Int) f0 t0 b0 a0 (hrr.inB hs) hbr (by omega) (mof_pos hkx)) rfl ?_
          rintro v24 w25 ⟨us, eb, yb, rb, Ab, cb, rfl, hbd, hus, huo, hbb, hlb, hrb, hsX, hsB⟩
          have hsC := CB_of hsX hsB
          replace hs := hs.trans hsC
          simp only [List.nil_append, List.cons_append] at hs
          refine Ls_run (run_move rfl) rfl ?_
          refine Ls_run (run_extract rfl rfl) rfl ?_
          refine Ls_run (run_extract rfl rfl) rfl ?_
          refine Ls_run (run_extract rfl rfl) rfl ?_
          refine Ls_alloc hs inf26 rfl ?_
          intro b27 w26 hs
          refine Ls_storeAgg hs inf26 rfl rfl hus rfl huo ?_
          intro w28 hs
          refine Ls_run (run_assign rfl) rfl ?_
          refine Ls_run (run_assign rfl) rfl ?_
          refine Ls_nil ?_
          refine Jm_seq ?_
          refine St_seq ?_
          refine St_seq ?_
          refine St_region ?_
          refine Ls_run (run_move rfl) rfl ?_
          refine Ls_run (run_neq rfl rfl) rfl ?_
          refine Ls_nil ?_
          refine Jm_seq ?_
          refine St_ifP rfl (fun h29 => ?_) (fun h29 => ?_)
          · skip
            refine St_seq ?_
            refine St_region ?_
            refine Ls_run (run_buildO (pv := []) rfl (bld26 )) rfl ?_
            refine Ls_run (run_move rfl) rfl ?_
            replace hs := hs.front 2 rfl
            simp only [List.cons_append, List.nil_append, List.eraseIdx_cons_zero, List.eraseIdx_cons_succ] at hs
            refine Ls_storeAgg hs inf26 rfl rfl rfl rfl (by simp [Value.oneCell', Value.cells, mcells]) ?_
            intro w30 hs
            refine Ls_run (run_assign rfl) rfl ?_
            refine Ls_nil ?_
            refine Jm_seq ?_
            refine St_ret ?_
            refine Jm_then_ret  ?_
            refine Jm_retCT rfl agg26 inf26 rfl rfl rfl (hs.blk_cells 0 rfl 0 9) ?_
            obtain ⟨yb2, rfl⟩ := bodyD_err hbd (by assumption)
            have hM : Mdec l = (MC0, eb) := by rw [Mdec_t (tkd_ok (most := 18446744073709551615) (over := 4) htk (by omega)) hkx hhd.symm]; exact tailD_e hbd (by assumption)
            rw [hM]
            exact ⟨_, rfl, MP0, rfl, ((hs.forget.own_nil 42 3).own_nil 38 1).own_nil 3 1⟩
          · skip
            have heb : eb = 0 := by omega
            subst heb
            replace hs := hs.front 1 rfl
            simp only [List.cons_append, List.nil_append, List.eraseIdx_cons_zero, List.eraseIdx_cons_succ] at hs
            obtain ⟨pb2, rfl, h9⟩ := CB_open hs
            replace hs := h9
            simp only [List.cons_append, List.nil_append] at hs
            refine St_skip ?_
            refine Jm_seq ?_
            refine St_seq ?_
            refine St_seq ?_
            refine St_region ?_
            refine Ls_run (run_move rfl) rfl ?_
            refine Ls_run (run_len Try.underlying28 rfl) rfl ?_
            refine Ls_run (run_gtr rfl rfl) rfl ?_
            refine Ls_nil ?_
            refine Jm_seq ?_
            refine St_ifP rfl (fun h31 => ?_) (fun h31 => ?_)
            · skip
              refine St_seq ?_
              refine St_region ?_
              refine Ls_run (run_buildO (pv := []) rfl (bld26 )) rfl ?_
              replace hs := hs.front 4 rfl
              simp only [List.cons_append, List.nil_append, List.eraseIdx_cons_zero, List.eraseIdx_cons_succ] at hs
              refine Ls_storeAgg hs inf26 rfl rfl rfl rfl (by simp [Value.oneCell', Value.cells, mcells]) ?_
              intro w32 hs
              refine Ls_run (run_assign rfl) rfl ?_
              refine Ls_nil ?_
              refine Jm_seq ?_
              refine St_ret ?_
              refine Jm_then_ret  ?_
              refine Jm_retCT rfl agg26 inf26 rfl rfl rfl (hs.blk_cells 0 rfl 0 9) ?_
              have hM : Mdec l = (MC0, 5) := by rw [Mdec_t (tkd_ok (most := 18446744073709551615) (over := 4) htk (by omega)) hkx hhd.symm]; exact tailD_5 hbd (by omega)
              rw [hM]
              exact ⟨_, rfl, MP0, rfl, ((hs.forget.own_nil 42 3).own_nil 38 1).own_nil 3 1⟩
            · skip
              refine St_skip ?_
              refine Jm_seq ?_
              refine St_seq ?_
              refine St_seq ?_
              refine St_region ?_
              refine Ls_run (run_load_agg agg26 inf26 rfl rfl (hs.blk_cells 3 rfl 0 9)) rfl ?_
              refine Ls_call Try.func19 nm19 rfl rfl (rSound_c w28 yb pb2 ⟨hs.rd_at 0 rfl, hs.rd_at 1 rfl, hs.rd_at 2 rfl⟩ (hs.own_le 0 rfl) (hs.own_le 1 rfl) (hs.own_le 2 rfl)) rfl ?_
              rintro v33 w34 ⟨rfl, hsQ35⟩
              replace hs := hs.trans hsQ35
              simp only [List.nil_append, List.cons_append] at hs
              refine Ls_run (run_not rfl) rfl ?_
              refine Ls_nil ?_
              refine Jm_seq ?_
              refine St_ifN rfl (fun h36 => ?_) (fun h36 => ?_)
              · skip
                refine St_seq ?_
                refine St_region ?_
                refine Ls_run (run_buildO (pv := []) rfl (bld26 )) rfl ?_
                replace hs := hs.front 4 rfl
                simp only [List.cons_append, List.nil_append, List.eraseIdx_cons_zero, List.eraseIdx_cons_succ] at hs
                refine Ls_storeAgg hs inf26 rfl rfl rfl rfl (by simp [Value.oneCell', Value.cells, mcells]) ?_
                intro w37 hs
                refine Ls_run (run_assign rfl) rfl ?_
                refine Ls_nil ?_
                refine Jm_seq ?_
                refine St_ret ?_
                refine Jm_then_ret  ?_
                refine Jm_retCT rfl agg26 inf26 rfl rfl rfl (hs.blk_cells 0 rfl 0 9) ?_
                have hM : Mdec l = (MC0, 150) := by rw [Mdec_t (tkd_ok (most := 18446744073709551615) (over := 4) htk (by omega)) hkx hhd.symm]; exact tailD_150 hbd (by omega) (by assumption)
                rw [hM]
                exact ⟨_, rfl, MP0, rfl, ((hs.forget.own_nil 42 3).own_nil 38 1).own_nil 3 1⟩
              · skip
                refine St_skip ?_
                refine Jm_seq ?_
                refine St_seq ?_
                refine St_region ?_
                refine Ls_run (run_load_agg agg26 inf26 rfl rfl (hs.blk_cells 3 rfl 0 9)) rfl ?_
                replace hs := hs.front 4 rfl
                simp only [List.cons_append, List.nil_append, List.eraseIdx_cons_zero, List.eraseIdx_cons_succ] at hs
                refine Ls_storeAgg hs inf26 rfl rfl rfl rfl (by simp [Value.oneCell', Value.cells, mcells]) ?_
                intro w38 hs
                refine Ls_run (run_assign rfl) rfl ?_
                refine Ls_nil ?_
                refine Jm_seq ?_
                refine St_ret ?_
                refine Jm_retCT rfl agg26 inf26 rfl rfl rfl (hs.blk_cells 0 rfl 0 9) ?_
                replace hs := hs.front 3 rfl
                simp only [List.cons_append, List.nil_append, List.eraseIdx_cons_zero, List.eraseIdx_cons_succ] at hs
                replace hs := hs.front 3 rfl
                simp only [List.cons_append, List.nil_append, List.eraseIdx_cons_zero, List.eraseIdx_cons_succ] at hs
                replace hs := hs.front 3 rfl
                simp only [List.cons_append, List.nil_append, List.eraseIdx_cons_zero, List.eraseIdx_cons_succ] at hs
                replace hs := hs.erase 3
                simp only [List.cons_append, List.nil_append, List.eraseIdx_cons_zero, List.eraseIdx_cons_succ] at hs
                replace hs := hs.erase 3
                simp only [List.cons_append, List.nil_append, List.eraseIdx_cons_zero, List.eraseIdx_cons_succ] at hs
                replace hs := hs.erase 3
                simp only [List.cons_append, List.nil_append, List.eraseIdx_cons_zero, List.eraseIdx_cons_succ] at hs
                have hM : Mdec l = (yb, 0) := by rw [Mdec_t (tkd_ok (most := 18446744073709551615) (over := 4) htk (by omega)) hkx hhd.symm]; exact tailD_ok hbd (by omega) (by assumption)
                rw [hM]
                exact ⟨_, rfl, pb2, rfl, hs⟩
set_option maxRecDepth 100000 in
set_option maxHeartbeats 1000000 in
theorem MsgRaw_c (w : World) (A : Option Addr) (n c : Nat) (l : List Int) (hr : Rd w A n c 1 (bytesV l)) (hb : IsBytes l) (hn : n ≤ 9223372036854775807) :
    Calls Try.prog 4 [.slice A n c].toArray w (Ret (fun v' w' => v' = .bool true ∧ Below w.heap.size w w')) := by
  have hs := Sat.start w
  refine Calls_body Try.func4 rfl rfl rfl (envE_cons (i := 0) (v := .slice A n c) rfl envE_nil) ?_
  refine St_seq ?_
  refine St_region ?_
  refine Ls_run (run_assign rfl) rfl ?_
  refine Ls_nil ?_
  refine Jm_seq ?_
  refine St_seq ?_
  refine St_seq ?_
  refine St_region ?_
  refine Ls_call Try.func15 nm15 rfl rfl (mawake_c w) rfl ?_
  rintro v1 w2 ⟨rfl, hsA3⟩
  replace hs := hs.trans hsA3
  simp only [List.nil_append, List.cons_append] at hs
  refine Ls_run (run_not rfl) rfl ?_
  refine Ls_nil ?_
  refine Jm_seq ?_
  refine St_iff rfl ?_
  refine St_skip ?_
  refine Jm_seq ?_
  refine St_seq ?_
  refine St_region ?_
  refine Ls_run (run_move rfl) rfl ?_
  refine Ls_call Try.func20 nm20 rfl rfl (Decode_c w2 _ _ _ (l) (hr.inB hs) hb hn) rfl ?_
  rintro v5 w6 ⟨⟨eAD, enD, ecD, kAD, knD, kcD, pAD, pnD, pcD⟩, rfl, hsD⟩
  obtain ⟨yD, eD, hMD⟩ : ∃ y e, Mdec (l) = (y, e) := ⟨_, _, rfl⟩
  rw [hMD] at hsD ⊢
  replace hs := hs.trans hsD
  simp only [List.nil_append, List.cons_append] at hs
  refine Ls_run (run_move rfl) rfl ?_
  refine Ls_run (run_extract rfl rfl) rfl ?_
  refine Ls_run (run_extract rfl rfl) rfl ?_
  refine Ls_alloc hs inf26 rfl ?_
  intro b8 w7 hs
  refine Ls_storeAgg hs inf26 rfl rfl rfl rfl (by simp [Value.oneCell']) ?_
  intro w9 hs
  refine Ls_run (run_assign rfl) rfl ?_
  refine Ls_nil ?_
  refine Jm_seq ?_
  refine St_seq ?_
  refine St_region ?_
  refine Ls_run (run_move rfl) rfl ?_
  refine Ls_call Try.func21 nm21 rfl rfl (rDecode_c w9 A n c l (hr.inB hs) hb hn) rfl ?_
  rintro v10 w11 ⟨pR, rfl, hsR⟩
  rw [hMD] at hsR ⊢
  replace hs := hs.trans hsR
  simp only [List.nil_append, List.cons_append] at hs
  refine Ls_run (run_move rfl) rfl ?_
  refine Ls_run (run_extract rfl rfl) rfl ?_
  refine Ls_run (run_extract rfl rfl) rfl ?_
  refine Ls_alloc hs inf26 rfl ?_
  intro b13 w12 hs
  refine Ls_storeAgg hs inf26 rfl rfl rfl rfl (by simp [Value.oneCell']) ?_
  intro w14 hs
  refine Ls_run (run_assign rfl) rfl ?_
  refine Ls_nil ?_
  refine Jm_seq ?_
  refine St_seq ?_
  refine St_region ?_
  refine Ls_run (run_as (run_load_agg agg26 inf26 rfl rfl (hs.blk_cells 4 rfl 0 9)) (show _ = Value.agg #[.int .i64 yD.k, .int .i64 yD.f, .int .i64 yD.t, .int .i64 yD.b, .int .i64 yD.a, .int .i64 yD.c, .slice (⟨eAD, enD, ecD, kAD, knD, kcD, pAD, pnD, pcD⟩ : MP).eA (⟨eAD, enD, ecD, kAD, knD, kcD, pAD, pnD, pcD⟩ : MP).en (⟨eAD, enD, ecD, kAD, knD, kcD, pAD, pnD, pcD⟩ : MP).ec, .slice (⟨eAD, enD, ecD, kAD, knD, kcD, pAD, pnD, pcD⟩ : MP).kA (⟨eAD, enD, ecD, kAD, knD, kcD, pAD, pnD, pcD⟩ : MP).kn (⟨eAD, enD, ecD, kAD, knD, kcD, pAD, pnD, pcD⟩ : MP).kc, .slice (⟨eAD, enD, ecD, kAD, knD, kcD, pAD, pnD, pcD⟩ : MP).pA (⟨eAD, enD, ecD, kAD, knD, kcD, pAD, pnD, pcD⟩ : MP).pn (⟨eAD, enD, ecD, kAD, knD, kcD, pAD, pnD, pcD⟩ : MP).pc] from rfl)) rfl ?_
  refine Ls_run (run_as (run_load_agg agg26 inf26 rfl rfl (hs.blk_cells 0 rfl 0 9)) (show _ = Value.agg #[.int .i64 yD.k, .int .i64 yD.f, .int .i64 yD.t, .int .i64 yD.b, .int .i64 yD.a, .int .i64 yD.c, .slice pR.eA pR.en pR.ec, .slice pR.kA pR.kn pR.kc, .slice pR.pA pR.pn pR.pc] from rfl)) rfl ?_
  refine Ls_call Try.func22 nm22 rfl rfl (same_c w14 yD (⟨eAD, enD, ecD, kAD, knD, kcD, pAD, pnD, pcD⟩ : MP) ⟨hs.rd_at 5 rfl, hs.rd_at 6 rfl, hs.rd_at 7 rfl⟩ (hs.own_le 5 rfl) (hs.own_le 6 rfl) (hs.own_le 7 rfl) yD pR ⟨hs.rd_at 1 rfl, hs.rd_at 2 rfl, hs.rd_at 3 rfl⟩) rfl ?_
  rintro v15 w16 ⟨rfl, hsS⟩
  replace hs := hs.trans hsS
  simp only [List.nil_append, List.cons_append] at hs
  rw [decide_eq_true (rfl)]
  refine Ls_run (run_move rfl) rfl ?_
  refine Ls_on rfl rfl ?_
  refine Ls_run (run_move rfl) rfl ?_
  refine Ls_on rfl rfl ?_
  refine Ls_run (run_move rfl) rfl ?_
  refine Ls_on rfl rfl ?_
  refine Ls_run (run_asB (c := true) (run_eql rfl rfl) (by simp)) rfl ?_
  refine Ls_run (run_pick_t rfl rfl) rfl ?_
  refine Ls_run (run_assign rfl) rfl ?_
  refine Ls_nil ?_
  refine Jm_seq ?_
  refine St_ret ?_
  refine Jm_ret1 rfl rfl ?_
  exact ⟨_, rfl, rfl, hs.below⟩
end Go.Proofs.Ytipkfdeiallifaa.Lg
