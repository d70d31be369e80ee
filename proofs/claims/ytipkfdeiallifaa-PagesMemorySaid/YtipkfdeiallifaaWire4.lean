/-
  The wire's takers of runs and lists, and the reference's. By program (gen/wire4.py).
-/
import Derived.Test.YtipkfdeiallifaaWire3
set_option linter.unusedVariables false
set_option linter.unusedSimpArgs false
namespace Go.Proofs.Ytipkfdeiallifaa.Lg
open Go Go.RowKit Go.Proofs.Ytipkfdeiallifaa.WirePure

theorem shl7 (i : Nat) (hi : i ≤ 9) (c : Nat) (hc : c < 256) (h9 : i = 9 → c ≤ 1) :
    IntKind.u64.wrap (((c % 128 : Nat) : Int) * 2 ^ min (7 * (i : Int)).toNat IntKind.u64.bits) = ((c % 128 * 128 ^ i : Nat) : Int) := by
  have hp : (128 : Nat) ^ i = 2 ^ (7 * i) := by rw [Nat.pow_mul]
  have hb : (c % 128) * 128 ^ i < 18446744073709551616 := by
    have : i = 0 ∨ i = 1 ∨ i = 2 ∨ i = 3 ∨ i = 4 ∨ i = 5 ∨ i = 6 ∨ i = 7 ∨ i = 8 ∨ i = 9 := by omega
    rcases this with rfl | rfl | rfl | rfl | rfl | rfl | rfl | rfl | rfl | rfl <;> simp only [Nat.reducePow] <;> omega
  have hm : min (7 * (i : Int)).toNat IntKind.u64.bits = 7 * i := by
    have : IntKind.u64.bits = 64 := rfl
    omega
  rw [hm]
  have hs : ((c % 128 : Nat) : Int) * 2 ^ (7 * i) = ((c % 128 * 128 ^ i : Nat) : Int) := by rw [hp]; simp
  rw [hs, wu64 (by omega)]
theorem add7 (i : Nat) (hi : i ≤ 9) (acc c : Nat) (ha : acc < 128 ^ i) (hc : c < 256) (h9 : i = 9 → c ≤ 1) :
    IntKind.u64.wrap ((acc : Int) + ((c % 128 * 128 ^ i : Nat) : Int)) = ((acc + (c % 128) * 128 ^ i : Nat) : Int) := by
  have hb : acc + (c % 128) * 128 ^ i < 18446744073709551616 := by
    have : i = 0 ∨ i = 1 ∨ i = 2 ∨ i = 3 ∨ i = 4 ∨ i = 5 ∨ i = 6 ∨ i = 7 ∨ i = 8 ∨ i = 9 := by omega
    rcases this with rfl | rfl | rfl | rfl | rfl | rfl | rfl | rfl | rfl | rfl <;> simp only [Nat.reducePow] at ha ⊢ <;> omega
  rw [wu64 (by omega)]; omega
theorem slice_lh_nat {A : Option Addr} {c i j s : Nat} : Value.slice (if c = (i : Int).toNat then A else A.map (·.add ((i : Int).toNat * s))) (((i : Int) + (j : Int)).toNat - (i : Int).toNat) (c - (i : Int).toNat) =
    .slice (if c = i then A else A.map (·.add (i * s))) j (c - i) := by
  have : ((i : Int) + (j : Int)).toNat - (i : Int).toNat = j := by omega
  rw [this]; rfl
theorem rdB_mid {w : World} {A : Option Addr} {n c : Nat} {l : List Int} (h : Rd w A n c 1 (bytesV l)) (i j : Nat) (hi : i + j ≤ n) : Rd w (if c = i then A else A.map (·.add (i * 1))) j (c - i) 1 (bytesV ((l.drop i).take j)) := rdB_take (rdB_drop h i (by omega)) j (by omega)
theorem IsBytes.drop' {l : List Int} (h : IsBytes l) (k : Nat) : IsBytes (l.drop k) := fun q hq => h q (List.mem_of_mem_drop hq)
theorem IsBytes.take' {l : List Int} (h : IsBytes l) (k : Nat) : IsBytes (l.take k) := fun q hq => h q (List.mem_of_mem_take hq)
theorem trun_e {l : List Int} {x a e : Int} (h : tk 0 0 l = (x, a, e)) (he : e ≠ 0) : trun l = ([], 0, e) := by simp [trun, h, he]
theorem trun_s {l : List Int} {x a : Int} (h : tk 0 0 l = (x, a, 0)) (hx : x > (l.length : Int) - a) : trun l = ([], 0, 3) := by simp [trun, h]; omega
theorem trun_o {l : List Int} {x a : Nat} (h : tk 0 0 l = ((x : Int), (a : Int), 0)) (hx : ¬ (x : Int) > (l.length : Int) - a) : trun l = ((l.drop a).take x, (a : Int) + x, 0) := by simp [trun, h]; omega
theorem tnum_e {l : List Int} {x a e most : Int} (h : tk 0 0 l = (x, a, e)) (he : e ≠ 0) : tnum l most = ([], 0, e) := by simp [tnum, h, he]
theorem tnum_6 {l : List Int} {x a most : Int} (h : tk 0 0 l = (x, a, 0)) (hx : most < 0 ∨ x > most) : tnum l most = ([], 0, 6) := by simp [tnum, h]; omega
theorem tnum_o {l : List Int} {x a : Nat} {most : Int} (h : tk 0 0 l = ((x : Int), (a : Int), 0)) (hx : ¬ (most < 0 ∨ (x : Int) > most)) : tnum l most = tnl l x a [] := by
  simp only [tnum, h]; rw [if_neg (by simp), if_neg hx]; simp
theorem tnl_e {l : List Int} {k at_ : Nat} {acc : List Int} {x a e : Int} (h : tk 0 0 (l.drop at_) = (x, a, e)) (he : e ≠ 0) : tnl l (k + 1) at_ acc = ([], 0, e) := by simp [tnl_succ, h, he]
theorem tnl_4 {l : List Int} {k at_ : Nat} {acc : List Int} {x a : Int} (h : tk 0 0 (l.drop at_) = (x, a, 0)) (hx : x > 4611686018427387904) : tnl l (k + 1) at_ acc = ([], 0, 4) := by simp [tnl_succ, h]; omega
theorem tnl_o {l : List Int} {k at_ : Nat} {acc : List Int} {x a : Nat} (h : tk 0 0 (l.drop at_) = ((x : Int), (a : Int), 0)) (hx : ¬ (x : Int) > 4611686018427387904) : tnl l (k + 1) at_ acc = tnl l k (at_ + a) (acc ++ [(x : Int)]) := by
  rw [tnl_succ, h]; simp only; rw [if_neg (by simp), if_neg hx]; simp
theorem flatI_snoc (acc : List Int) (x : Int) : (El.int .i64).flat acc ++ [.int .i64 x] = (El.int .i64).flat (acc ++ [x]) := by simp [El.flat, El.int]
set_option maxRecDepth 100000 in
set_option maxHeartbeats 1000000 in
theorem rTake_c (w : World) (A : Option Addr) (n c : Nat) (l : List Int) (hr : Rd w A n c 1 (bytesV l)) (hb : IsBytes l) (hn : n ≤ 9223372036854775807) :
    Calls Try.prog 81 [.slice A n c].toArray w (Ret (fun v' w' => w = w' ∧ v' = tkV l)) := by
  have hl : l.length = n := rdB_len hr
  rw [bytesV_flat] at hr
  refine Calls_body Try.func81 rfl rfl rfl (envE_cons (i := 0) (v := .slice A n c) rfl envE_nil) ?_
  refine St_seq ?_
  refine St_region ?_
  refine Ls_run (run_assign rfl) rfl ?_
  refine Ls_run (run_assign rfl) rfl ?_
  refine Ls_run (run_assign rfl) rfl ?_
  refine Ls_nil ?_
  refine Jm_seq ?_
  refine St_seq ?_
  refine St_region ?_
  refine Ls_run (run_assign rfl) rfl ?_
  refine Ls_nil ?_
  refine Jm_seq ?_
  refine St_seq ?_
  refine St_seq ?_
  refine St_region ?_
  refine Ls_run (run_assign rfl) rfl ?_
  refine Ls_nil ?_
  refine Jm_seq ?_
  refine St_block ?_
  obtain ⟨En1, hEn1⟩ : ∃ F : Nat × Nat → Env, ∀ (i : Nat) (acc : Nat), F (i, acc) = [(0, .slice A n c), (6, .int .i64 (i : Int)), (5, .int .u64 (acc : Int))] := ⟨(fun (s : Nat × Nat) => match s with | (i, acc) => [(0, .slice A n c), (6, .int .i64 (i : Int)), (5, .int .u64 (acc : Int))]), fun _ _ => rfl⟩
  obtain ⟨Iv2, hIv2⟩ : ∃ F : Nat × Nat → World → Prop, ∀ (i : Nat) (acc : Nat) (wr : World), F (i, acc) wr = (w = wr ∧ i ≤ n ∧ i ≤ 9 ∧ acc < 128 ^ i ∧ tk i (acc : Int) (l.drop i) = tk 0 0 l) := ⟨(fun (s : Nat × Nat) => match s with | (i, acc) => fun (wr : World) => w = wr ∧ i ≤ n ∧ i ≤ 9 ∧ acc < 128 ^ i ∧ tk i (acc : Int) (l.drop i) = tk 0 0 l), fun _ _ _ => rfl⟩
  obtain ⟨ms3, hms3⟩ : ∃ F : Nat × Nat → Nat, ∀ (i : Nat) (acc : Nat), F (i, acc) = (n - i) := ⟨(fun (s : Nat × Nat) => match s with | (i, acc) => n - i), fun _ _ => rfl⟩
  refine St_loop En1 Iv2 ms3 (0, 0) ?_ ?_ ?_
  · skip
    rw [hIv2]
    exact ⟨rfl, by omega, by omega, by decide, rfl⟩
  · rw [hEn1]; exact (subE_cons rfl (subE_cons rfl (subE_cons rfl subE_nil)))
  rintro ⟨i, acc⟩ wr hI4
  rw [hIv2] at hI4
  obtain ⟨rfl, hin, hi9, hacc, htk⟩ := hI4
  refine St_eqE (hEn1 _ _) ?_
  refine St_seq ?_
  refine St_seq ?_
  refine St_region ?_
  refine Ls_run (run_move rfl) rfl ?_
  refine Ls_run (run_move rfl) rfl ?_
  refine Ls_run (run_len Try.underlying28 rfl) rfl ?_
  refine Ls_run (run_lss rfl rfl) rfl ?_
  refine Ls_nil ?_
  refine Jm_seq ?_
  refine St_ifP rfl (fun h5 => ?_) (fun h5 => ?_)
  · skip
    refine St_skip ?_
    refine Jm_seq ?_
    refine St_seq ?_
    refine St_block ?_
    refine St_seq ?_
    refine St_seq ?_
    refine St_region ?_
    have hbi := hb (l.getD i 0) (getD_mem' (by omega))
    obtain ⟨cn, hcv⟩ : ∃ cn : Nat, l.getD i 0 = (cn : Int) := ⟨(l.getD i 0).toNat, by omega⟩
    rw [hcv] at hbi
    refine Ls_run (run_move rfl) rfl ?_
    refine Ls_run (run_eql rfl rfl) rfl ?_
    refine Ls_run (run_move rfl) rfl ?_
    refine Ls_partP (t := 15) rfl (fun h6 => ?_) (fun h6 => ?_)
    · skip
      refine Ls_on rfl rfl ?_
      refine Ls_run (run_move rfl) rfl ?_
      refine Ls_on rfl rfl ?_
      refine Ls_run (run_move rfl) rfl ?_
      refine Ls_on rfl rfl ?_
      refine Ls_index (El.int .u8) hr Try.underlying28 inf5 rfl rfl (by omega) (by omega) hcv rfl ?_
      intro b7 o8 hc9
      refine Ls_on rfl rfl ?_
      refine Ls_run (run_load sc5 rfl (hc9 0 _ rfl)) rfl ?_
      refine Ls_on rfl rfl ?_
      refine Ls_run (run_gtr rfl rfl) rfl ?_
      refine Ls_run (run_pick_t rfl rfl) rfl ?_
      refine Ls_nil ?_
      refine Jm_seq ?_
      refine St_ifP rfl (fun h10 => ?_) (fun h10 => ?_)
      · skip
        refine St_seq ?_
        refine St_region ?_
        refine Ls_run (run_assign rfl) rfl ?_
        refine Ls_run (run_assign rfl) rfl ?_
        refine Ls_run (run_assign rfl) rfl ?_
        refine Ls_nil ?_
        refine Jm_seq ?_
        refine St_ret ?_
        refine Jm_then_ret (Jm_block_ret (Jm_then_ret (Jm_then_ret (Jm_block_ret (Jm_then_ret  ?_)))))
        refine Jm_ret3 rfl rfl rfl rfl ?_
        first
        | (rw [List.drop_eq_nil_of_le (by omega)] at htk; exact ⟨_, rfl, rfl, (tkV_eq htk.symm).symm⟩)
        | (rw [tk_step l i acc (by omega), hcv, if_pos (by omega)] at htk; exact ⟨_, rfl, rfl, (tkV_eq htk.symm).symm⟩)
        | (rw [tk_step l i acc (by omega), hcv, if_neg (by omega), if_neg (by omega), if_pos (by omega)] at htk; exact ⟨_, rfl, rfl, (tkV_eq htk.symm).symm⟩)
        | (rw [tk_step l i acc (by omega), hcv, if_neg (by omega), if_neg (by omega), if_neg (by omega)] at htk; have e : cn % 128 = cn := by omega
           rw [e]; refine ⟨_, rfl, rfl, ?_⟩; rw [tkV_eq htk.symm]; simp)
      · skip
        refine St_skip ?_
        refine Jm_seq ?_
        refine St_seq ?_
        refine St_region ?_
        refine Ls_run (run_move rfl) rfl ?_
        refine Ls_run (run_move rfl) rfl ?_
        refine Ls_run (run_move rfl) rfl ?_
        refine Ls_index (El.int .u8) hr Try.underlying28 inf5 rfl rfl (by omega) (by omega) hcv rfl ?_
        intro b11 o12 hc13
        refine Ls_run (run_load sc5 rfl (hc13 0 _ rfl)) rfl ?_
        refine Ls_run (run_rem rfl rfl (by decide) (rem_u cn 128 _ rfl)) rfl ?_
        refine Ls_run (run_conv_int Try.underlying38 us5 rfl (wu64 (by omega))) rfl ?_
        refine Ls_run (run_move rfl) rfl ?_
        refine Ls_run (run_mul rfl rfl (w64 (by omega))) rfl ?_
        refine Ls_run (run_conv_int Try.underlying57 us3 rfl (wu64 (by omega))) rfl ?_
        refine Ls_run (run_shl rfl rfl (by omega) (shl7 i hi9 cn (by omega) (by omega))) rfl ?_
        refine Ls_run (run_add rfl rfl (add7 i hi9 acc cn hacc (by omega) (by omega))) rfl ?_
        refine Ls_run (run_assign rfl) rfl ?_
        refine Ls_nil ?_
        refine Jm_seq ?_
        refine St_seq ?_
        refine St_region ?_
        refine Ls_run (run_move rfl) rfl ?_
        refine Ls_run (run_move rfl) rfl ?_
        refine Ls_index (El.int .u8) hr Try.underlying28 inf5 rfl rfl (by omega) (by omega) hcv rfl ?_
        intro b14 o15 hc16
        refine Ls_run (run_load sc5 rfl (hc16 0 _ rfl)) rfl ?_
        refine Ls_run (run_lss rfl rfl) rfl ?_
        refine Ls_nil ?_
        refine Jm_seq ?_
        refine St_ifP rfl (fun h17 => ?_) (fun h17 => ?_)
        · skip
          refine St_seq ?_
          refine St_seq ?_
          refine St_region ?_
          refine Ls_run (run_move rfl) rfl ?_
          refine Ls_run (run_move rfl) rfl ?_
          refine Ls_index (El.int .u8) hr Try.underlying28 inf5 rfl rfl (by omega) (by omega) hcv rfl ?_
          intro b18 o19 hc20
          refine Ls_run (run_load sc5 rfl (hc20 0 _ rfl)) rfl ?_
          refine Ls_run (run_eql rfl rfl) rfl ?_
          refine Ls_run (run_move rfl) rfl ?_
          refine Ls_partP (t := 44) rfl (fun h21 => ?_) (fun h21 => ?_)
          · skip
            refine Ls_on rfl rfl ?_
            refine Ls_run (run_move rfl) rfl ?_
            refine Ls_on rfl rfl ?_
            refine Ls_run (run_gtr rfl rfl) rfl ?_
            refine Ls_run (run_pick_t rfl rfl) rfl ?_
            refine Ls_nil ?_
            refine Jm_seq ?_
            refine St_ifP rfl (fun h22 => ?_) (fun h22 => ?_)
            · skip
              refine St_seq ?_
              refine St_region ?_
              refine Ls_run (run_assign rfl) rfl ?_
              refine Ls_run (run_assign rfl) rfl ?_
              refine Ls_run (run_assign rfl) rfl ?_
              refine Ls_nil ?_
              refine Jm_seq ?_
              refine St_ret ?_
              refine Jm_then_ret (Jm_block_ret (Jm_then_ret (Jm_then_ret (Jm_block_ret (Jm_then_ret  ?_)))))
              refine Jm_ret3 rfl rfl rfl rfl ?_
              first
              | (rw [List.drop_eq_nil_of_le (by omega)] at htk; exact ⟨_, rfl, rfl, (tkV_eq htk.symm).symm⟩)
              | (rw [tk_step l i acc (by omega), hcv, if_pos (by omega)] at htk; exact ⟨_, rfl, rfl, (tkV_eq htk.symm).symm⟩)
              | (rw [tk_step l i acc (by omega), hcv, if_neg (by omega), if_neg (by omega), if_pos (by omega)] at htk; exact ⟨_, rfl, rfl, (tkV_eq htk.symm).symm⟩)
              | (rw [tk_step l i acc (by omega), hcv, if_neg (by omega), if_neg (by omega), if_neg (by omega)] at htk; have e : cn % 128 = cn := by omega
                 rw [e]; refine ⟨_, rfl, rfl, ?_⟩; rw [tkV_eq htk.symm]; simp)
            · skip
              refine St_skip ?_
              refine Jm_seq ?_
              refine St_seq ?_
              refine St_region ?_
              refine Ls_run (run_move rfl) rfl ?_
              refine Ls_run (run_move rfl) rfl ?_
              refine Ls_run (run_add rfl rfl (w64 (by omega))) rfl ?_
              refine Ls_run (run_assign rfl) rfl ?_
              refine Ls_run (run_assign rfl) rfl ?_
              refine Ls_run (run_assign rfl) rfl ?_
              refine Ls_nil ?_
              refine Jm_seq ?_
              refine St_ret ?_
              refine Jm_block_ret (Jm_then_ret (Jm_then_ret (Jm_block_ret (Jm_then_ret  ?_))))
              refine Jm_ret3 rfl rfl rfl rfl ?_
              first
              | (rw [List.drop_eq_nil_of_le (by omega)] at htk; exact ⟨_, rfl, rfl, (tkV_eq htk.symm).symm⟩)
              | (rw [tk_step l i acc (by omega), hcv, if_pos (by omega)] at htk; exact ⟨_, rfl, rfl, (tkV_eq htk.symm).symm⟩)
              | (rw [tk_step l i acc (by omega), hcv, if_neg (by omega), if_neg (by omega), if_pos (by omega)] at htk; exact ⟨_, rfl, rfl, (tkV_eq htk.symm).symm⟩)
              | (rw [tk_step l i acc (by omega), hcv, if_neg (by omega), if_neg (by omega), if_neg (by omega)] at htk; have e : cn % 128 = cn := by omega
                 rw [e]; refine ⟨_, rfl, rfl, ?_⟩; rw [tkV_eq htk.symm]; simp)
          · skip
            refine Ls_off rfl rfl rfl rfl ?_
            refine Ls_off rfl rfl rfl rfl ?_
            refine Ls_run (run_pick_f rfl rfl) rfl ?_
            refine Ls_nil ?_
            refine Jm_seq ?_
            refine St_iff rfl ?_
            refine St_skip ?_
            refine Jm_seq ?_
            refine St_seq ?_
            refine St_region ?_
            refine Ls_run (run_move rfl) rfl ?_
            refine Ls_run (run_move rfl) rfl ?_
            refine Ls_run (run_add rfl rfl (w64 (by omega))) rfl ?_
            refine Ls_run (run_assign rfl) rfl ?_
            refine Ls_run (run_assign rfl) rfl ?_
            refine Ls_run (run_assign rfl) rfl ?_
            refine Ls_nil ?_
            refine Jm_seq ?_
            refine St_ret ?_
            refine Jm_block_ret (Jm_then_ret (Jm_then_ret (Jm_block_ret (Jm_then_ret  ?_))))
            refine Jm_ret3 rfl rfl rfl rfl ?_
            first
            | (rw [List.drop_eq_nil_of_le (by omega)] at htk; exact ⟨_, rfl, rfl, (tkV_eq htk.symm).symm⟩)
            | (rw [tk_step l i acc (by omega), hcv, if_pos (by omega)] at htk; exact ⟨_, rfl, rfl, (tkV_eq htk.symm).symm⟩)
            | (rw [tk_step l i acc (by omega), hcv, if_neg (by omega), if_neg (by omega), if_pos (by omega)] at htk; exact ⟨_, rfl, rfl, (tkV_eq htk.symm).symm⟩)
            | (rw [tk_step l i acc (by omega), hcv, if_neg (by omega), if_neg (by omega), if_neg (by omega)] at htk; have e : cn % 128 = cn := by omega
               rw [e]; refine ⟨_, rfl, rfl, ?_⟩; rw [tkV_eq htk.symm]; simp)
        · skip
          refine St_skip ?_
          refine Jm_block_normal (Jm_seq ?_)
          refine St_region ?_
          refine Ls_run (run_move rfl) rfl ?_
          refine Ls_run (run_add rfl rfl (w64 (by omega))) rfl ?_
          refine Ls_run (run_assign rfl) rfl ?_
          refine Ls_nil ?_
          have hi9 : i < 9 := by omega
          rw [tk_step l i acc (by omega), hcv, if_neg (by omega), if_pos (by omega)] at htk
          refine Jm_round (i + 1, acc + (cn % 128) * 128 ^ i) ?_ ?_ ?_
          · rw [hEn1]; exact (subE_cons rfl (subE_cons rfl (subE_cons rfl subE_nil)))
          · skip
            rw [hIv2]
            refine ⟨rfl, by omega, by omega, ?_, ?_⟩
            · rw [Nat.pow_succ]; have hm : cn % 128 ≤ 127 := by omega
              have := Nat.mul_le_mul_right (128 ^ i) hm; omega
            · rw [← htk]; simp
          · skip
            rw [hms3, hms3]
            omega
    · skip
      refine Ls_off rfl rfl rfl rfl ?_
      refine Ls_off rfl rfl rfl rfl ?_
      refine Ls_off rfl rfl rfl rfl ?_
      refine Ls_off rfl rfl rfl rfl ?_
      refine Ls_off rfl rfl rfl rfl ?_
      refine Ls_run (run_pick_f rfl rfl) rfl ?_
      refine Ls_nil ?_
      refine Jm_seq ?_
      refine St_iff rfl ?_
      refine St_skip ?_
      refine Jm_seq ?_
      refine St_seq ?_
      refine St_region ?_
      refine Ls_run (run_move rfl) rfl ?_
      refine Ls_run (run_move rfl) rfl ?_
      refine Ls_run (run_move rfl) rfl ?_
      refine Ls_index (El.int .u8) hr Try.underlying28 inf5 rfl rfl (by omega) (by omega) hcv rfl ?_
      intro b25 o26 hc27
      refine Ls_run (run_load sc5 rfl (hc27 0 _ rfl)) rfl ?_
      refine Ls_run (run_rem rfl rfl (by decide) (rem_u cn 128 _ rfl)) rfl ?_
      refine Ls_run (run_conv_int Try.underlying38 us5 rfl (wu64 (by omega))) rfl ?_
      refine Ls_run (run_move rfl) rfl ?_
      refine Ls_run (run_mul rfl rfl (w64 (by omega))) rfl ?_
      refine Ls_run (run_conv_int Try.underlying57 us3 rfl (wu64 (by omega))) rfl ?_
      refine Ls_run (run_shl rfl rfl (by omega) (shl7 i hi9 cn (by omega) (by omega))) rfl ?_
      refine Ls_run (run_add rfl rfl (add7 i hi9 acc cn hacc (by omega) (by omega))) rfl ?_
      refine Ls_run (run_assign rfl) rfl ?_
      refine Ls_nil ?_
      refine Jm_seq ?_
      refine St_seq ?_
      refine St_region ?_
      refine Ls_run (run_move rfl) rfl ?_
      refine Ls_run (run_move rfl) rfl ?_
      refine Ls_index (El.int .u8) hr Try.underlying28 inf5 rfl rfl (by omega) (by omega) hcv rfl ?_
      intro b28 o29 hc30
      refine Ls_run (run_load sc5 rfl (hc30 0 _ rfl)) rfl ?_
      refine Ls_run (run_lss rfl rfl) rfl ?_
      refine Ls_nil ?_
      refine Jm_seq ?_
      refine St_ifP rfl (fun h31 => ?_) (fun h31 => ?_)
      · skip
        refine St_seq ?_
        refine St_seq ?_
        refine St_region ?_
        refine Ls_run (run_move rfl) rfl ?_
        refine Ls_run (run_move rfl) rfl ?_
        refine Ls_index (El.int .u8) hr Try.underlying28 inf5 rfl rfl (by omega) (by omega) hcv rfl ?_
        intro b32 o33 hc34
        refine Ls_run (run_load sc5 rfl (hc34 0 _ rfl)) rfl ?_
        refine Ls_run (run_eql rfl rfl) rfl ?_
        refine Ls_run (run_move rfl) rfl ?_
        refine Ls_partP (t := 44) rfl (fun h35 => ?_) (fun h35 => ?_)
        · skip
          refine Ls_on rfl rfl ?_
          refine Ls_run (run_move rfl) rfl ?_
          refine Ls_on rfl rfl ?_
          refine Ls_run (run_gtr rfl rfl) rfl ?_
          refine Ls_run (run_pick_t rfl rfl) rfl ?_
          refine Ls_nil ?_
          refine Jm_seq ?_
          refine St_ifP rfl (fun h36 => ?_) (fun h36 => ?_)
          · skip
            refine St_seq ?_
            refine St_region ?_
            refine Ls_run (run_assign rfl) rfl ?_
            refine Ls_run (run_assign rfl) rfl ?_
            refine Ls_run (run_assign rfl) rfl ?_
            refine Ls_nil ?_
            refine Jm_seq ?_
            refine St_ret ?_
            refine Jm_then_ret (Jm_block_ret (Jm_then_ret (Jm_then_ret (Jm_block_ret (Jm_then_ret  ?_)))))
            refine Jm_ret3 rfl rfl rfl rfl ?_
            first
            | (rw [List.drop_eq_nil_of_le (by omega)] at htk; exact ⟨_, rfl, rfl, (tkV_eq htk.symm).symm⟩)
            | (rw [tk_step l i acc (by omega), hcv, if_pos (by omega)] at htk; exact ⟨_, rfl, rfl, (tkV_eq htk.symm).symm⟩)
            | (rw [tk_step l i acc (by omega), hcv, if_neg (by omega), if_neg (by omega), if_pos (by omega)] at htk; exact ⟨_, rfl, rfl, (tkV_eq htk.symm).symm⟩)
            | (rw [tk_step l i acc (by omega), hcv, if_neg (by omega), if_neg (by omega), if_neg (by omega)] at htk; have e : cn % 128 = cn := by omega
               rw [e]; refine ⟨_, rfl, rfl, ?_⟩; rw [tkV_eq htk.symm]; simp)
          · skip
            refine St_skip ?_
            refine Jm_seq ?_
            refine St_seq ?_
            refine St_region ?_
            refine Ls_run (run_move rfl) rfl ?_
            refine Ls_run (run_move rfl) rfl ?_
            refine Ls_run (run_add rfl rfl (w64 (by omega))) rfl ?_
            refine Ls_run (run_assign rfl) rfl ?_
            refine Ls_run (run_assign rfl) rfl ?_
            refine Ls_run (run_assign rfl) rfl ?_
            refine Ls_nil ?_
            refine Jm_seq ?_
            refine St_ret ?_
            refine Jm_block_ret (Jm_then_ret (Jm_then_ret (Jm_block_ret (Jm_then_ret  ?_))))
            refine Jm_ret3 rfl rfl rfl rfl ?_
            first
            | (rw [List.drop_eq_nil_of_le (by omega)] at htk; exact ⟨_, rfl, rfl, (tkV_eq htk.symm).symm⟩)
            | (rw [tk_step l i acc (by omega), hcv, if_pos (by omega)] at htk; exact ⟨_, rfl, rfl, (tkV_eq htk.symm).symm⟩)
            | (rw [tk_step l i acc (by omega), hcv, if_neg (by omega), if_neg (by omega), if_pos (by omega)] at htk; exact ⟨_, rfl, rfl, (tkV_eq htk.symm).symm⟩)
            | (rw [tk_step l i acc (by omega), hcv, if_neg (by omega), if_neg (by omega), if_neg (by omega)] at htk; have e : cn % 128 = cn := by omega
               rw [e]; refine ⟨_, rfl, rfl, ?_⟩; rw [tkV_eq htk.symm]; simp)
        · skip
          refine Ls_off rfl rfl rfl rfl ?_
          refine Ls_off rfl rfl rfl rfl ?_
          refine Ls_run (run_pick_f rfl rfl) rfl ?_
          refine Ls_nil ?_
          refine Jm_seq ?_
          refine St_iff rfl ?_
          refine St_skip ?_
          refine Jm_seq ?_
          refine St_seq ?_
          refine St_region ?_
          refine Ls_run (run_move rfl) rfl ?_
          refine Ls_run (run_move rfl) rfl ?_
          refine Ls_run (run_add rfl rfl (w64 (by omega))) rfl ?_
          refine Ls_run (run_assign rfl) rfl ?_
          refine Ls_run (run_assign rfl) rfl ?_
          refine Ls_run (run_assign rfl) rfl ?_
          refine Ls_nil ?_
          refine Jm_seq ?_
          refine St_ret ?_
          refine Jm_block_ret (Jm_then_ret (Jm_then_ret (Jm_block_ret (Jm_then_ret  ?_))))
          refine Jm_ret3 rfl rfl rfl rfl ?_
          first
          | (rw [List.drop_eq_nil_of_le (by omega)] at htk; exact ⟨_, rfl, rfl, (tkV_eq htk.symm).symm⟩)
          | (rw [tk_step l i acc (by omega), hcv, if_pos (by omega)] at htk; exact ⟨_, rfl, rfl, (tkV_eq htk.symm).symm⟩)
          | (rw [tk_step l i acc (by omega), hcv, if_neg (by omega), if_neg (by omega), if_pos (by omega)] at htk; exact ⟨_, rfl, rfl, (tkV_eq htk.symm).symm⟩)
          | (rw [tk_step l i acc (by omega), hcv, if_neg (by omega), if_neg (by omega), if_neg (by omega)] at htk; have e : cn % 128 = cn := by omega
             rw [e]; refine ⟨_, rfl, rfl, ?_⟩; rw [tkV_eq htk.symm]; simp)
      · skip
        refine St_skip ?_
        refine Jm_block_normal (Jm_seq ?_)
        refine St_region ?_
        refine Ls_run (run_move rfl) rfl ?_
        refine Ls_run (run_add rfl rfl (w64 (by omega))) rfl ?_
        refine Ls_run (run_assign rfl) rfl ?_
        refine Ls_nil ?_
        have hi9 : i < 9 := by omega
        rw [tk_step l i acc (by omega), hcv, if_neg (by omega), if_pos (by omega)] at htk
        refine Jm_round (i + 1, acc + (cn % 128) * 128 ^ i) ?_ ?_ ?_
        · rw [hEn1]; exact (subE_cons rfl (subE_cons rfl (subE_cons rfl subE_nil)))
        · skip
          rw [hIv2]
          refine ⟨rfl, by omega, by omega, ?_, ?_⟩
          · rw [Nat.pow_succ]; have hm : cn % 128 ≤ 127 := by omega
            have := Nat.mul_le_mul_right (128 ^ i) hm; omega
          · rw [← htk]; simp
        · skip
          rw [hms3, hms3]
          omega
  · skip
    refine St_exit ?_
    refine Jm_then_exit (Jm_then_exit (Jm_block_same (Jm_seq ?_)))
    refine St_seq ?_
    refine St_region ?_
    refine Ls_run (run_assign rfl) rfl ?_
    refine Ls_run (run_assign rfl) rfl ?_
    refine Ls_run (run_assign rfl) rfl ?_
    refine Ls_nil ?_
    refine Jm_seq ?_
    refine St_ret ?_
    refine Jm_ret3 rfl rfl rfl rfl ?_
    first
    | (rw [List.drop_eq_nil_of_le (by omega)] at htk; exact ⟨_, rfl, rfl, (tkV_eq htk.symm).symm⟩)
    | (rw [tk_step l i acc (by omega), hcv, if_pos (by omega)] at htk; exact ⟨_, rfl, rfl, (tkV_eq htk.symm).symm⟩)
    | (rw [tk_step l i acc (by omega), hcv, if_neg (by omega), if_neg (by omega), if_pos (by omega)] at htk; exact ⟨_, rfl, rfl, (tkV_eq htk.symm).symm⟩)
    | (rw [tk_step l i acc (by omega), hcv, if_neg (by omega), if_neg (by omega), if_neg (by omega)] at htk; have e : cn % 128 = cn := by omega
       rw [e]; refine ⟨_, rfl, rfl, ?_⟩; rw [tkV_eq htk.symm]; simp)
set_option maxRecDepth 100000 in
set_option maxHeartbeats 1000000 in
theorem rNums_c (w : World) (A : Option Addr) (n c : Nat) (l : List Int) (hr : Rd w A n c 1 ((El.int .i64).flat l)) (hn : n * 10 + 20 ≤ 140737488355328) (hw : ∀ x ∈ l, x ≤ 9223372036854775807) :
    Calls Try.prog 69 [.slice A n c].toArray w (Ret (fun v' w' => (anyNeg l ∧ v' = .tuple #[.slice none 0 0, .int .i64 1] ∧ Sat w w' []) ∨ (¬ anyNeg l ∧ ∃ A' c', v' = .tuple #[.slice A' (nm l).length c', .int .i64 0] ∧ Sat w w' [Own 5 1 (.slice A' (nm l).length c') (nm l).length (bytesV (nm l))]))) := by
  have hl : l.length = n := by have := hr.len; rw [El.flat_length] at this; simpa [El.int] using this
  have h10 := pb_len10 (n := n) (by omega)
  have hs := Sat.start w
  refine Calls_body Try.func69 rfl rfl rfl (envE_cons (i := 0) (v := .slice A n c) rfl envE_nil) ?_
  refine St_seq ?_
  refine St_region ?_
  refine Ls_run (run_assign rfl) rfl ?_
  refine Ls_run (run_assign rfl) rfl ?_
  refine Ls_nil ?_
  refine Jm_seq ?_
  refine St_seq ?_
  refine St_region ?_
  refine Ls_run (run_move rfl) rfl ?_
  refine Ls_run (run_len Try.underlying22 rfl) rfl ?_
  refine Ls_run (run_conv_int Try.underlying38 us3 rfl (wu64 (by omega))) rfl ?_
  refine Ls_call Try.func67 nm67 rfl rfl (rPut_c w n (by omega)) rfl ?_
  rintro v1 w2 ⟨A1, c1, rfl, hs⟩
  refine Ls_run (run_assign rfl) rfl ?_
  refine Ls_nil ?_
  refine Jm_seq ?_
  refine St_seq ?_
  refine St_seq ?_
  refine St_region ?_
  refine Ls_run (run_assign rfl) rfl ?_
  refine Ls_nil ?_
  refine Jm_seq ?_
  refine St_block ?_
  obtain ⟨En3, hEn3⟩ : ∃ F : Nat × Value × Nat × List Int → Env, ∀ (i : Nat) (v : Value) (m : Nat) (ys : List Int), F (i, v, m, ys) = [(0, .slice A n c), (5, .int .i64 (i : Int)), (4, v)] := ⟨(fun (s : Nat × Value × Nat × List Int) => match s with | (i, v, m, ys) => [(0, .slice A n c), (5, .int .i64 (i : Int)), (4, v)]), fun _ _ _ _ => rfl⟩
  obtain ⟨Iv4, hIv4⟩ : ∃ F : Nat × Value × Nat × List Int → World → Prop, ∀ (i : Nat) (v : Value) (m : Nat) (ys : List Int) (wr : World), F (i, v, m, ys) wr = (Sat w wr [Own 5 1 v m (bytesV ys)] ∧ i ≤ n ∧ ys = pb n ++ nmB (l.take i) ∧ m = ys.length ∧ m ≤ 10 + 10 * i ∧ (∀ x ∈ l.take i, 0 ≤ x)) := ⟨(fun (s : Nat × Value × Nat × List Int) => match s with | (i, v, m, ys) => fun (wr : World) => Sat w wr [Own 5 1 v m (bytesV ys)] ∧ i ≤ n ∧ ys = pb n ++ nmB (l.take i) ∧ m = ys.length ∧ m ≤ 10 + 10 * i ∧ (∀ x ∈ l.take i, 0 ≤ x)), fun _ _ _ _ _ => rfl⟩
  obtain ⟨ms5, hms5⟩ : ∃ F : Nat × Value × Nat × List Int → Nat, ∀ (i : Nat) (v : Value) (m : Nat) (ys : List Int), F (i, v, m, ys) = (n - i) := ⟨(fun (s : Nat × Value × Nat × List Int) => match s with | (i, v, m, ys) => n - i), fun _ _ _ _ => rfl⟩
  refine St_loop En3 Iv4 ms5 (0, Value.slice A1 (pb n).length c1, (pb n).length, pb n) ?_ ?_ ?_
  · skip
    rw [hIv4]
    exact ⟨hs, by omega, by simp [nmB], rfl, by omega, by simp⟩
  · rw [hEn3]; exact (subE_cons rfl (subE_cons rfl (subE_cons rfl subE_nil)))
  rintro ⟨i, v, m, ys⟩ wr hI6
  rw [hIv4] at hI6
  obtain ⟨hs, hin, hys, hm, hm2, hpos⟩ := hI6
  refine St_eqE (hEn3 _ _ _ _) ?_
  refine St_seq ?_
  refine St_seq ?_
  refine St_region ?_
  refine Ls_run (run_move rfl) rfl ?_
  refine Ls_run (run_move rfl) rfl ?_
  refine Ls_run (run_len Try.underlying22 rfl) rfl ?_
  refine Ls_run (run_lss rfl rfl) rfl ?_
  refine Ls_nil ?_
  refine Jm_seq ?_
  refine St_ifP rfl (fun h7 => ?_) (fun h7 => ?_)
  · skip
    refine St_skip ?_
    refine Jm_seq ?_
    refine St_seq ?_
    refine St_block ?_
    refine St_seq ?_
    refine St_seq ?_
    refine St_region ?_
    refine Ls_run (run_move rfl) rfl ?_
    refine Ls_run (run_move rfl) rfl ?_
    have hmem : l.getD i 0 ∈ l := getD_mem' (by omega)
    have hx2 : l.getD i 0 < 9223372036854775808 := by have := hw (l.getD i 0) hmem; omega
    refine Ls_index (El.int .i64) (hr.inB hs) Try.underlying22 inf3 rfl rfl (by omega) (by omega) (show _ = l.getD i 0 from rfl) rfl ?_
    intro b8 o9 hc10
    refine Ls_run (run_load sc3 rfl (hc10 0 _ rfl)) rfl ?_
    refine Ls_run (run_lss rfl rfl) rfl ?_
    refine Ls_nil ?_
    refine Jm_seq ?_
    refine St_ifP rfl (fun h11 => ?_) (fun h11 => ?_)
    · skip
      refine St_seq ?_
      refine St_region ?_
      refine Ls_run (run_assign rfl) rfl ?_
      refine Ls_run (run_assign rfl) rfl ?_
      refine Ls_nil ?_
      refine Jm_seq ?_
      refine St_ret ?_
      refine Jm_then_ret (Jm_block_ret (Jm_then_ret (Jm_then_ret (Jm_block_ret (Jm_then_ret  ?_)))))
      refine Jm_ret2 rfl rfl rfl ?_
      exact ⟨_, rfl, .inl ⟨⟨_, hmem, by omega⟩, rfl, hs.tail⟩⟩
    · skip
      refine St_skip ?_
      refine Jm_seq ?_
      refine St_region ?_
      refine Ls_run (run_move rfl) rfl ?_
      refine Ls_run (run_move rfl) rfl ?_
      refine Ls_run (run_move rfl) rfl ?_
      refine Ls_index (El.int .i64) (hr.inB hs) Try.underlying22 inf3 rfl rfl (by omega) (by omega) (show _ = l.getD i 0 from rfl) rfl ?_
      intro b12 o13 hc14
      refine Ls_run (run_load sc3 rfl (hc14 0 _ rfl)) rfl ?_
      refine Ls_run (run_conv_int Try.underlying38 us3 rfl (wu64 (by omega))) rfl ?_
      obtain ⟨q, hq⟩ : ∃ q : Nat, l.getD i 0 = (q : Int) := ⟨(l.getD i 0).toNat, by omega⟩
      rw [hq]
      have h2 := pb_len10 (n := q) (by omega)
      refine Ls_call Try.func67 nm67 rfl rfl (rPut_c wr q (by omega)) rfl ?_
      rintro v15 w16 ⟨A2, c2, rfl, hsP⟩
      replace hs := hs.trans hsP
      replace hs := hs.front 1 rfl
      simp only [List.cons_append, List.nil_append, List.eraseIdx_cons_zero, List.eraseIdx_cons_succ] at hs
      refine Ls_append hs Try.underlying28 inf5 rfl (by decide) (by decide) rfl rfl (hs.rd_at 1 rfl) (bytesV_one' _) (by omega) rfl ?_
      intro A17 c18 w19 hs
      refine Ls_run (run_assign rfl) rfl ?_
      refine Ls_nil ?_
      refine Jm_block_normal (Jm_seq ?_)
      refine St_region ?_
      refine Ls_run (run_move rfl) rfl ?_
      refine Ls_run (run_add rfl rfl (w64 (by omega))) rfl ?_
      refine Ls_run (run_assign rfl) rfl ?_
      refine Ls_nil ?_
      have e3 := nmB_take_succ l i (by omega)
      refine Jm_round (i + 1, Value.slice A17 (m + (pb q).length) c18, m + (pb q).length, ys ++ pb q) ?_ ?_ ?_
      · rw [hEn3]; exact (subE_cons rfl (subE_cons rfl (subE_cons rfl subE_nil)))
      · skip
        rw [hIv4]
        refine ⟨by rw [bytesV_append]; exact hs.erase 1, by omega, ?_, by simp [hm], by omega, ?_⟩
        · rw [e3, hys, hq]; simp
        · rw [List.take_succ_eq_append_getElem (by omega)]; intro x hx; rcases List.mem_append.1 hx with hx | hx
          · exact hpos x hx
          · simp at hx; subst hx; have e4 : l[i] = l.getD i 0 := by rw [List.getD_eq_getElem?_getD, List.getElem?_eq_getElem (show i < l.length by omega)]; rfl
            rw [e4]; omega
      · skip
        rw [hms5, hms5]
        omega
  · skip
    refine St_exit ?_
    refine Jm_then_exit (Jm_then_exit (Jm_block_same (Jm_seq ?_)))
    refine St_seq ?_
    refine St_region ?_
    refine Ls_run (run_move rfl) rfl ?_
    refine Ls_run (run_assign rfl) rfl ?_
    refine Ls_run (run_assign rfl) rfl ?_
    refine Ls_nil ?_
    refine Jm_seq ?_
    refine St_ret ?_
    refine Jm_ret2 rfl rfl rfl ?_
    have hi : i = n := by omega
    have e5 : l.take i = l := List.take_of_length_le (by omega)
    rw [e5] at hys hpos
    obtain ⟨A4, c4, rfl, _, _, _⟩ := hs.own_form
    have e6 : ys = nm l := by rw [hys]; unfold nm; rw [hl]
    rw [e6] at hs hm
    rw [hm] at hs ⊢
    exact ⟨_, rfl, .inr ⟨fun ⟨x, hx, hx0⟩ => by have := hpos x hx; omega, _, _, rfl, hs⟩⟩
set_option maxRecDepth 100000 in
set_option maxHeartbeats 1000000 in
theorem TakeNums_c (w : World) (A : Option Addr) (n c : Nat) (l : List Int) (most : Int) (hr : Rd w A n c 1 (bytesV l)) (hb : IsBytes l) (hn : n ≤ 9223372036854775807 ∧ (n ≤ 8796093022208 ∨ most ≤ 4096)) (hmost : most ≤ 9223372036854775807) :
    Calls Try.prog 112 [.slice A n c, .int .i64 most].toArray w (Ret (fun v' w' => ∃ A' c', v' = .tuple #[.slice A' (tnum l most).1.length c', .int .i64 (tnum l most).2.1, .int .i64 (tnum l most).2.2] ∧ Sat w w' [Own 3 1 (.slice A' (tnum l most).1.length c') (tnum l most).1.length ((El.int .i64).flat (tnum l most).1)])) := by
  have hs := Sat.start w
  have hl : l.length = n := rdB_len hr
  have hnc := hr.cap
  refine Calls_body Try.func112 rfl rfl rfl (envE_cons (i := 0) (v := .slice A n c) rfl (envE_cons (i := 1) (v := .int .i64 most) rfl envE_nil)) ?_
  refine St_seq ?_
  refine St_region ?_
  refine Ls_run (run_assign rfl) rfl ?_
  refine Ls_run (run_assign rfl) rfl ?_
  refine Ls_run (run_assign rfl) rfl ?_
  refine Ls_nil ?_
  refine Jm_seq ?_
  refine St_seq ?_
  refine St_region ?_
  refine Ls_run (run_move rfl) rfl ?_
  refine Ls_call Try.func111 nm111 rfl rfl (Take_c w _ _ _ l (hr.inB hs) hb (by omega)) rfl ?_
  rintro v1 w2 ⟨rfl, rfl⟩
  obtain ⟨⟨xa, aa, ea⟩, htk⟩ : ∃ q, tk 0 0 l = q := ⟨_, rfl⟩
  rw [tkV_eq htk]
  refine Ls_run (run_move rfl) rfl ?_
  refine Ls_run (run_extract rfl rfl) rfl ?_
  refine Ls_run (run_extract rfl rfl) rfl ?_
  refine Ls_run (run_extract rfl rfl) rfl ?_
  refine Ls_run (run_assign rfl) rfl ?_
  refine Ls_run (run_assign rfl) rfl ?_
  refine Ls_run (run_assign rfl) rfl ?_
  refine Ls_nil ?_
  refine Jm_seq ?_
  refine St_seq ?_
  refine St_block ?_
  refine St_seq ?_
  refine St_region ?_
  refine Ls_run (run_move rfl) rfl ?_
  refine Ls_run (run_neq rfl rfl) rfl ?_
  refine Ls_run (run_assign rfl) rfl ?_
  refine Ls_nil ?_
  refine Jm_seq ?_
  refine St_ifP rfl (fun h3 => ?_) (fun h3 => ?_)
  · skip
    refine St_seq ?_
    refine St_region ?_
    refine Ls_run (run_move rfl) rfl ?_
    refine Ls_run (run_assign rfl) rfl ?_
    refine Ls_run (run_assign rfl) rfl ?_
    refine Ls_run (run_assign rfl) rfl ?_
    refine Ls_nil ?_
    refine Jm_seq ?_
    refine St_ret ?_
    refine Jm_block_ret (Jm_then_ret  ?_)
    refine Jm_ret3 rfl rfl rfl rfl ?_
    first
    | (rw [tnum_e htk (by assumption)]; exact ⟨_, rfl, _, _, rfl, hs.own_nil _ _⟩)
    | (rw [tnum_6 htk (by omega)]; exact ⟨_, rfl, _, _, rfl, hs.own_nil _ _⟩)
    | (rw [tnl_e htk2 (by assumption)] at htl; rw [← htl]; exact ⟨_, rfl, _, _, rfl, hs.forget.own_nil _ _⟩)
    | (rw [tnl_4 htk2 (by omega)] at htl; rw [← htl]; exact ⟨_, rfl, _, _, rfl, hs.forget.own_nil _ _⟩)
    | (have hk9 : k = 0 := by omega
       rw [hk9] at htl
       rw [← htl]
       subst hm
       obtain ⟨A9, c9, rfl, _, _, _⟩ := hs.own_form
       exact ⟨_, rfl, _, _, rfl, hs⟩)
  · skip
    have e0 : ea = 0 := by omega
    subst e0
    have hrgxn := tk_range hb htk
    obtain ⟨xn, rfl⟩ : ∃ k : Nat, xa = (k : Int) := ⟨xa.toNat, by omega⟩
    obtain ⟨an, rfl⟩ : ∃ k : Nat, aa = (k : Int) := ⟨aa.toNat, by omega⟩
    simp only [Int.toNat_natCast] at hrgxn
    refine St_seq ?_
    refine St_region ?_
    refine Ls_run (run_move rfl) rfl ?_
    refine Ls_run (run_lss rfl rfl) rfl ?_
    refine Ls_run (run_move rfl) rfl ?_
    refine Ls_partP (t := 27) rfl (fun h4 => ?_) (fun h4 => ?_)
    · skip
      refine Ls_off rfl rfl rfl rfl ?_
      refine Ls_off rfl rfl rfl rfl ?_
      refine Ls_off rfl rfl rfl rfl ?_
      refine Ls_off rfl rfl rfl rfl ?_
      refine Ls_run (run_pick_t rfl rfl) rfl ?_
      refine Ls_run (run_assign rfl) rfl ?_
      refine Ls_nil ?_
      refine Jm_seq ?_
      refine St_ift rfl ?_
      refine St_seq ?_
      refine St_region ?_
      refine Ls_run (run_assign rfl) rfl ?_
      refine Ls_run (run_assign rfl) rfl ?_
      refine Ls_run (run_assign rfl) rfl ?_
      refine Ls_nil ?_
      refine Jm_seq ?_
      refine St_ret ?_
      refine Jm_block_ret (Jm_then_ret  ?_)
      refine Jm_ret3 rfl rfl rfl rfl ?_
      first
      | (rw [tnum_e htk (by assumption)]; exact ⟨_, rfl, _, _, rfl, hs.own_nil _ _⟩)
      | (rw [tnum_6 htk (by omega)]; exact ⟨_, rfl, _, _, rfl, hs.own_nil _ _⟩)
      | (rw [tnl_e htk2 (by assumption)] at htl; rw [← htl]; exact ⟨_, rfl, _, _, rfl, hs.forget.own_nil _ _⟩)
      | (rw [tnl_4 htk2 (by omega)] at htl; rw [← htl]; exact ⟨_, rfl, _, _, rfl, hs.forget.own_nil _ _⟩)
      | (have hk9 : k = 0 := by omega
         rw [hk9] at htl
         rw [← htl]
         subst hm
         obtain ⟨A9, c9, rfl, _, _, _⟩ := hs.own_form
         exact ⟨_, rfl, _, _, rfl, hs⟩)
    · skip
      refine Ls_on rfl rfl ?_
      refine Ls_run (run_move rfl) rfl ?_
      refine Ls_on rfl rfl ?_
      refine Ls_run (run_move rfl) rfl ?_
      refine Ls_on rfl rfl ?_
      refine Ls_run (run_conv_int Try.underlying38 us3 rfl (wu64 (by omega))) rfl ?_
      refine Ls_on rfl rfl ?_
      refine Ls_run (run_gtr rfl rfl) rfl ?_
      refine Ls_run (run_pick_f rfl rfl) rfl ?_
      refine Ls_run (run_assign rfl) rfl ?_
      refine Ls_nil ?_
      refine Jm_seq ?_
      refine St_ifP rfl (fun h6 => ?_) (fun h6 => ?_)
      · skip
        refine St_seq ?_
        refine St_region ?_
        refine Ls_run (run_assign rfl) rfl ?_
        refine Ls_run (run_assign rfl) rfl ?_
        refine Ls_run (run_assign rfl) rfl ?_
        refine Ls_nil ?_
        refine Jm_seq ?_
        refine St_ret ?_
        refine Jm_block_ret (Jm_then_ret  ?_)
        refine Jm_ret3 rfl rfl rfl rfl ?_
        first
        | (rw [tnum_e htk (by assumption)]; exact ⟨_, rfl, _, _, rfl, hs.own_nil _ _⟩)
        | (rw [tnum_6 htk (by omega)]; exact ⟨_, rfl, _, _, rfl, hs.own_nil _ _⟩)
        | (rw [tnl_e htk2 (by assumption)] at htl; rw [← htl]; exact ⟨_, rfl, _, _, rfl, hs.forget.own_nil _ _⟩)
        | (rw [tnl_4 htk2 (by omega)] at htl; rw [← htl]; exact ⟨_, rfl, _, _, rfl, hs.forget.own_nil _ _⟩)
        | (have hk9 : k = 0 := by omega
           rw [hk9] at htl
           rw [← htl]
           subst hm
           obtain ⟨A9, c9, rfl, _, _, _⟩ := hs.own_form
           exact ⟨_, rfl, _, _, rfl, hs⟩)
      · skip
        refine St_skip ?_
        refine Jm_block_normal (Jm_seq ?_)
        refine St_seq ?_
        refine St_region ?_
        refine Ls_run (run_assign rfl) rfl ?_
        refine Ls_nil ?_
        refine Jm_seq ?_
        refine St_seq ?_
        refine St_block ?_
        replace hs := hs.own_nil 3 1
        have htn := tnum_o (most := most) htk (by omega)
        obtain ⟨En7, hEn7⟩ : ∃ F : Nat × Nat × Value × Nat × List Int → Env, ∀ (k : Nat) (at_ : Nat) (v : Value) (m : Nat) (acc : List Int), F (k, at_, v, m, acc) = [(0, .slice A n c), (8, .int .i64 (at_ : Int)), (10, v), (7, .int .u64 (k : Int))] := ⟨(fun (s : Nat × Nat × Value × Nat × List Int) => match s with | (k, at_, v, m, acc) => [(0, .slice A n c), (8, .int .i64 (at_ : Int)), (10, v), (7, .int .u64 (k : Int))]), fun _ _ _ _ _ => rfl⟩
        obtain ⟨Iv8, hIv8⟩ : ∃ F : Nat × Nat × Value × Nat × List Int → World → Prop, ∀ (k : Nat) (at_ : Nat) (v : Value) (m : Nat) (acc : List Int) (wr : World), F (k, at_, v, m, acc) wr = (Sat w wr [Own 3 1 v m ((El.int .i64).flat acc)] ∧ at_ ≤ n ∧ m = acc.length ∧ m ≤ at_ ∧ m + (k) ≤ xn ∧ tnl l (k) at_ acc = tnum l most ∧ k < 18446744073709551616) := ⟨(fun (s : Nat × Nat × Value × Nat × List Int) => match s with | (k, at_, v, m, acc) => fun (wr : World) => Sat w wr [Own 3 1 v m ((El.int .i64).flat acc)] ∧ at_ ≤ n ∧ m = acc.length ∧ m ≤ at_ ∧ m + (k) ≤ xn ∧ tnl l (k) at_ acc = tnum l most ∧ k < 18446744073709551616), fun _ _ _ _ _ _ => rfl⟩
        obtain ⟨ms9, hms9⟩ : ∃ F : Nat × Nat × Value × Nat × List Int → Nat, ∀ (k : Nat) (at_ : Nat) (v : Value) (m : Nat) (acc : List Int), F (k, at_, v, m, acc) = (k) := ⟨(fun (s : Nat × Nat × Value × Nat × List Int) => match s with | (k, at_, v, m, acc) => k), fun _ _ _ _ _ => rfl⟩
        refine St_loop En7 Iv8 ms9 (xn, an, Value.slice none 0 0, 0, []) ?_ ?_ ?_
        · skip
          rw [hIv8]
          exact ⟨hs, by omega, rfl, by omega, by omega, htn.symm, by omega⟩
        · rw [hEn7]; exact (subE_cons rfl (subE_cons rfl (subE_cons rfl (subE_cons rfl subE_nil))))
        rintro ⟨k, at_, v, m, acc⟩ wr hI10
        rw [hIv8] at hI10
        obtain ⟨hs, hat, hm, hmat, hmx, htl, hk⟩ := hI10
        refine St_eqE (hEn7 _ _ _ _ _) ?_
        refine St_seq ?_
        refine St_seq ?_
        refine St_region ?_
        refine Ls_run (run_move rfl) rfl ?_
        refine Ls_run (run_gtr rfl rfl) rfl ?_
        refine Ls_nil ?_
        refine Jm_seq ?_
        refine St_ifP rfl (fun h11 => ?_) (fun h11 => ?_)
        · skip
          refine St_skip ?_
          refine Jm_seq ?_
          refine St_seq ?_
          refine St_block ?_
          refine St_seq ?_
          refine St_region ?_
          refine Ls_run (run_move rfl) rfl ?_
          refine Ls_run (run_move rfl) rfl ?_
          obtain ⟨k0, hk0⟩ : ∃ k0, k = k0 + 1 := ⟨k - 1, by omega⟩
          subst hk0
          refine Ls_run (run_slice_l Try.underlying28 inf5 rfl rfl (by omega) (by omega)) rfl ?_
          refine Ls_call Try.func111 nm111 rfl rfl (Take_c wr _ _ _ (l.drop at_) (rdB_drop (hr.inB hs) at_ (by omega)) (hb.drop' at_) (by omega)) rfl ?_
          rintro v12 w13 ⟨rfl, rfl⟩
          obtain ⟨⟨xb, ab, eb⟩, htk2⟩ : ∃ q, tk 0 0 (l.drop at_) = q := ⟨_, rfl⟩
          rw [tkV_eq htk2]
          refine Ls_run (run_move rfl) rfl ?_
          refine Ls_run (run_extract rfl rfl) rfl ?_
          refine Ls_run (run_extract rfl rfl) rfl ?_
          refine Ls_run (run_extract rfl rfl) rfl ?_
          refine Ls_run (run_assign rfl) rfl ?_
          refine Ls_run (run_assign rfl) rfl ?_
          refine Ls_run (run_assign rfl) rfl ?_
          refine Ls_nil ?_
          refine Jm_seq ?_
          refine St_seq ?_
          refine St_seq ?_
          refine St_region ?_
          refine Ls_run (run_move rfl) rfl ?_
          refine Ls_run (run_neq rfl rfl) rfl ?_
          refine Ls_nil ?_
          refine Jm_seq ?_
          refine St_ifP rfl (fun h14 => ?_) (fun h14 => ?_)
          · skip
            refine St_seq ?_
            refine St_region ?_
            refine Ls_run (run_move rfl) rfl ?_
            refine Ls_run (run_assign rfl) rfl ?_
            refine Ls_run (run_assign rfl) rfl ?_
            refine Ls_run (run_assign rfl) rfl ?_
            refine Ls_nil ?_
            refine Jm_seq ?_
            refine St_ret ?_
            refine Jm_then_ret (Jm_block_ret (Jm_then_ret (Jm_then_ret (Jm_block_ret (Jm_then_ret  ?_)))))
            refine Jm_ret3 rfl rfl rfl rfl ?_
            first
            | (rw [tnum_e htk (by assumption)]; exact ⟨_, rfl, _, _, rfl, hs.own_nil _ _⟩)
            | (rw [tnum_6 htk (by omega)]; exact ⟨_, rfl, _, _, rfl, hs.own_nil _ _⟩)
            | (rw [tnl_e htk2 (by assumption)] at htl; rw [← htl]; exact ⟨_, rfl, _, _, rfl, hs.forget.own_nil _ _⟩)
            | (rw [tnl_4 htk2 (by omega)] at htl; rw [← htl]; exact ⟨_, rfl, _, _, rfl, hs.forget.own_nil _ _⟩)
            | (have hk9 : k = 0 := by omega
               rw [hk9] at htl
               rw [← htl]
               subst hm
               obtain ⟨A9, c9, rfl, _, _, _⟩ := hs.own_form
               exact ⟨_, rfl, _, _, rfl, hs⟩)
          · skip
            have e0 : eb = 0 := by omega
            subst e0
            have hrgxn2 := tk_range (hb.drop' at_) htk2
            obtain ⟨xn2, rfl⟩ : ∃ k : Nat, xb = (k : Int) := ⟨xb.toNat, by omega⟩
            obtain ⟨an2, rfl⟩ : ∃ k : Nat, ab = (k : Int) := ⟨ab.toNat, by omega⟩
            simp only [Int.toNat_natCast] at hrgxn2
            rw [List.length_drop] at hrgxn2
            refine St_skip ?_
            refine Jm_seq ?_
            refine St_seq ?_
            refine St_seq ?_
            refine St_region ?_
            refine Ls_run (run_move rfl) rfl ?_
            refine Ls_run (run_gtr rfl rfl) rfl ?_
            refine Ls_nil ?_
            refine Jm_seq ?_
            refine St_ifP rfl (fun h15 => ?_) (fun h15 => ?_)
            · skip
              refine St_seq ?_
              refine St_region ?_
              refine Ls_run (run_assign rfl) rfl ?_
              refine Ls_run (run_assign rfl) rfl ?_
              refine Ls_run (run_assign rfl) rfl ?_
              refine Ls_nil ?_
              refine Jm_seq ?_
              refine St_ret ?_
              refine Jm_then_ret (Jm_block_ret (Jm_then_ret (Jm_then_ret (Jm_block_ret (Jm_then_ret  ?_)))))
              refine Jm_ret3 rfl rfl rfl rfl ?_
              first
              | (rw [tnum_e htk (by assumption)]; exact ⟨_, rfl, _, _, rfl, hs.own_nil _ _⟩)
              | (rw [tnum_6 htk (by omega)]; exact ⟨_, rfl, _, _, rfl, hs.own_nil _ _⟩)
              | (rw [tnl_e htk2 (by assumption)] at htl; rw [← htl]; exact ⟨_, rfl, _, _, rfl, hs.forget.own_nil _ _⟩)
              | (rw [tnl_4 htk2 (by omega)] at htl; rw [← htl]; exact ⟨_, rfl, _, _, rfl, hs.forget.own_nil _ _⟩)
              | (have hk9 : k = 0 := by omega
                 rw [hk9] at htl
                 rw [← htl]
                 subst hm
                 obtain ⟨A9, c9, rfl, _, _, _⟩ := hs.own_form
                 exact ⟨_, rfl, _, _, rfl, hs⟩)
            · skip
              refine St_skip ?_
              refine Jm_seq ?_
              refine St_seq ?_
              refine St_region ?_
              refine Ls_run (run_move rfl) rfl ?_
              refine Ls_run (run_move rfl) rfl ?_
              refine Ls_run (run_conv_int Try.underlying3 us38 rfl (w64 (by omega))) rfl ?_
              refine Ls_literal [_] hs Try.underlying22 inf3 rfl rfl rfl rfl rfl rfl ?_
              intro b16 w17 hs
              simp only [List.flatMap_cons, List.flatMap_nil, Value.cells, List.cons_append, List.nil_append] at hs
              replace hs := hs.front 1 rfl
              simp only [List.cons_append, List.nil_append, List.eraseIdx_cons_zero, List.eraseIdx_cons_succ] at hs
              refine Ls_append hs Try.underlying22 inf3 rfl (by decide) (by decide) rfl rfl (rd_block (hs.is_at 1 rfl).2 1 1 rfl) (by simp [Value.oneCell']) (by omega) rfl ?_
              intro A18 c19 w20 hs
              replace hs := hs.erase 1
              simp only [List.cons_append, List.nil_append, List.eraseIdx_cons_zero, List.eraseIdx_cons_succ] at hs
              refine Ls_run (run_assign rfl) rfl ?_
              refine Ls_nil ?_
              refine Jm_seq ?_
              refine St_region ?_
              refine Ls_run (run_move rfl) rfl ?_
              refine Ls_run (run_move rfl) rfl ?_
              refine Ls_run (run_add rfl rfl (w64 (by omega))) rfl ?_
              refine Ls_run (run_assign rfl) rfl ?_
              refine Ls_nil ?_
              refine Jm_block_normal (Jm_seq ?_)
              refine St_region ?_
              refine Ls_run (run_move rfl) rfl ?_
              refine Ls_run (run_sub rfl rfl (show _ = (k0 : Int) by rw [wu64 (by omega)]; omega)) rfl ?_
              refine Ls_run (run_assign rfl) rfl ?_
              refine Ls_nil ?_
              rw [tnl_o htk2 (by omega)] at htl
              refine Jm_round (k0, at_ + an2, Value.slice A18 (m + 1) c19, m + 1, acc ++ [(xn2 : Int)]) ?_ ?_ ?_
              · rw [hEn7]; exact (subE_cons rfl (subE_cons rfl (subE_cons rfl (subE_cons rfl subE_nil))))
              · skip
                rw [hIv8]
                refine ⟨by rw [← flatI_snoc]; exact hs, by omega, by simp [hm], by omega, by omega, ?_, by omega⟩
                exact htl
              · skip
                rw [hms9, hms9]
                omega
        · skip
          refine St_exit ?_
          refine Jm_then_exit (Jm_then_exit (Jm_block_same (Jm_seq ?_)))
          refine St_seq ?_
          refine St_region ?_
          refine Ls_run (run_move rfl) rfl ?_
          refine Ls_run (run_move rfl) rfl ?_
          refine Ls_run (run_assign rfl) rfl ?_
          refine Ls_run (run_assign rfl) rfl ?_
          refine Ls_run (run_assign rfl) rfl ?_
          refine Ls_nil ?_
          refine Jm_seq ?_
          refine St_ret ?_
          refine Jm_ret3 rfl rfl rfl rfl ?_
          first
          | (rw [tnum_e htk (by assumption)]; exact ⟨_, rfl, _, _, rfl, hs.own_nil _ _⟩)
          | (rw [tnum_6 htk (by omega)]; exact ⟨_, rfl, _, _, rfl, hs.own_nil _ _⟩)
          | (rw [tnl_e htk2 (by assumption)] at htl; rw [← htl]; exact ⟨_, rfl, _, _, rfl, hs.forget.own_nil _ _⟩)
          | (rw [tnl_4 htk2 (by omega)] at htl; rw [← htl]; exact ⟨_, rfl, _, _, rfl, hs.forget.own_nil _ _⟩)
          | (have hk9 : k = 0 := by omega
             rw [hk9] at htl
             rw [← htl]
             subst hm
             obtain ⟨A9, c9, rfl, _, _, _⟩ := hs.own_form
             exact ⟨_, rfl, _, _, rfl, hs⟩)
set_option maxRecDepth 100000 in
set_option maxHeartbeats 1000000 in
theorem rTakeNums_c (w : World) (A : Option Addr) (n c : Nat) (l : List Int) (most : Int) (hr : Rd w A n c 1 (bytesV l)) (hb : IsBytes l) (hn : n ≤ 9223372036854775807 ∧ (n ≤ 8796093022208 ∨ most ≤ 4096)) (hmost : most ≤ 9223372036854775807) :
    Calls Try.prog 114 [.slice A n c, .int .i64 most].toArray w (Ret (fun v' w' => ∃ A' c', v' = .tuple #[.slice A' (tnum l most).1.length c', .int .i64 (tnum l most).2.1, .int .i64 (tnum l most).2.2] ∧ Sat w w' [Own 3 1 (.slice A' (tnum l most).1.length c') (tnum l most).1.length ((El.int .i64).flat (tnum l most).1)])) := by
  have hs := Sat.start w
  have hl : l.length = n := rdB_len hr
  have hnc := hr.cap
  refine Calls_body Try.func114 rfl rfl rfl (envE_cons (i := 0) (v := .slice A n c) rfl (envE_cons (i := 1) (v := .int .i64 most) rfl envE_nil)) ?_
  refine St_seq ?_
  refine St_region ?_
  refine Ls_run (run_assign rfl) rfl ?_
  refine Ls_run (run_assign rfl) rfl ?_
  refine Ls_run (run_assign rfl) rfl ?_
  refine Ls_nil ?_
  refine Jm_seq ?_
  refine St_seq ?_
  refine St_region ?_
  refine Ls_run (run_move rfl) rfl ?_
  refine Ls_call Try.func81 nm81 rfl rfl (rTake_c w _ _ _ l (hr.inB hs) hb (by omega)) rfl ?_
  rintro v1 w2 ⟨rfl, rfl⟩
  obtain ⟨⟨xa, aa, ea⟩, htk⟩ : ∃ q, tk 0 0 l = q := ⟨_, rfl⟩
  rw [tkV_eq htk]
  refine Ls_run (run_move rfl) rfl ?_
  refine Ls_run (run_extract rfl rfl) rfl ?_
  refine Ls_run (run_extract rfl rfl) rfl ?_
  refine Ls_run (run_extract rfl rfl) rfl ?_
  refine Ls_run (run_assign rfl) rfl ?_
  refine Ls_run (run_assign rfl) rfl ?_
  refine Ls_run (run_assign rfl) rfl ?_
  refine Ls_nil ?_
  refine Jm_seq ?_
  refine St_seq ?_
  refine St_seq ?_
  refine St_region ?_
  refine Ls_run (run_move rfl) rfl ?_
  refine Ls_run (run_neq rfl rfl) rfl ?_
  refine Ls_nil ?_
  refine Jm_seq ?_
  refine St_ifP rfl (fun h3 => ?_) (fun h3 => ?_)
  · skip
    refine St_seq ?_
    refine St_region ?_
    refine Ls_run (run_move rfl) rfl ?_
    refine Ls_run (run_assign rfl) rfl ?_
    refine Ls_run (run_assign rfl) rfl ?_
    refine Ls_run (run_assign rfl) rfl ?_
    refine Ls_nil ?_
    refine Jm_seq ?_
    refine St_ret ?_
    refine Jm_then_ret  ?_
    refine Jm_ret3 rfl rfl rfl rfl ?_
    first
    | (rw [tnum_e htk (by assumption)]; exact ⟨_, rfl, _, _, rfl, hs.own_nil _ _⟩)
    | (rw [tnum_6 htk (by omega)]; exact ⟨_, rfl, _, _, rfl, hs.own_nil _ _⟩)
    | (rw [tnl_e htk2 (by assumption)] at htl; rw [← htl]; exact ⟨_, rfl, _, _, rfl, hs.forget.own_nil _ _⟩)
    | (rw [tnl_4 htk2 (by omega)] at htl; rw [← htl]; exact ⟨_, rfl, _, _, rfl, hs.forget.own_nil _ _⟩)
    | (have hk9 : xn - i = 0 := by omega
       rw [hk9] at htl
       rw [← htl]
       subst hm
       obtain ⟨A9, c9, rfl, _, _, _⟩ := hs.own_form
       exact ⟨_, rfl, _, _, rfl, hs⟩)
  · skip
    have e0 : ea = 0 := by omega
    subst e0
    have hrgxn := tk_range hb htk
    obtain ⟨xn, rfl⟩ : ∃ k : Nat, xa = (k : Int) := ⟨xa.toNat, by omega⟩
    obtain ⟨an, rfl⟩ : ∃ k : Nat, aa = (k : Int) := ⟨aa.toNat, by omega⟩
    simp only [Int.toNat_natCast] at hrgxn
    refine St_skip ?_
    refine Jm_seq ?_
    refine St_seq ?_
    refine St_seq ?_
    refine St_region ?_
    refine Ls_run (run_move rfl) rfl ?_
    refine Ls_run (run_lss rfl rfl) rfl ?_
    refine Ls_run (run_move rfl) rfl ?_
    refine Ls_partP (t := 26) rfl (fun h4 => ?_) (fun h4 => ?_)
    · skip
      refine Ls_off rfl rfl rfl rfl ?_
      refine Ls_off rfl rfl rfl rfl ?_
      refine Ls_off rfl rfl rfl rfl ?_
      refine Ls_off rfl rfl rfl rfl ?_
      refine Ls_run (run_pick_t rfl rfl) rfl ?_
      refine Ls_nil ?_
      refine Jm_seq ?_
      refine St_ift rfl ?_
      refine St_seq ?_
      refine St_region ?_
      refine Ls_run (run_assign rfl) rfl ?_
      refine Ls_run (run_assign rfl) rfl ?_
      refine Ls_run (run_assign rfl) rfl ?_
      refine Ls_nil ?_
      refine Jm_seq ?_
      refine St_ret ?_
      refine Jm_then_ret  ?_
      refine Jm_ret3 rfl rfl rfl rfl ?_
      first
      | (rw [tnum_e htk (by assumption)]; exact ⟨_, rfl, _, _, rfl, hs.own_nil _ _⟩)
      | (rw [tnum_6 htk (by omega)]; exact ⟨_, rfl, _, _, rfl, hs.own_nil _ _⟩)
      | (rw [tnl_e htk2 (by assumption)] at htl; rw [← htl]; exact ⟨_, rfl, _, _, rfl, hs.forget.own_nil _ _⟩)
      | (rw [tnl_4 htk2 (by omega)] at htl; rw [← htl]; exact ⟨_, rfl, _, _, rfl, hs.forget.own_nil _ _⟩)
      | (have hk9 : xn - i = 0 := by omega
         rw [hk9] at htl
         rw [← htl]
         subst hm
         obtain ⟨A9, c9, rfl, _, _, _⟩ := hs.own_form
         exact ⟨_, rfl, _, _, rfl, hs⟩)
    · skip
      refine Ls_on rfl rfl ?_
      refine Ls_run (run_move rfl) rfl ?_
      refine Ls_on rfl rfl ?_
      refine Ls_run (run_move rfl) rfl ?_
      refine Ls_on rfl rfl ?_
      refine Ls_run (run_conv_int Try.underlying38 us3 rfl (wu64 (by omega))) rfl ?_
      refine Ls_on rfl rfl ?_
      refine Ls_run (run_gtr rfl rfl) rfl ?_
      refine Ls_run (run_pick_f rfl rfl) rfl ?_
      refine Ls_nil ?_
      refine Jm_seq ?_
      refine St_ifP rfl (fun h6 => ?_) (fun h6 => ?_)
      · skip
        refine St_seq ?_
        refine St_region ?_
        refine Ls_run (run_assign rfl) rfl ?_
        refine Ls_run (run_assign rfl) rfl ?_
        refine Ls_run (run_assign rfl) rfl ?_
        refine Ls_nil ?_
        refine Jm_seq ?_
        refine St_ret ?_
        refine Jm_then_ret  ?_
        refine Jm_ret3 rfl rfl rfl rfl ?_
        first
        | (rw [tnum_e htk (by assumption)]; exact ⟨_, rfl, _, _, rfl, hs.own_nil _ _⟩)
        | (rw [tnum_6 htk (by omega)]; exact ⟨_, rfl, _, _, rfl, hs.own_nil _ _⟩)
        | (rw [tnl_e htk2 (by assumption)] at htl; rw [← htl]; exact ⟨_, rfl, _, _, rfl, hs.forget.own_nil _ _⟩)
        | (rw [tnl_4 htk2 (by omega)] at htl; rw [← htl]; exact ⟨_, rfl, _, _, rfl, hs.forget.own_nil _ _⟩)
        | (have hk9 : xn - i = 0 := by omega
           rw [hk9] at htl
           rw [← htl]
           subst hm
           obtain ⟨A9, c9, rfl, _, _, _⟩ := hs.own_form
           exact ⟨_, rfl, _, _, rfl, hs⟩)
      · skip
        refine St_skip ?_
        refine Jm_seq ?_
        refine St_seq ?_
        refine St_region ?_
        refine Ls_literal [] hs Try.underlying22 inf3 rfl rfl rfl rfl rfl rfl ?_
        intro b7 w9 hs
        simp only [List.flatMap_cons, List.flatMap_nil, Value.cells, List.cons_append, List.nil_append] at hs
        replace hs := Sat.own_block hs 1 0 rfl (by decide)
        refine Ls_run (run_assign rfl) rfl ?_
        refine Ls_nil ?_
        refine Jm_seq ?_
        refine St_seq ?_
        refine St_seq ?_
        refine St_region ?_
        refine Ls_run (run_assign rfl) rfl ?_
        refine Ls_nil ?_
        refine Jm_seq ?_
        refine St_block ?_
        have htn := tnum_o (most := most) htk (by omega)
        obtain ⟨En10, hEn10⟩ : ∃ F : Nat × Nat × Value × Nat × List Int → Env, ∀ (i : Nat) (at_ : Nat) (v : Value) (m : Nat) (acc : List Int), F (i, at_, v, m, acc) = [(0, .slice A n c), (8, .int .i64 (at_ : Int)), (10, v), (7, .int .u64 (xn : Int)), (11, .int .u64 (i : Int))] := ⟨(fun (s : Nat × Nat × Value × Nat × List Int) => match s with | (i, at_, v, m, acc) => [(0, .slice A n c), (8, .int .i64 (at_ : Int)), (10, v), (7, .int .u64 (xn : Int)), (11, .int .u64 (i : Int))]), fun _ _ _ _ _ => rfl⟩
        obtain ⟨Iv11, hIv11⟩ : ∃ F : Nat × Nat × Value × Nat × List Int → World → Prop, ∀ (i : Nat) (at_ : Nat) (v : Value) (m : Nat) (acc : List Int) (wr : World), F (i, at_, v, m, acc) wr = (Sat w wr [Own 3 1 v m ((El.int .i64).flat acc)] ∧ at_ ≤ n ∧ m = acc.length ∧ m ≤ at_ ∧ m + (xn - i) ≤ xn ∧ tnl l (xn - i) at_ acc = tnum l most ∧ i ≤ xn) := ⟨(fun (s : Nat × Nat × Value × Nat × List Int) => match s with | (i, at_, v, m, acc) => fun (wr : World) => Sat w wr [Own 3 1 v m ((El.int .i64).flat acc)] ∧ at_ ≤ n ∧ m = acc.length ∧ m ≤ at_ ∧ m + (xn - i) ≤ xn ∧ tnl l (xn - i) at_ acc = tnum l most ∧ i ≤ xn), fun _ _ _ _ _ _ => rfl⟩
        obtain ⟨ms12, hms12⟩ : ∃ F : Nat × Nat × Value × Nat × List Int → Nat, ∀ (i : Nat) (at_ : Nat) (v : Value) (m : Nat) (acc : List Int), F (i, at_, v, m, acc) = (xn - i) := ⟨(fun (s : Nat × Nat × Value × Nat × List Int) => match s with | (i, at_, v, m, acc) => xn - i), fun _ _ _ _ _ => rfl⟩
        refine St_loop En10 Iv11 ms12 (0, an, (Value.slice (some ⟨b7, 0, none⟩) 0 0), 0, []) ?_ ?_ ?_
        · skip
          rw [hIv11]
          exact ⟨hs, by omega, rfl, by omega, by omega, htn.symm, by omega⟩
        · rw [hEn10]; exact (subE_cons rfl (subE_cons rfl (subE_cons rfl (subE_cons rfl (subE_cons rfl subE_nil)))))
        rintro ⟨i, at_, v, m, acc⟩ wr hI13
        rw [hIv11] at hI13
        obtain ⟨hs, hat, hm, hmat, hmx, htl, hk⟩ := hI13
        refine St_eqE (hEn10 _ _ _ _ _) ?_
        refine St_seq ?_
        refine St_seq ?_
        refine St_region ?_
        refine Ls_run (run_move rfl) rfl ?_
        refine Ls_run (run_move rfl) rfl ?_
        refine Ls_run (run_lss rfl rfl) rfl ?_
        refine Ls_nil ?_
        refine Jm_seq ?_
        refine St_ifP rfl (fun h14 => ?_) (fun h14 => ?_)
        · skip
          refine St_skip ?_
          refine Jm_seq ?_
          refine St_seq ?_
          refine St_block ?_
          refine St_seq ?_
          refine St_region ?_
          refine Ls_run (run_move rfl) rfl ?_
          refine Ls_run (run_move rfl) rfl ?_
          obtain ⟨k0, hk0⟩ : ∃ k0, xn - i = k0 + 1 := ⟨xn - i - 1, by omega⟩
          rw [hk0] at htl
          refine Ls_run (run_slice_l Try.underlying28 inf5 rfl rfl (by omega) (by omega)) rfl ?_
          refine Ls_call Try.func81 nm81 rfl rfl (rTake_c wr _ _ _ (l.drop at_) (rdB_drop (hr.inB hs) at_ (by omega)) (hb.drop' at_) (by omega)) rfl ?_
          rintro v15 w16 ⟨rfl, rfl⟩
          obtain ⟨⟨xb, ab, eb⟩, htk2⟩ : ∃ q, tk 0 0 (l.drop at_) = q := ⟨_, rfl⟩
          rw [tkV_eq htk2]
          refine Ls_run (run_move rfl) rfl ?_
          refine Ls_run (run_extract rfl rfl) rfl ?_
          refine Ls_run (run_extract rfl rfl) rfl ?_
          refine Ls_run (run_extract rfl rfl) rfl ?_
          refine Ls_run (run_assign rfl) rfl ?_
          refine Ls_run (run_assign rfl) rfl ?_
          refine Ls_run (run_assign rfl) rfl ?_
          refine Ls_nil ?_
          refine Jm_seq ?_
          refine St_seq ?_
          refine St_seq ?_
          refine St_region ?_
          refine Ls_run (run_move rfl) rfl ?_
          refine Ls_run (run_neq rfl rfl) rfl ?_
          refine Ls_nil ?_
          refine Jm_seq ?_
          refine St_ifP rfl (fun h17 => ?_) (fun h17 => ?_)
          · skip
            refine St_seq ?_
            refine St_region ?_
            refine Ls_run (run_move rfl) rfl ?_
            refine Ls_run (run_assign rfl) rfl ?_
            refine Ls_run (run_assign rfl) rfl ?_
            refine Ls_run (run_assign rfl) rfl ?_
            refine Ls_nil ?_
            refine Jm_seq ?_
            refine St_ret ?_
            refine Jm_then_ret (Jm_block_ret (Jm_then_ret (Jm_then_ret (Jm_block_ret (Jm_then_ret  ?_)))))
            refine Jm_ret3 rfl rfl rfl rfl ?_
            first
            | (rw [tnum_e htk (by assumption)]; exact ⟨_, rfl, _, _, rfl, hs.own_nil _ _⟩)
            | (rw [tnum_6 htk (by omega)]; exact ⟨_, rfl, _, _, rfl, hs.own_nil _ _⟩)
            | (rw [tnl_e htk2 (by assumption)] at htl; rw [← htl]; exact ⟨_, rfl, _, _, rfl, hs.forget.own_nil _ _⟩)
            | (rw [tnl_4 htk2 (by omega)] at htl; rw [← htl]; exact ⟨_, rfl, _, _, rfl, hs.forget.own_nil _ _⟩)
            | (have hk9 : xn - i = 0 := by omega
               rw [hk9] at htl
               rw [← htl]
               subst hm
               obtain ⟨A9, c9, rfl, _, _, _⟩ := hs.own_form
               exact ⟨_, rfl, _, _, rfl, hs⟩)
          · skip
            have e0 : eb = 0 := by omega
            subst e0
            have hrgxn2 := tk_range (hb.drop' at_) htk2
            obtain ⟨xn2, rfl⟩ : ∃ k : Nat, xb = (k : Int) := ⟨xb.toNat, by omega⟩
            obtain ⟨an2, rfl⟩ : ∃ k : Nat, ab = (k : Int) := ⟨ab.toNat, by omega⟩
            simp only [Int.toNat_natCast] at hrgxn2
            rw [List.length_drop] at hrgxn2
            refine St_skip ?_
            refine Jm_seq ?_
            refine St_seq ?_
            refine St_seq ?_
            refine St_region ?_
            refine Ls_run (run_move rfl) rfl ?_
            refine Ls_run (run_gtr rfl rfl) rfl ?_
            refine Ls_nil ?_
            refine Jm_seq ?_
            refine St_ifP rfl (fun h18 => ?_) (fun h18 => ?_)
            · skip
              refine St_seq ?_
              refine St_region ?_
              refine Ls_run (run_assign rfl) rfl ?_
              refine Ls_run (run_assign rfl) rfl ?_
              refine Ls_run (run_assign rfl) rfl ?_
              refine Ls_nil ?_
              refine Jm_seq ?_
              refine St_ret ?_
              refine Jm_then_ret (Jm_block_ret (Jm_then_ret (Jm_then_ret (Jm_block_ret (Jm_then_ret  ?_)))))
              refine Jm_ret3 rfl rfl rfl rfl ?_
              first
              | (rw [tnum_e htk (by assumption)]; exact ⟨_, rfl, _, _, rfl, hs.own_nil _ _⟩)
              | (rw [tnum_6 htk (by omega)]; exact ⟨_, rfl, _, _, rfl, hs.own_nil _ _⟩)
              | (rw [tnl_e htk2 (by assumption)] at htl; rw [← htl]; exact ⟨_, rfl, _, _, rfl, hs.forget.own_nil _ _⟩)
              | (rw [tnl_4 htk2 (by omega)] at htl; rw [← htl]; exact ⟨_, rfl, _, _, rfl, hs.forget.own_nil _ _⟩)
              | (have hk9 : xn - i = 0 := by omega
                 rw [hk9] at htl
                 rw [← htl]
                 subst hm
                 obtain ⟨A9, c9, rfl, _, _, _⟩ := hs.own_form
                 exact ⟨_, rfl, _, _, rfl, hs⟩)
            · skip
              refine St_skip ?_
              refine Jm_seq ?_
              refine St_seq ?_
              refine St_region ?_
              refine Ls_run (run_move rfl) rfl ?_
              refine Ls_run (run_move rfl) rfl ?_
              refine Ls_run (run_conv_int Try.underlying3 us38 rfl (w64 (by omega))) rfl ?_
              refine Ls_literal [_] hs Try.underlying22 inf3 rfl rfl rfl rfl rfl rfl ?_
              intro b19 w20 hs
              simp only [List.flatMap_cons, List.flatMap_nil, Value.cells, List.cons_append, List.nil_append] at hs
              replace hs := hs.front 1 rfl
              simp only [List.cons_append, List.nil_append, List.eraseIdx_cons_zero, List.eraseIdx_cons_succ] at hs
              refine Ls_append hs Try.underlying22 inf3 rfl (by decide) (by decide) rfl rfl (rd_block (hs.is_at 1 rfl).2 1 1 rfl) (by simp [Value.oneCell']) (by omega) rfl ?_
              intro A21 c22 w23 hs
              replace hs := hs.erase 1
              simp only [List.cons_append, List.nil_append, List.eraseIdx_cons_zero, List.eraseIdx_cons_succ] at hs
              refine Ls_run (run_assign rfl) rfl ?_
              refine Ls_nil ?_
              refine Jm_seq ?_
              refine St_region ?_
              refine Ls_run (run_move rfl) rfl ?_
              refine Ls_run (run_move rfl) rfl ?_
              refine Ls_run (run_add rfl rfl (w64 (by omega))) rfl ?_
              refine Ls_run (run_assign rfl) rfl ?_
              refine Ls_nil ?_
              refine Jm_block_normal (Jm_seq ?_)
              refine St_region ?_
              refine Ls_run (run_move rfl) rfl ?_
              refine Ls_run (run_add rfl rfl (show _ = ((i + 1 : Nat) : Int) by rw [wu64 (by omega)]; omega)) rfl ?_
              refine Ls_run (run_assign rfl) rfl ?_
              refine Ls_nil ?_
              rw [tnl_o htk2 (by omega)] at htl
              have hk1 : xn - (i + 1) = k0 := by omega
              refine Jm_round (i + 1, at_ + an2, Value.slice A21 (m + 1) c22, m + 1, acc ++ [(xn2 : Int)]) ?_ ?_ ?_
              · rw [hEn10]; exact (subE_cons rfl (subE_cons rfl (subE_cons rfl (subE_cons rfl (subE_cons rfl subE_nil)))))
              · skip
                rw [hIv11]
                refine ⟨by rw [← flatI_snoc]; exact hs, by omega, by simp [hm], by omega, by omega, ?_, by omega⟩
                rw [hk1]; exact htl
              · skip
                rw [hms12, hms12]
                omega
        · skip
          refine St_exit ?_
          refine Jm_then_exit (Jm_then_exit (Jm_block_same (Jm_seq ?_)))
          refine St_seq ?_
          refine St_region ?_
          refine Ls_run (run_move rfl) rfl ?_
          refine Ls_run (run_move rfl) rfl ?_
          refine Ls_run (run_assign rfl) rfl ?_
          refine Ls_run (run_assign rfl) rfl ?_
          refine Ls_run (run_assign rfl) rfl ?_
          refine Ls_nil ?_
          refine Jm_seq ?_
          refine St_ret ?_
          refine Jm_ret3 rfl rfl rfl rfl ?_
          first
          | (rw [tnum_e htk (by assumption)]; exact ⟨_, rfl, _, _, rfl, hs.own_nil _ _⟩)
          | (rw [tnum_6 htk (by omega)]; exact ⟨_, rfl, _, _, rfl, hs.own_nil _ _⟩)
          | (rw [tnl_e htk2 (by assumption)] at htl; rw [← htl]; exact ⟨_, rfl, _, _, rfl, hs.forget.own_nil _ _⟩)
          | (rw [tnl_4 htk2 (by omega)] at htl; rw [← htl]; exact ⟨_, rfl, _, _, rfl, hs.forget.own_nil _ _⟩)
          | (have hk9 : xn - i = 0 := by omega
             rw [hk9] at htl
             rw [← htl]
             subst hm
             obtain ⟨A9, c9, rfl, _, _, _⟩ := hs.own_form
             exact ⟨_, rfl, _, _, rfl, hs⟩)
end Go.Proofs.Ytipkfdeiallifaa.Lg
