/-
  The wire's functions, walked: what each call answers and what it makes. By program (gen/wire1.py).
-/
import Derived.Test.YtipkfdeiallifaaTy
import Derived.Test.YtipkfdeiallifaaMo
import Derived.Test.YtipkfdeiallifaaWirePure
import Derived.Laws.Bits64
import Derived.Laws.BitsAllLaws
set_option linter.unusedVariables false
set_option linter.unusedSimpArgs false
namespace Go.Proofs.Ytipkfdeiallifaa.Lg
open Go Go.RowKit Go.Proofs.Ytipkfdeiallifaa.WirePure

theorem or_128 : ∀ a : Nat, a < 256 → a ||| 128 = a % 128 + 128 := by decide +kernel
theorem put_byte (n : Nat) : Go.bits .or .u8 (IntKind.u8.wrap (n : Int)) 128 = ((n % 128 + 128 : Nat) : Int) := by
  have := u8_or_nat (n % 256) 128 (by omega) (by omega)
  rw [or_128 _ (by omega)] at this
  have e : ((n % 256 : Nat) : Int) = IntKind.u8.wrap (n : Int) := by rw [IntKind.wrap_u8]; omega
  rw [e] at this
  rw [show (128 : Int) = ((128 : Nat) : Int) from rfl, this]
  omega
theorem shr7 (n : Nat) : (n : Int) / 2 ^ min (7 : Int).toNat IntKind.u64.bits = ((n / 128 : Nat) : Int) := by
  have : min (7 : Int).toNat IntKind.u64.bits = 7 := by decide
  rw [this]; omega
set_option maxRecDepth 100000 in
set_option maxHeartbeats 1000000 in
theorem put_c (B w : World) (L : List Assn) (v0 : Value) (n0 : Nat) (xs : List Int) (x0 : Nat) (hs : Sat B w (Own 5 1 v0 n0 (bytesV xs) :: L)) (hx : x0 < 18446744073709551616) (hn : n0 + 10 ≤ 140737488355328) :
    Calls Try.prog 109 [v0, .int .u64 (x0 : Int)].toArray w (Ret (fun v' w' => ∃ A c, v' = .slice A (n0 + (pb x0).length) c ∧ Sat B w' (Own 5 1 v' (n0 + (pb x0).length) (bytesV (xs ++ pb x0)) :: L))) := by
  have h10 := pb_len10 hx
  refine Calls_body Try.func109 rfl rfl rfl (envE_cons (i := 0) (v := v0) rfl (envE_cons (i := 1) (v := .int .u64 (x0 : Int)) rfl envE_nil)) ?_
  refine St_seq ?_
  refine St_region ?_
  refine Ls_run (run_assign rfl) rfl ?_
  refine Ls_nil ?_
  refine Jm_seq ?_
  refine St_seq ?_
  refine St_block ?_
  obtain ⟨En1, hEn1⟩ : ∃ F : Nat × Value × Nat × List Int → Env, ∀ (x : Nat) (v : Value) (m : Nat) (ys : List Int), F (x, v, m, ys) = [(0, v), (1, .int .u64 (x : Int))] := ⟨(fun (s : Nat × Value × Nat × List Int) => match s with | (x, v, m, ys) => [(0, v), (1, .int .u64 (x : Int))]), fun _ _ _ _ => rfl⟩
  obtain ⟨Iv2, hIv2⟩ : ∃ F : Nat × Value × Nat × List Int → World → Prop, ∀ (x : Nat) (v : Value) (m : Nat) (ys : List Int) (wr : World), F (x, v, m, ys) wr = (Sat B wr (Own 5 1 v m (bytesV ys) :: L) ∧ x < 18446744073709551616 ∧ ys ++ pb x = xs ++ pb x0 ∧ m + (pb x).length = n0 + (pb x0).length) := ⟨(fun (s : Nat × Value × Nat × List Int) => match s with | (x, v, m, ys) => fun (wr : World) => Sat B wr (Own 5 1 v m (bytesV ys) :: L) ∧ x < 18446744073709551616 ∧ ys ++ pb x = xs ++ pb x0 ∧ m + (pb x).length = n0 + (pb x0).length), fun _ _ _ _ _ => rfl⟩
  obtain ⟨ms3, hms3⟩ : ∃ F : Nat × Value × Nat × List Int → Nat, ∀ (x : Nat) (v : Value) (m : Nat) (ys : List Int), F (x, v, m, ys) = (x) := ⟨(fun (s : Nat × Value × Nat × List Int) => match s with | (x, v, m, ys) => x), fun _ _ _ _ => rfl⟩
  refine St_loop En1 Iv2 ms3 (x0, v0, n0, xs) ?_ ?_ ?_
  · skip
    rw [hIv2]
    exact ⟨hs, hx, rfl, rfl⟩
  · rw [hEn1]; exact (subE_cons rfl (subE_cons rfl subE_nil))
  rintro ⟨x, v, m, ys⟩ wr hI4
  rw [hIv2] at hI4
  obtain ⟨hs, hx, hp, hl⟩ := hI4
  refine St_eqE (hEn1 _ _ _ _) ?_
  have hpos := pb_pos x
  refine St_seq ?_
  refine St_seq ?_
  refine St_region ?_
  refine Ls_run (run_move rfl) rfl ?_
  refine Ls_run (run_geq rfl rfl) rfl ?_
  refine Ls_nil ?_
  refine Jm_seq ?_
  refine St_ifP rfl (fun h5 => ?_) (fun h5 => ?_)
  · skip
    refine St_skip ?_
    refine Jm_seq ?_
    refine St_seq ?_
    refine St_block ?_
    refine St_region ?_
    refine Ls_run (run_move rfl) rfl ?_
    refine Ls_run (run_move rfl) rfl ?_
    refine Ls_run (run_conv_int Try.underlying5 us38 rfl rfl) rfl ?_
    refine Ls_run (run_bits (by simp) rfl rfl (put_byte x)) rfl ?_
    refine Ls_literal [_] hs Try.underlying28 inf5 rfl rfl rfl rfl rfl rfl ?_
    intro b6 w7 hs
    simp only [List.flatMap_cons, List.flatMap_nil, Value.cells, List.cons_append, List.nil_append] at hs
    replace hs := hs.front 1 rfl
    simp only [List.cons_append, List.nil_append, List.eraseIdx_cons_zero, List.eraseIdx_cons_succ] at hs
    refine Ls_append hs Try.underlying28 inf5 rfl (by decide) (by decide) rfl rfl (rd_block (hs.is_at 1 rfl).2 1 1 rfl) (by simp [Value.oneCell']) (by omega) rfl ?_
    intro A8 c9 w10 hs
    replace hs := hs.erase 1
    simp only [List.cons_append, List.nil_append, List.eraseIdx_cons_zero, List.eraseIdx_cons_succ] at hs
    refine Ls_run (run_assign rfl) rfl ?_
    refine Ls_nil ?_
    refine Jm_block_normal (Jm_seq ?_)
    refine St_region ?_
    refine Ls_run (run_move rfl) rfl ?_
    refine Ls_run (run_shr rfl rfl (by omega) (shr7 x)) rfl ?_
    refine Ls_run (run_assign rfl) rfl ?_
    refine Ls_nil ?_
    rw [pb_big (n := x) (by omega)] at hp hl
    simp only [List.length_cons] at hl
    refine Jm_round (x / 128, Value.slice A8 (m + 1) c9, m + 1, ys ++ [((x % 128 + 128 : Nat) : Int)]) ?_ ?_ ?_
    · rw [hEn1]; exact (subE_cons rfl (subE_cons rfl subE_nil))
    · skip
      rw [hIv2]
      refine ⟨?_, by omega, ?_, by omega⟩
      · rw [bytesV_append]; exact hs
      · rw [← hp]; simp
    · skip
      rw [hms3, hms3]
      omega
  · skip
    refine St_exit ?_
    refine Jm_then_exit (Jm_then_exit (Jm_block_same (Jm_seq ?_)))
    refine St_seq ?_
    refine St_region ?_
    refine Ls_run (run_move rfl) rfl ?_
    refine Ls_run (run_move rfl) rfl ?_
    refine Ls_run (run_conv_int Try.underlying5 us38 rfl rfl) rfl ?_
    refine Ls_literal [_] hs Try.underlying28 inf5 rfl rfl rfl rfl rfl rfl ?_
    intro b11 w12 hs
    simp only [List.flatMap_cons, List.flatMap_nil, Value.cells, List.cons_append, List.nil_append] at hs
    replace hs := hs.front 1 rfl
    simp only [List.cons_append, List.nil_append, List.eraseIdx_cons_zero, List.eraseIdx_cons_succ] at hs
    refine Ls_append hs Try.underlying28 inf5 rfl (by decide) (by decide) rfl rfl (rd_block (hs.is_at 1 rfl).2 1 1 rfl) (by simp [Value.oneCell']) (by omega) rfl ?_
    intro A13 c14 w15 hs
    replace hs := hs.erase 1
    simp only [List.cons_append, List.nil_append, List.eraseIdx_cons_zero, List.eraseIdx_cons_succ] at hs
    refine Ls_run (run_assign rfl) rfl ?_
    refine Ls_nil ?_
    refine Jm_seq ?_
    refine St_ret ?_
    refine Jm_ret1 rfl rfl ?_
    rw [pb_small (n := x) (by omega)] at hp hl
    have e : IntKind.u8.wrap (x : Int) = (x : Int) := wu8 (by omega)
    rw [e] at hs
    have e2 : m + 1 = n0 + (pb x0).length := by simpa using hl
    rw [e2] at hs ⊢
    refine ⟨_, rfl, _, _, rfl, ?_⟩
    rw [← hp, bytesV_append]; exact hs
set_option maxRecDepth 100000 in
set_option maxHeartbeats 1000000 in
theorem Put_c (w : World) (x0 : Nat) (hx : x0 < 18446744073709551616) :
    Calls Try.prog 62 [.int .u64 (x0 : Int)].toArray w (Ret (fun v' w' => ∃ A c, v' = .slice A (pb x0).length c ∧ Sat w w' [Own 5 1 v' (pb x0).length (bytesV (pb x0))])) := by
  have hs := Sat.start w
  refine Calls_body Try.func62 rfl rfl rfl (envE_cons (i := 0) (v := .int .u64 (x0 : Int)) rfl envE_nil) ?_
  refine St_seq ?_
  refine St_region ?_
  refine Ls_run (run_assign rfl) rfl ?_
  refine Ls_nil ?_
  refine Jm_seq ?_
  refine St_seq ?_
  refine St_region ?_
  refine Ls_run (run_move rfl) rfl ?_
  replace hs := hs.own_nil 5 1
  refine Ls_call Try.func109 nm109 rfl rfl (put_c w _ [] (.slice none 0 0) 0 [] x0 hs hx (by omega)) rfl ?_
  rintro v1 w2 ⟨A, c, rfl, hs⟩
  refine Ls_run (run_assign rfl) rfl ?_
  refine Ls_nil ?_
  refine Jm_seq ?_
  refine St_ret ?_
  refine Jm_ret1 rfl rfl ?_
  simp only [Nat.zero_add, List.nil_append] at hs ⊢
  exact ⟨_, rfl, A, c, rfl, hs⟩

theorem and_127 : ∀ a : Nat, a < 256 → a &&& (255 - 128) = a % 128 := by decide +kernel
theorem and_128 : ∀ a : Nat, a < 256 → ((a &&& 128) = 0 ↔ a < 128) := by decide +kernel
theorem andb_128 (c : Nat) (h : c < 256) : (Go.bits .and .u8 (c : Int) 128 ≠ 0) ↔ 128 ≤ c := by
  have := u8_and_nat c 128 h (by omega)
  rw [show (128 : Int) = ((128 : Nat) : Int) from rfl, this]
  have := and_128 c h
  omega
theorem take_or (i : Nat) (hi : i ≤ 9) (acc c : Nat) (ha : acc < 128 ^ i) (hc : c < 256) (h9 : i = 9 → c ≤ 1) :
    Go.bits .or .u64 (acc : Int) (IntKind.u64.wrap (IntKind.u64.wrap (Go.bits .andNot .u8 (c : Int) 128) * 2 ^ min (7 * (i : Int)).toNat IntKind.u64.bits)) = ((acc + (c % 128) * 128 ^ i : Nat) : Int) := by
  have h1 : Go.bits .andNot .u8 (c : Int) 128 = ((c % 128 : Nat) : Int) := by
    have := u8_andNot_nat c 128 hc (by omega)
    rw [and_127 c hc] at this
    exact this
  have hp : (128 : Nat) ^ i = 2 ^ (7 * i) := by rw [Nat.pow_mul]
  have hb : (c % 128) * 128 ^ i < 18446744073709551616 ∧ 128 ^ i ≤ 9223372036854775808 := by
    have : i = 0 ∨ i = 1 ∨ i = 2 ∨ i = 3 ∨ i = 4 ∨ i = 5 ∨ i = 6 ∨ i = 7 ∨ i = 8 ∨ i = 9 := by omega
    rcases this with rfl | rfl | rfl | rfl | rfl | rfl | rfl | rfl | rfl | rfl <;> simp only [Nat.reducePow] <;> omega
  have hm : min (7 * (i : Int)).toNat IntKind.u64.bits = 7 * i := by
    have : IntKind.u64.bits = 64 := rfl
    omega
  rw [h1, wu64 (n := ((c % 128 : Nat) : Int)) (by omega), hm]
  have hs : ((c % 128 : Nat) : Int) * 2 ^ (7 * i) = ((c % 128 * 128 ^ i : Nat) : Int) := by rw [hp]; simp
  rw [hs, wu64 (by omega), u64_or_nat _ _ (by omega) hb.1, hp]
  rw [hp] at ha
  congr 1
  rw [Nat.or_comm, ← Nat.shiftLeft_eq, ← Nat.shiftLeft_add_eq_or_of_lt ha, Nat.add_comm]
theorem tk_step (l : List Int) (i : Nat) (acc : Int) (hi : i < l.length) : tk i acc (l.drop i) =
    if i = 9 ∧ 1 < l.getD i 0 then (0, 0, 4)
    else if 128 ≤ l.getD i 0 then tk (i + 1) (acc + (l.getD i 0 % 128) * (128 ^ i : Nat)) (l.drop (i + 1))
    else if l.getD i 0 = 0 ∧ 0 < i then (0, 0, 4)
    else (acc + l.getD i 0 * (128 ^ i : Nat), (i : Int) + 1, 0) := by
  rw [List.drop_eq_getElem_cons hi, tk_cons, List.getD_eq_getElem?_getD, List.getElem?_eq_getElem hi]
  rfl
/-- The answer of Take. -/
def tkV (l : List Int) : Value := .tuple #[.int .u64 (tk 0 0 l).1, .int .i64 (tk 0 0 l).2.1, .int .i64 (tk 0 0 l).2.2]
theorem tkV_eq {l : List Int} {x a e : Int} (h : tk 0 0 l = (x, a, e)) : tkV l = .tuple #[.int .u64 x, .int .i64 a, .int .i64 e] := by unfold tkV; rw [h]
set_option maxRecDepth 100000 in
set_option maxHeartbeats 1000000 in
theorem Take_c (w : World) (A : Option Addr) (n c : Nat) (l : List Int) (hr : Rd w A n c 1 (bytesV l)) (hb : IsBytes l) (hn : n ≤ 9223372036854775807) :
    Calls Try.prog 111 [.slice A n c].toArray w (Ret (fun v' w' => w = w' ∧ v' = tkV l)) := by
  have hl : l.length = n := by have := hr.len; rw [bytesV_length] at this; omega
  rw [bytesV_flat] at hr
  refine Calls_body Try.func111 rfl rfl rfl (envE_cons (i := 0) (v := .slice A n c) rfl envE_nil) ?_
  refine St_seq ?_
  refine St_region ?_
  refine Ls_run (run_assign rfl) rfl ?_
  refine Ls_run (run_assign rfl) rfl ?_
  refine Ls_run (run_assign rfl) rfl ?_
  refine Ls_nil ?_
  refine Jm_seq ?_
  refine St_seq ?_
  refine St_region ?_
  refine Ls_run (run_assign rfl) rfl ?_
  refine Ls_nil ?_
  refine Jm_seq ?_
  refine St_seq ?_
  refine St_seq ?_
  refine St_region ?_
  refine Ls_run (run_move rfl) rfl ?_
  refine Ls_run (run_len Try.underlying28 rfl) rfl ?_
  refine Ls_run (run_move rfl) rfl ?_
  refine Ls_nil ?_
  refine Jm_seq ?_
  refine St_block ?_
  obtain ⟨En1, hEn1⟩ : ∃ F : Nat × Nat → Env, ∀ (i : Nat) (acc : Nat), F (i, acc) = [(8, .slice A n c), (9, .int .i64 (n : Int)), (10, .int .i64 (i : Int)), (5, .int .u64 (acc : Int))] := ⟨(fun (s : Nat × Nat) => match s with | (i, acc) => [(8, .slice A n c), (9, .int .i64 (n : Int)), (10, .int .i64 (i : Int)), (5, .int .u64 (acc : Int))]), fun _ _ => rfl⟩
  obtain ⟨Iv2, hIv2⟩ : ∃ F : Nat × Nat → World → Prop, ∀ (i : Nat) (acc : Nat) (wr : World), F (i, acc) wr = (w = wr ∧ i ≤ n ∧ i ≤ 9 ∧ acc < 128 ^ i ∧ tk i (acc : Int) (l.drop i) = tk 0 0 l) := ⟨(fun (s : Nat × Nat) => match s with | (i, acc) => fun (wr : World) => w = wr ∧ i ≤ n ∧ i ≤ 9 ∧ acc < 128 ^ i ∧ tk i (acc : Int) (l.drop i) = tk 0 0 l), fun _ _ _ => rfl⟩
  obtain ⟨ms3, hms3⟩ : ∃ F : Nat × Nat → Nat, ∀ (i : Nat) (acc : Nat), F (i, acc) = (n - i) := ⟨(fun (s : Nat × Nat) => match s with | (i, acc) => n - i), fun _ _ => rfl⟩
  refine St_loop En1 Iv2 ms3 (0, 0) ?_ ?_ ?_
  · skip
    rw [hIv2]
    exact ⟨rfl, by omega, by omega, by decide, rfl⟩
  · rw [hEn1]; exact (subE_cons rfl (subE_cons rfl (subE_cons rfl (subE_cons rfl subE_nil))))
  rintro ⟨i, acc⟩ wr hI4
  rw [hIv2] at hI4
  obtain ⟨rfl, hin, hi9, hacc, htk⟩ := hI4
  refine St_eqE (hEn1 _ _) ?_
  refine St_seq ?_
  refine St_region ?_
  refine Ls_run (run_lss rfl rfl) rfl ?_
  refine Ls_nil ?_
  refine Jm_seq ?_
  refine St_seq ?_
  refine St_ifP rfl (fun h5 => ?_) (fun h5 => ?_)
  · skip
    refine St_skip ?_
    refine Jm_seq ?_
    refine St_seq ?_
    refine St_block ?_
    refine St_seq ?_
    refine St_region ?_
    refine Ls_run (run_move rfl) rfl ?_
    have hbi := hb (l.getD i 0) (by rw [List.getD_eq_getElem?_getD, List.getElem?_eq_getElem (show i < l.length by omega)]; exact List.getElem_mem _)
    obtain ⟨cn, hcv⟩ : ∃ cn : Nat, l.getD i 0 = (cn : Int) := ⟨(l.getD i 0).toNat, by omega⟩
    rw [hcv] at hbi
    refine Ls_index (El.int .u8) hr Try.underlying28 inf5 rfl rfl (by omega) (by omega) hcv rfl ?_
    intro b6 o7 hc8
    refine Ls_run (run_load sc5 rfl (hc8 0 _ rfl)) rfl ?_
    refine Ls_run (run_assign rfl) rfl ?_
    refine Ls_run (run_assign rfl) rfl ?_
    refine Ls_nil ?_
    refine Jm_seq ?_
    refine St_seq ?_
    refine St_seq ?_
    refine St_region ?_
    refine Ls_run (run_move rfl) rfl ?_
    refine Ls_run (run_eql rfl rfl) rfl ?_
    refine Ls_run (run_move rfl) rfl ?_
    refine Ls_partP (t := 17) rfl (fun h9 => ?_) (fun h9 => ?_)
    · skip
      refine Ls_on rfl rfl ?_
      refine Ls_run (run_move rfl) rfl ?_
      refine Ls_on rfl rfl ?_
      refine Ls_run (run_gtr rfl rfl) rfl ?_
      refine Ls_run (run_pick_t rfl rfl) rfl ?_
      refine Ls_nil ?_
      refine Jm_seq ?_
      refine St_ifP rfl (fun h10 => ?_) (fun h10 => ?_)
      · skip
        refine St_seq ?_
        refine St_region ?_
        refine Ls_run (run_assign rfl) rfl ?_
        refine Ls_run (run_assign rfl) rfl ?_
        refine Ls_run (run_assign rfl) rfl ?_
        refine Ls_nil ?_
        refine Jm_seq ?_
        refine St_ret ?_
        refine Jm_then_ret (Jm_block_ret (Jm_then_ret (Jm_then_ret (Jm_block_ret (Jm_then_ret  ?_)))))
        refine Jm_ret3 rfl rfl rfl rfl ?_
        first
        | (rw [List.drop_eq_nil_of_le (by omega)] at htk; exact ⟨_, rfl, rfl, (tkV_eq htk.symm).symm⟩)
        | (rw [tk_step l i acc (by omega), hcv, if_pos (by omega)] at htk; exact ⟨_, rfl, rfl, (tkV_eq htk.symm).symm⟩)
        | (rw [tk_step l i acc (by omega), hcv, if_neg (by omega), if_neg (by omega), if_pos (by omega)] at htk; exact ⟨_, rfl, rfl, (tkV_eq htk.symm).symm⟩)
        | (rw [tk_step l i acc (by omega), hcv, if_neg (by omega), if_neg (by omega), if_neg (by omega)] at htk; have e : cn % 128 = cn := by omega
           rw [e]; refine ⟨_, rfl, rfl, ?_⟩; rw [tkV_eq htk.symm]; simp)
      · skip
        refine St_skip ?_
        refine Jm_seq ?_
        refine St_seq ?_
        refine St_region ?_
        refine Ls_run (run_move rfl) rfl ?_
        refine Ls_run (run_move rfl) rfl ?_
        refine Ls_run (run_bits (by simp) rfl rfl rfl) rfl ?_
        refine Ls_run (run_conv_int Try.underlying38 us5 rfl rfl) rfl ?_
        refine Ls_run (run_move rfl) rfl ?_
        refine Ls_run (run_mul rfl rfl (w64 (by omega))) rfl ?_
        refine Ls_run (run_shl rfl rfl (by omega) rfl) rfl ?_
        refine Ls_run (run_bits (by simp) rfl rfl (take_or i hi9 acc cn hacc (by omega) (by omega))) rfl ?_
        refine Ls_run (run_assign rfl) rfl ?_
        refine Ls_nil ?_
        refine Jm_seq ?_
        refine St_seq ?_
        refine St_seq ?_
        refine St_region ?_
        refine Ls_run (run_move rfl) rfl ?_
        refine Ls_run (run_bits (by simp) rfl rfl rfl) rfl ?_
        refine Ls_run (run_neq rfl rfl) rfl ?_
        refine Ls_nil ?_
        refine Jm_seq ?_
        refine St_ifP rfl (fun h11 => ?_) (fun h11 => ?_)
        · skip
          have h11 := (andb_128 cn (by omega)).1 h11
          refine St_exit ?_
          refine Jm_then_exit (Jm_block_same (Jm_seq ?_))
          refine St_region ?_
          refine Ls_run (run_add rfl rfl (w64 (by omega))) rfl ?_
          refine Ls_run (run_move rfl) rfl ?_
          refine Ls_nil ?_
          have hi9 : i < 9 := by omega
          rw [tk_step l i acc (by omega), hcv, if_neg (by omega), if_pos (by omega)] at htk
          refine Jm_round (i + 1, acc + (cn % 128) * 128 ^ i) ?_ ?_ ?_
          · rw [hEn1]; exact (subE_cons rfl (subE_cons rfl (subE_cons rfl (subE_cons rfl subE_nil))))
          · skip
            rw [hIv2]
            refine ⟨rfl, by omega, by omega, ?_, ?_⟩
            · rw [Nat.pow_succ]; have hm : cn % 128 ≤ 127 := by omega
              have := Nat.mul_le_mul_right (128 ^ i) hm; omega
            · rw [← htk]; simp
          · skip
            rw [hms3, hms3]
            omega
        · skip
          have h11 : ¬ 128 ≤ cn := fun q => h11 ((andb_128 cn (by omega)).2 q)
          refine St_skip ?_
          refine Jm_seq ?_
          refine St_seq ?_
          refine St_seq ?_
          refine St_region ?_
          refine Ls_run (run_move rfl) rfl ?_
          refine Ls_run (run_eql rfl rfl) rfl ?_
          refine Ls_run (run_move rfl) rfl ?_
          refine Ls_partP (t := 34) rfl (fun h12 => ?_) (fun h12 => ?_)
          · skip
            refine Ls_on rfl rfl ?_
            refine Ls_run (run_move rfl) rfl ?_
            refine Ls_on rfl rfl ?_
            refine Ls_run (run_gtr rfl rfl) rfl ?_
            refine Ls_run (run_pick_t rfl rfl) rfl ?_
            refine Ls_nil ?_
            refine Jm_seq ?_
            refine St_ifP rfl (fun h13 => ?_) (fun h13 => ?_)
            · skip
              refine St_seq ?_
              refine St_region ?_
              refine Ls_run (run_assign rfl) rfl ?_
              refine Ls_run (run_assign rfl) rfl ?_
              refine Ls_run (run_assign rfl) rfl ?_
              refine Ls_nil ?_
              refine Jm_seq ?_
              refine St_ret ?_
              refine Jm_then_ret (Jm_block_ret (Jm_then_ret (Jm_then_ret (Jm_block_ret (Jm_then_ret  ?_)))))
              refine Jm_ret3 rfl rfl rfl rfl ?_
              first
              | (rw [List.drop_eq_nil_of_le (by omega)] at htk; exact ⟨_, rfl, rfl, (tkV_eq htk.symm).symm⟩)
              | (rw [tk_step l i acc (by omega), hcv, if_pos (by omega)] at htk; exact ⟨_, rfl, rfl, (tkV_eq htk.symm).symm⟩)
              | (rw [tk_step l i acc (by omega), hcv, if_neg (by omega), if_neg (by omega), if_pos (by omega)] at htk; exact ⟨_, rfl, rfl, (tkV_eq htk.symm).symm⟩)
              | (rw [tk_step l i acc (by omega), hcv, if_neg (by omega), if_neg (by omega), if_neg (by omega)] at htk; have e : cn % 128 = cn := by omega
                 rw [e]; refine ⟨_, rfl, rfl, ?_⟩; rw [tkV_eq htk.symm]; simp)
            · skip
              refine St_skip ?_
              refine Jm_seq ?_
              refine St_seq ?_
              refine St_region ?_
              refine Ls_run (run_move rfl) rfl ?_
              refine Ls_run (run_move rfl) rfl ?_
              refine Ls_run (run_add rfl rfl (w64 (by omega))) rfl ?_
              refine Ls_run (run_assign rfl) rfl ?_
              refine Ls_run (run_assign rfl) rfl ?_
              refine Ls_run (run_assign rfl) rfl ?_
              refine Ls_nil ?_
              refine Jm_seq ?_
              refine St_ret ?_
              refine Jm_block_ret (Jm_then_ret (Jm_then_ret (Jm_block_ret (Jm_then_ret  ?_))))
              refine Jm_ret3 rfl rfl rfl rfl ?_
              first
              | (rw [List.drop_eq_nil_of_le (by omega)] at htk; exact ⟨_, rfl, rfl, (tkV_eq htk.symm).symm⟩)
              | (rw [tk_step l i acc (by omega), hcv, if_pos (by omega)] at htk; exact ⟨_, rfl, rfl, (tkV_eq htk.symm).symm⟩)
              | (rw [tk_step l i acc (by omega), hcv, if_neg (by omega), if_neg (by omega), if_pos (by omega)] at htk; exact ⟨_, rfl, rfl, (tkV_eq htk.symm).symm⟩)
              | (rw [tk_step l i acc (by omega), hcv, if_neg (by omega), if_neg (by omega), if_neg (by omega)] at htk; have e : cn % 128 = cn := by omega
                 rw [e]; refine ⟨_, rfl, rfl, ?_⟩; rw [tkV_eq htk.symm]; simp)
          · skip
            refine Ls_off rfl rfl rfl rfl ?_
            refine Ls_off rfl rfl rfl rfl ?_
            refine Ls_run (run_pick_f rfl rfl) rfl ?_
            refine Ls_nil ?_
            refine Jm_seq ?_
            refine St_iff rfl ?_
            refine St_skip ?_
            refine Jm_seq ?_
            refine St_seq ?_
            refine St_region ?_
            refine Ls_run (run_move rfl) rfl ?_
            refine Ls_run (run_move rfl) rfl ?_
            refine Ls_run (run_add rfl rfl (w64 (by omega))) rfl ?_
            refine Ls_run (run_assign rfl) rfl ?_
            refine Ls_run (run_assign rfl) rfl ?_
            refine Ls_run (run_assign rfl) rfl ?_
            refine Ls_nil ?_
            refine Jm_seq ?_
            refine St_ret ?_
            refine Jm_block_ret (Jm_then_ret (Jm_then_ret (Jm_block_ret (Jm_then_ret  ?_))))
            refine Jm_ret3 rfl rfl rfl rfl ?_
            first
            | (rw [List.drop_eq_nil_of_le (by omega)] at htk; exact ⟨_, rfl, rfl, (tkV_eq htk.symm).symm⟩)
            | (rw [tk_step l i acc (by omega), hcv, if_pos (by omega)] at htk; exact ⟨_, rfl, rfl, (tkV_eq htk.symm).symm⟩)
            | (rw [tk_step l i acc (by omega), hcv, if_neg (by omega), if_neg (by omega), if_pos (by omega)] at htk; exact ⟨_, rfl, rfl, (tkV_eq htk.symm).symm⟩)
            | (rw [tk_step l i acc (by omega), hcv, if_neg (by omega), if_neg (by omega), if_neg (by omega)] at htk; have e : cn % 128 = cn := by omega
               rw [e]; refine ⟨_, rfl, rfl, ?_⟩; rw [tkV_eq htk.symm]; simp)
    · skip
      refine Ls_off rfl rfl rfl rfl ?_
      refine Ls_off rfl rfl rfl rfl ?_
      refine Ls_run (run_pick_f rfl rfl) rfl ?_
      refine Ls_nil ?_
      refine Jm_seq ?_
      refine St_iff rfl ?_
      refine St_skip ?_
      refine Jm_seq ?_
      refine St_seq ?_
      refine St_region ?_
      refine Ls_run (run_move rfl) rfl ?_
      refine Ls_run (run_move rfl) rfl ?_
      refine Ls_run (run_bits (by simp) rfl rfl rfl) rfl ?_
      refine Ls_run (run_conv_int Try.underlying38 us5 rfl rfl) rfl ?_
      refine Ls_run (run_move rfl) rfl ?_
      refine Ls_run (run_mul rfl rfl (w64 (by omega))) rfl ?_
      refine Ls_run (run_shl rfl rfl (by omega) rfl) rfl ?_
      refine Ls_run (run_bits (by simp) rfl rfl (take_or i hi9 acc cn hacc (by omega) (by omega))) rfl ?_
      refine Ls_run (run_assign rfl) rfl ?_
      refine Ls_nil ?_
      refine Jm_seq ?_
      refine St_seq ?_
      refine St_seq ?_
      refine St_region ?_
      refine Ls_run (run_move rfl) rfl ?_
      refine Ls_run (run_bits (by simp) rfl rfl rfl) rfl ?_
      refine Ls_run (run_neq rfl rfl) rfl ?_
      refine Ls_nil ?_
      refine Jm_seq ?_
      refine St_ifP rfl (fun h16 => ?_) (fun h16 => ?_)
      · skip
        have h16 := (andb_128 cn (by omega)).1 h16
        refine St_exit ?_
        refine Jm_then_exit (Jm_block_same (Jm_seq ?_))
        refine St_region ?_
        refine Ls_run (run_add rfl rfl (w64 (by omega))) rfl ?_
        refine Ls_run (run_move rfl) rfl ?_
        refine Ls_nil ?_
        have hi9 : i < 9 := by omega
        rw [tk_step l i acc (by omega), hcv, if_neg (by omega), if_pos (by omega)] at htk
        refine Jm_round (i + 1, acc + (cn % 128) * 128 ^ i) ?_ ?_ ?_
        · rw [hEn1]; exact (subE_cons rfl (subE_cons rfl (subE_cons rfl (subE_cons rfl subE_nil))))
        · skip
          rw [hIv2]
          refine ⟨rfl, by omega, by omega, ?_, ?_⟩
          · rw [Nat.pow_succ]; have hm : cn % 128 ≤ 127 := by omega
            have := Nat.mul_le_mul_right (128 ^ i) hm; omega
          · rw [← htk]; simp
        · skip
          rw [hms3, hms3]
          omega
      · skip
        have h16 : ¬ 128 ≤ cn := fun q => h16 ((andb_128 cn (by omega)).2 q)
        refine St_skip ?_
        refine Jm_seq ?_
        refine St_seq ?_
        refine St_seq ?_
        refine St_region ?_
        refine Ls_run (run_move rfl) rfl ?_
        refine Ls_run (run_eql rfl rfl) rfl ?_
        refine Ls_run (run_move rfl) rfl ?_
        refine Ls_partP (t := 34) rfl (fun h17 => ?_) (fun h17 => ?_)
        · skip
          refine Ls_on rfl rfl ?_
          refine Ls_run (run_move rfl) rfl ?_
          refine Ls_on rfl rfl ?_
          refine Ls_run (run_gtr rfl rfl) rfl ?_
          refine Ls_run (run_pick_t rfl rfl) rfl ?_
          refine Ls_nil ?_
          refine Jm_seq ?_
          refine St_ifP rfl (fun h18 => ?_) (fun h18 => ?_)
          · skip
            refine St_seq ?_
            refine St_region ?_
            refine Ls_run (run_assign rfl) rfl ?_
            refine Ls_run (run_assign rfl) rfl ?_
            refine Ls_run (run_assign rfl) rfl ?_
            refine Ls_nil ?_
            refine Jm_seq ?_
            refine St_ret ?_
            refine Jm_then_ret (Jm_block_ret (Jm_then_ret (Jm_then_ret (Jm_block_ret (Jm_then_ret  ?_)))))
            refine Jm_ret3 rfl rfl rfl rfl ?_
            first
            | (rw [List.drop_eq_nil_of_le (by omega)] at htk; exact ⟨_, rfl, rfl, (tkV_eq htk.symm).symm⟩)
            | (rw [tk_step l i acc (by omega), hcv, if_pos (by omega)] at htk; exact ⟨_, rfl, rfl, (tkV_eq htk.symm).symm⟩)
            | (rw [tk_step l i acc (by omega), hcv, if_neg (by omega), if_neg (by omega), if_pos (by omega)] at htk; exact ⟨_, rfl, rfl, (tkV_eq htk.symm).symm⟩)
            | (rw [tk_step l i acc (by omega), hcv, if_neg (by omega), if_neg (by omega), if_neg (by omega)] at htk; have e : cn % 128 = cn := by omega
               rw [e]; refine ⟨_, rfl, rfl, ?_⟩; rw [tkV_eq htk.symm]; simp)
          · skip
            refine St_skip ?_
            refine Jm_seq ?_
            refine St_seq ?_
            refine St_region ?_
            refine Ls_run (run_move rfl) rfl ?_
            refine Ls_run (run_move rfl) rfl ?_
            refine Ls_run (run_add rfl rfl (w64 (by omega))) rfl ?_
            refine Ls_run (run_assign rfl) rfl ?_
            refine Ls_run (run_assign rfl) rfl ?_
            refine Ls_run (run_assign rfl) rfl ?_
            refine Ls_nil ?_
            refine Jm_seq ?_
            refine St_ret ?_
            refine Jm_block_ret (Jm_then_ret (Jm_then_ret (Jm_block_ret (Jm_then_ret  ?_))))
            refine Jm_ret3 rfl rfl rfl rfl ?_
            first
            | (rw [List.drop_eq_nil_of_le (by omega)] at htk; exact ⟨_, rfl, rfl, (tkV_eq htk.symm).symm⟩)
            | (rw [tk_step l i acc (by omega), hcv, if_pos (by omega)] at htk; exact ⟨_, rfl, rfl, (tkV_eq htk.symm).symm⟩)
            | (rw [tk_step l i acc (by omega), hcv, if_neg (by omega), if_neg (by omega), if_pos (by omega)] at htk; exact ⟨_, rfl, rfl, (tkV_eq htk.symm).symm⟩)
            | (rw [tk_step l i acc (by omega), hcv, if_neg (by omega), if_neg (by omega), if_neg (by omega)] at htk; have e : cn % 128 = cn := by omega
               rw [e]; refine ⟨_, rfl, rfl, ?_⟩; rw [tkV_eq htk.symm]; simp)
        · skip
          refine Ls_off rfl rfl rfl rfl ?_
          refine Ls_off rfl rfl rfl rfl ?_
          refine Ls_run (run_pick_f rfl rfl) rfl ?_
          refine Ls_nil ?_
          refine Jm_seq ?_
          refine St_iff rfl ?_
          refine St_skip ?_
          refine Jm_seq ?_
          refine St_seq ?_
          refine St_region ?_
          refine Ls_run (run_move rfl) rfl ?_
          refine Ls_run (run_move rfl) rfl ?_
          refine Ls_run (run_add rfl rfl (w64 (by omega))) rfl ?_
          refine Ls_run (run_assign rfl) rfl ?_
          refine Ls_run (run_assign rfl) rfl ?_
          refine Ls_run (run_assign rfl) rfl ?_
          refine Ls_nil ?_
          refine Jm_seq ?_
          refine St_ret ?_
          refine Jm_block_ret (Jm_then_ret (Jm_then_ret (Jm_block_ret (Jm_then_ret  ?_))))
          refine Jm_ret3 rfl rfl rfl rfl ?_
          first
          | (rw [List.drop_eq_nil_of_le (by omega)] at htk; exact ⟨_, rfl, rfl, (tkV_eq htk.symm).symm⟩)
          | (rw [tk_step l i acc (by omega), hcv, if_pos (by omega)] at htk; exact ⟨_, rfl, rfl, (tkV_eq htk.symm).symm⟩)
          | (rw [tk_step l i acc (by omega), hcv, if_neg (by omega), if_neg (by omega), if_pos (by omega)] at htk; exact ⟨_, rfl, rfl, (tkV_eq htk.symm).symm⟩)
          | (rw [tk_step l i acc (by omega), hcv, if_neg (by omega), if_neg (by omega), if_neg (by omega)] at htk; have e : cn % 128 = cn := by omega
             rw [e]; refine ⟨_, rfl, rfl, ?_⟩; rw [tkV_eq htk.symm]; simp)
  · skip
    refine St_exit ?_
    refine Jm_then_exit (Jm_then_exit (Jm_block_same (Jm_seq ?_)))
    refine St_seq ?_
    refine St_region ?_
    refine Ls_run (run_assign rfl) rfl ?_
    refine Ls_run (run_assign rfl) rfl ?_
    refine Ls_run (run_assign rfl) rfl ?_
    refine Ls_nil ?_
    refine Jm_seq ?_
    refine St_ret ?_
    refine Jm_ret3 rfl rfl rfl rfl ?_
    first
    | (rw [List.drop_eq_nil_of_le (by omega)] at htk; exact ⟨_, rfl, rfl, (tkV_eq htk.symm).symm⟩)
    | (rw [tk_step l i acc (by omega), hcv, if_pos (by omega)] at htk; exact ⟨_, rfl, rfl, (tkV_eq htk.symm).symm⟩)
    | (rw [tk_step l i acc (by omega), hcv, if_neg (by omega), if_neg (by omega), if_pos (by omega)] at htk; exact ⟨_, rfl, rfl, (tkV_eq htk.symm).symm⟩)
    | (rw [tk_step l i acc (by omega), hcv, if_neg (by omega), if_neg (by omega), if_neg (by omega)] at htk; have e : cn % 128 = cn := by omega
       rw [e]; refine ⟨_, rfl, rfl, ?_⟩; rw [tkV_eq htk.symm]; simp)
set_option maxRecDepth 100000 in
set_option maxHeartbeats 1000000 in
theorem Nums_c (w : World) (A : Option Addr) (n c : Nat) (l : List Int) (hr : Rd w A n c 1 ((El.int .i64).flat l)) (hn : n * 10 + 20 ≤ 140737488355328) (hw : ∀ x ∈ l, x ≤ 9223372036854775807) :
    Calls Try.prog 64 [.slice A n c].toArray w (Ret (fun v' w' => (anyNeg l ∧ v' = .tuple #[.slice none 0 0, .int .i64 1] ∧ Sat w w' []) ∨ (¬ anyNeg l ∧ ∃ A' c', v' = .tuple #[.slice A' (nm l).length c', .int .i64 0] ∧ Sat w w' [Own 5 1 (.slice A' (nm l).length c') (nm l).length (bytesV (nm l))]))) := by
  have hl : l.length = n := by have := hr.len; rw [El.flat_length] at this; simpa [El.int] using this
  have h10 := pb_len10 (n := n) (by omega)
  have hs := Sat.start w
  refine Calls_body Try.func64 rfl rfl rfl (envE_cons (i := 0) (v := .slice A n c) rfl envE_nil) ?_
  refine St_seq ?_
  refine St_region ?_
  refine Ls_run (run_assign rfl) rfl ?_
  refine Ls_run (run_assign rfl) rfl ?_
  refine Ls_nil ?_
  refine Jm_seq ?_
  refine St_seq ?_
  refine St_region ?_
  refine Ls_run (run_move rfl) rfl ?_
  refine Ls_run (run_len Try.underlying22 rfl) rfl ?_
  refine Ls_run (run_conv_int Try.underlying38 us3 rfl (wu64 (by omega))) rfl ?_
  replace hs := hs.own_nil 5 1
  refine Ls_call Try.func109 nm109 rfl rfl (put_c w _ [] (.slice none 0 0) 0 [] n hs (by omega) (by omega)) rfl ?_
  rintro v1 w2 ⟨A1, c1, rfl, hs⟩
  simp only [Nat.zero_add, List.nil_append] at hs ⊢
  refine Ls_run (run_assign rfl) rfl ?_
  refine Ls_nil ?_
  refine Jm_seq ?_
  refine St_seq ?_
  refine St_seq ?_
  refine St_region ?_
  refine Ls_run (run_move rfl) rfl ?_
  refine Ls_run (run_len Try.underlying22 rfl) rfl ?_
  refine Ls_run (run_move rfl) rfl ?_
  refine Ls_nil ?_
  refine Jm_seq ?_
  refine St_block ?_
  obtain ⟨En3, hEn3⟩ : ∃ F : Nat × Value × Nat × List Int → Env, ∀ (i : Nat) (v : Value) (m : Nat) (ys : List Int), F (i, v, m, ys) = [(11, .slice A n c), (12, .int .i64 (n : Int)), (13, .int .i64 (i : Int)), (4, v)] := ⟨(fun (s : Nat × Value × Nat × List Int) => match s with | (i, v, m, ys) => [(11, .slice A n c), (12, .int .i64 (n : Int)), (13, .int .i64 (i : Int)), (4, v)]), fun _ _ _ _ => rfl⟩
  obtain ⟨Iv4, hIv4⟩ : ∃ F : Nat × Value × Nat × List Int → World → Prop, ∀ (i : Nat) (v : Value) (m : Nat) (ys : List Int) (wr : World), F (i, v, m, ys) wr = (Sat w wr [Own 5 1 v m (bytesV ys)] ∧ i ≤ n ∧ ys = pb n ++ nmB (l.take i) ∧ m = ys.length ∧ m ≤ 10 + 10 * i ∧ (∀ x ∈ l.take i, 0 ≤ x)) := ⟨(fun (s : Nat × Value × Nat × List Int) => match s with | (i, v, m, ys) => fun (wr : World) => Sat w wr [Own 5 1 v m (bytesV ys)] ∧ i ≤ n ∧ ys = pb n ++ nmB (l.take i) ∧ m = ys.length ∧ m ≤ 10 + 10 * i ∧ (∀ x ∈ l.take i, 0 ≤ x)), fun _ _ _ _ _ => rfl⟩
  obtain ⟨ms5, hms5⟩ : ∃ F : Nat × Value × Nat × List Int → Nat, ∀ (i : Nat) (v : Value) (m : Nat) (ys : List Int), F (i, v, m, ys) = (n - i) := ⟨(fun (s : Nat × Value × Nat × List Int) => match s with | (i, v, m, ys) => n - i), fun _ _ _ _ => rfl⟩
  refine St_loop En3 Iv4 ms5 (0, Value.slice A1 (pb n).length c1, (pb n).length, pb n) ?_ ?_ ?_
  · skip
    rw [hIv4]
    exact ⟨hs, by omega, by simp [nmB], rfl, by omega, by simp⟩
  · rw [hEn3]; exact (subE_cons rfl (subE_cons rfl (subE_cons rfl (subE_cons rfl subE_nil))))
  rintro ⟨i, v, m, ys⟩ wr hI6
  rw [hIv4] at hI6
  obtain ⟨hs, hin, hys, hm, hm2, hpos⟩ := hI6
  refine St_eqE (hEn3 _ _ _ _) ?_
  refine St_seq ?_
  refine St_region ?_
  refine Ls_run (run_lss rfl rfl) rfl ?_
  refine Ls_nil ?_
  refine Jm_seq ?_
  refine St_seq ?_
  refine St_ifP rfl (fun h7 => ?_) (fun h7 => ?_)
  · skip
    refine St_skip ?_
    refine Jm_seq ?_
    refine St_seq ?_
    refine St_block ?_
    refine St_seq ?_
    refine St_region ?_
    have hmem : l.getD i 0 ∈ l := by rw [List.getD_eq_getElem?_getD, List.getElem?_eq_getElem (show i < l.length by omega)]; exact List.getElem_mem _
    have hx2 : l.getD i 0 < 9223372036854775808 := by have := hw (l.getD i 0) hmem; omega
    refine Ls_index (El.int .i64) (hr.inB hs) Try.underlying22 inf3 rfl rfl (by omega) (by omega) (show _ = l.getD i 0 from rfl) rfl ?_
    intro b8 o9 hc10
    refine Ls_run (run_load sc3 rfl (hc10 0 _ rfl)) rfl ?_
    refine Ls_run (run_assign rfl) rfl ?_
    refine Ls_nil ?_
    refine Jm_seq ?_
    refine St_seq ?_
    refine St_seq ?_
    refine St_region ?_
    refine Ls_run (run_move rfl) rfl ?_
    refine Ls_run (run_lss rfl rfl) rfl ?_
    refine Ls_nil ?_
    refine Jm_seq ?_
    refine St_ifP rfl (fun h11 => ?_) (fun h11 => ?_)
    · skip
      refine St_seq ?_
      refine St_region ?_
      refine Ls_run (run_assign rfl) rfl ?_
      refine Ls_run (run_assign rfl) rfl ?_
      refine Ls_nil ?_
      refine Jm_seq ?_
      refine St_ret ?_
      refine Jm_then_ret (Jm_block_ret (Jm_then_ret (Jm_then_ret (Jm_block_ret (Jm_then_ret  ?_)))))
      refine Jm_ret2 rfl rfl rfl ?_
      exact ⟨_, rfl, .inl ⟨⟨_, hmem, by omega⟩, rfl, hs.tail⟩⟩
    · skip
      refine St_skip ?_
      refine Jm_seq ?_
      refine St_region ?_
      refine Ls_run (run_move rfl) rfl ?_
      refine Ls_run (run_move rfl) rfl ?_
      refine Ls_run (run_conv_int Try.underlying38 us3 rfl (wu64 (by omega))) rfl ?_
      obtain ⟨q, hq⟩ : ∃ q : Nat, l.getD i 0 = (q : Int) := ⟨(l.getD i 0).toNat, by omega⟩
      rw [hq]
      have h2 := pb_len10 (n := q) (by omega)
      refine Ls_call Try.func109 nm109 rfl rfl (put_c w _ [] _ m ys q hs (by omega) (by omega)) rfl ?_
      rintro v12 w13 ⟨A2, c2, rfl, hs⟩
      refine Ls_run (run_assign rfl) rfl ?_
      refine Ls_nil ?_
      refine Jm_block_normal (Jm_seq ?_)
      refine St_region ?_
      refine Ls_run (run_add rfl rfl (w64 (by omega))) rfl ?_
      refine Ls_run (run_move rfl) rfl ?_
      refine Ls_nil ?_
      have e3 := nmB_take_succ l i (by omega)
      refine Jm_round (i + 1, Value.slice A2 (m + (pb q).length) c2, m + (pb q).length, ys ++ pb q) ?_ ?_ ?_
      · rw [hEn3]; exact (subE_cons rfl (subE_cons rfl (subE_cons rfl (subE_cons rfl subE_nil))))
      · skip
        rw [hIv4]
        refine ⟨hs, by omega, ?_, by simp [hm], by omega, ?_⟩
        · rw [e3, hys, hq]; simp
        · rw [List.take_succ_eq_append_getElem (by omega)]; intro x hx; rcases List.mem_append.1 hx with hx | hx
          · exact hpos x hx
          · simp at hx; subst hx; have e4 : l[i] = l.getD i 0 := by rw [List.getD_eq_getElem?_getD, List.getElem?_eq_getElem (show i < l.length by omega)]; rfl
            rw [e4]; omega
      · skip
        rw [hms5, hms5]
        omega
  · skip
    refine St_exit ?_
    refine Jm_then_exit (Jm_then_exit (Jm_block_same (Jm_seq ?_)))
    refine St_seq ?_
    refine St_region ?_
    refine Ls_run (run_move rfl) rfl ?_
    refine Ls_run (run_assign rfl) rfl ?_
    refine Ls_run (run_assign rfl) rfl ?_
    refine Ls_nil ?_
    refine Jm_seq ?_
    refine St_ret ?_
    refine Jm_ret2 rfl rfl rfl ?_
    have hi : i = n := by omega
    have e5 : l.take i = l := List.take_of_length_le (by omega)
    rw [e5] at hys hpos
    obtain ⟨A4, c4, rfl, _, _, _⟩ := hs.own_form
    have e6 : ys = nm l := by rw [hys]; unfold nm; rw [hl]
    rw [e6] at hs hm
    rw [hm] at hs ⊢
    exact ⟨_, rfl, .inr ⟨fun ⟨x, hx, hx0⟩ => by have := hpos x hx; omega, _, _, rfl, hs⟩⟩

theorem wd_at (x k : Nat) (hk : k < 8) : IntKind.u8.wrap ((x : Int) / 2 ^ min (8 * (k : Int)).toNat IntKind.u64.bits) = ((x / 256 ^ k % 256 : Nat) : Int) := by
  have hm : min (8 * (k : Int)).toNat IntKind.u64.bits = 8 * k := by
    have : IntKind.u64.bits = 64 := rfl
    omega
  have hp : (256 : Nat) ^ k = 2 ^ (8 * k) := by rw [Nat.pow_mul]
  rw [hm, IntKind.wrap_u8, hp]
  have : (x : Int) / 2 ^ (8 * k) = ((x / 2 ^ (8 * k) : Nat) : Int) := by simp
  rw [this]
  omega
theorem wd_set (x k : Nat) (hk : k < 8) : (bytesV (wd k x ++ List.replicate (8 - k) 0)).set k (.int .u8 ((x / 256 ^ k % 256 : Nat) : Int)) = bytesV (wd (k + 1) x ++ List.replicate (8 - (k + 1)) 0) := by
  obtain ⟨j, hj⟩ : ∃ j, 8 - k = j + 1 := ⟨8 - k - 1, by omega⟩
  have hj' : 8 - (k + 1) = j := by omega
  have hl := wd_len k x
  rw [hj, hj', wd_snoc, List.replicate_succ]
  simp only [bytesV_append, bytesV, List.map_append, List.map_cons]
  rw [List.set_append_right _ _ (by simp [hl])]
  simp [hl]
set_option maxRecDepth 100000 in
set_option maxHeartbeats 1000000 in
theorem Word_c (w : World) (x : Nat) (hx : x < 18446744073709551616) :
    Calls Try.prog 66 [.int .u64 (x : Int)].toArray w (Ret (fun v' w' => ∃ A' c', v' = .slice A' 8 c' ∧ Sat w w' [Own 5 1 v' 8 (bytesV (wd 8 x))])) := by
  have hs := Sat.start w
  refine Calls_body Try.func66 rfl rfl rfl (envE_cons (i := 0) (v := .int .u64 (x : Int)) rfl envE_nil) ?_
  refine St_seq ?_
  refine St_region ?_
  refine Ls_run (run_assign rfl) rfl ?_
  refine Ls_nil ?_
  refine Jm_seq ?_
  refine St_seq ?_
  refine St_region ?_
  refine Ls_make (m := 8) hs Try.underlying28 infq5 rfl rfl rfl (by omega) (by omega) rfl ?_
  intro b1 w2 hs
  refine Ls_run (run_assign rfl) rfl ?_
  refine Ls_nil ?_
  refine Jm_seq ?_
  refine St_seq ?_
  refine St_seq ?_
  refine St_region ?_
  refine Ls_run (run_move rfl) rfl ?_
  refine Ls_run (run_len Try.underlying28 rfl) rfl ?_
  refine Ls_run (run_move rfl) rfl ?_
  refine Ls_nil ?_
  refine Jm_seq ?_
  refine St_block ?_
  obtain ⟨g, hg⟩ : ∃ g, g = b1 := ⟨_, rfl⟩
  obtain ⟨En3, hEn3⟩ : ∃ F : Nat → Env, ∀ (k : Nat), F k = [(0, .int .u64 (x : Int)), (3, .slice (some ⟨b1, 0, none⟩) 8 8), (7, .int .i64 ((8 : Nat) : Int)), (8, .int .i64 (k : Int))] := ⟨(fun (k : Nat) => [(0, .int .u64 (x : Int)), (3, .slice (some ⟨b1, 0, none⟩) 8 8), (7, .int .i64 ((8 : Nat) : Int)), (8, .int .i64 (k : Int))]), fun _ => rfl⟩
  obtain ⟨Iv4, hIv4⟩ : ∃ F : Nat → World → Prop, ∀ (k : Nat) (wr : World), F k wr = (Sat w wr [Own 5 1 (.slice (some ⟨b1, 0, none⟩) 8 8) 8 (bytesV (wd k x ++ List.replicate (8 - k) 0))] ∧ k ≤ 8) := ⟨(fun (k : Nat) => fun (wr : World) => Sat w wr [Own 5 1 (.slice (some ⟨b1, 0, none⟩) 8 8) 8 (bytesV (wd k x ++ List.replicate (8 - k) 0))] ∧ k ≤ 8), fun _ _ => rfl⟩
  obtain ⟨ms5, hms5⟩ : ∃ F : Nat → Nat, ∀ (k : Nat), F k = (8 - k) := ⟨(fun (k : Nat) => 8 - k), fun _ => rfl⟩
  refine St_loop En3 Iv4 ms5 (0) ?_ ?_ ?_
  · skip
    rw [hIv4]
    exact ⟨hs, by omega⟩
  · rw [hEn3]; exact (subE_cons rfl (subE_cons rfl (subE_cons rfl (subE_cons rfl subE_nil))))
  rintro k wr hI6
  rw [hIv4] at hI6
  obtain ⟨hs, hk⟩ := hI6
  refine St_eqE (hEn3 _) ?_
  refine St_seq ?_
  refine St_region ?_
  refine Ls_run (run_lss rfl rfl) rfl ?_
  refine Ls_nil ?_
  refine Jm_seq ?_
  refine St_seq ?_
  refine St_ifP rfl (fun h7 => ?_) (fun h7 => ?_)
  · skip
    refine St_skip ?_
    refine Jm_seq ?_
    refine St_seq ?_
    refine St_block ?_
    refine St_seq ?_
    refine St_region ?_
    refine Ls_run (run_move rfl) rfl ?_
    refine Ls_run (run_assign rfl) rfl ?_
    refine Ls_nil ?_
    refine Jm_seq ?_
    refine St_region ?_
    refine Ls_run (run_move rfl) rfl ?_
    refine Ls_run (run_move rfl) rfl ?_
    refine Ls_run (run_move rfl) rfl ?_
    refine Ls_run (run_move rfl) rfl ?_
    refine Ls_run (run_mul rfl rfl (w64 (by omega))) rfl ?_
    refine Ls_run (run_shr rfl rfl (by omega) rfl) rfl ?_
    refine Ls_run (run_conv_int Try.underlying5 us38 rfl (wd_at x k (by omega))) rfl ?_
    refine Ls_run (run_index Try.underlying28 inf5 rfl rfl rfl (by omega) (by omega)) rfl ?_
    refine Ls_storeOwn hs inf5 rfl rfl rfl (by omega) ?_
    intro w9 hs
    refine Ls_nil ?_
    refine Jm_block_normal (Jm_seq ?_)
    refine St_region ?_
    refine Ls_run (run_add rfl rfl (w64 (by omega))) rfl ?_
    refine Ls_run (run_move rfl) rfl ?_
    refine Ls_nil ?_
    refine Jm_round (k + 1) ?_ ?_ ?_
    · rw [hEn3]; exact (subE_cons rfl (subE_cons rfl (subE_cons rfl (subE_cons rfl subE_nil))))
    · skip
      rw [hIv4]
      have e8 : 0 + (k : Int).toNat * 1 = k := by simp
      rw [e8] at hs
      refine ⟨?_, by omega⟩
      rw [← wd_set x k (by omega)]; exact hs
    · skip
      rw [hms5, hms5]
      omega
  · skip
    refine St_exit ?_
    refine Jm_then_exit (Jm_then_exit (Jm_block_same (Jm_seq ?_)))
    refine St_seq ?_
    refine St_region ?_
    refine Ls_run (run_move rfl) rfl ?_
    refine Ls_run (run_assign rfl) rfl ?_
    refine Ls_nil ?_
    refine Jm_seq ?_
    refine St_ret ?_
    refine Jm_ret1 rfl rfl ?_
    have hk8 : k = 8 := by omega
    subst hk8
    simp only [Nat.sub_self, List.replicate_zero, List.append_nil] at hs
    exact ⟨_, rfl, _, _, rfl, hs⟩

theorem nm_5300 : nm [5, 300] = [2, 5, 172, 2] := by
  show pb 2 ++ (pb 5 ++ (pb 300 ++ [])) = _
  rw [pb_2, pb_5, pb_300]; rfl
end Go.Proofs.Ytipkfdeiallifaa.Lg
