/-
  Part 3 of the proof: Df, MsgPure, Msg2s, PlanPure, Plan2, CoPure, Co1, CoA, Co2, Co3, Co4. No condition.
-/
import Derived.Test.YtcifdianinbkeaaCg2
import Derived.Defers
import Derived.Recover
import Derived.Laws.Build
set_option linter.unusedVariables false
set_option linter.unusedSimpArgs false
namespace Go.Proofs.Ytcifdianinbkeaa.Lg
open Go Go.RowKit
section
variable {P : Program} {ops : Array Oper} {n : Nat} {D : List Deferred} {E : Env} {B w : World} {Q : Exit → Act → World → Prop} {rest : List Oper} {ty : TypeId} {ps : String} {af : Array Edge} {d : Nat} {c1 c2 : Code} {x : Operand}
/-- A branch on a slot; behind it the slot is known. -/
theorem St_ifK {t : Tmp} {b : Bool} (hc : look E t = some (.bool b)) (h1 : b = true → St P n D ((t, .bool true) :: E) w c1 Q) (h2 : b = false → St P n D ((t, .bool false) :: E) w c2 Q) : St P n D E w (.cond (.tmp t) c1 c2) Q := by
  have up : ∀ c : Bool, b = c → SubE ((t, .bool c) :: E) E := by
    intro c hb
    subst hb
    exact fun i v hi => by
      by_cases e : t = i
      · subst e; rw [look_eq rfl] at hi; cases hi; exact hc
      · rw [look_ne e] at hi; exact hi
  exact St_if hc (fun hb => St_sub (up true hb) (h1 hb)) (fun hb => St_sub (up false hb) (h2 hb))
theorem St_ifPK {t : Tmp} {p : Prop} [Decidable p] (hc : look E t = some (.bool (decide p))) (h1 : p → St P n D ((t, .bool true) :: E) w c1 Q) (h2 : ¬ p → St P n D ((t, .bool false) :: E) w c2 Q) : St P n D E w (.cond (.tmp t) c1 c2) Q :=
  St_ifK hc (fun hb => h1 (of_decide_eq_true hb)) (fun hb => h2 (of_decide_eq_false hb))
/-- What comes back is a value, or a panic. -/
def RetP (Φ : Value → World → Prop) (Ψ : List PanicEntry → World → Prop) : Ending → World → Prop := fun e w => (∃ v, e = .returned v ∧ Φ v w) ∨ (∃ ch, e = .panicked ch ∧ Ψ ch w)
theorem RetP.of {f : FuncId} {args : Array Value} {Φ : Value → World → Prop} (Ψ : List PanicEntry → World → Prop) (h : Calls P f args w (Ret Φ)) : Calls P f args w (RetP Φ Ψ) := h.mono fun e w' h => .inl h

theorem run_func {f : FuncId} {xs : List Operand} {cap : List Value} (hx : evs E xs = some cap) : RunO P E (.makeFunc (.func f) #[] xs.toArray) ty w (.func (.func f) #[] cap.toArray) w := fun n D a dst ps af g ha => by
  have hargs : xs.toArray.map a.eval = cap.toArray := by rw [List.map_toArray, ha.evals hx]
  simp only [execOp, hargs, Instr.makeFunc, Sem.run_bind, Sem.run_pure, Result.andThen_ok]
  simp
/-! ### A body with a deferred call -/
/-! ### The deferred closure itself -/
end
end Go.Proofs.Ytcifdianinbkeaa.Lg
set_option linter.unusedVariables false
set_option linter.unusedSimpArgs false
namespace Go.Proofs.Ytcifdianinbkeaa.Lg
open Go Go.Proofs.Ytcifdianinbkeaa.WirePure
abbrev Pr := Int × Bool × Int
def KP : El Pr := ⟨3, fun o => [.int .u64 o.1, .bool o.2.1, .int .u64 o.2.2], (0, false, 0), fun _ => rfl⟩
/-- What a message says. -/
structure MC where
  k : Int
  f : Int
  t : Int
  b : Int
  a : Int
  c : Int
  es : List Int
  ks : List Int
  ps : List Pr
  deriving DecidableEq
/-- Where its lists lie. -/
structure MP where
  eA : Option Addr
  en : Nat
  ec : Nat
  kA : Option Addr
  kn : Nat
  kc : Nat
  pA : Option Addr
  pn : Nat
  pc : Nat
def MC0 : MC := ⟨0, 0, 0, 0, 0, 0, [], [], []⟩
def MP0 : MP := ⟨none, 0, 0, none, 0, 0, none, 0, 0⟩
def mcells (x : MC) (p : MP) : List Value := [.int .i64 x.k, .int .i64 x.f, .int .i64 x.t, .int .i64 x.b, .int .i64 x.a, .int .i64 x.c, .slice p.eA p.en p.ec, .slice p.kA p.kn p.kc, .slice p.pA p.pn p.pc]
structure MRd (w : World) (x : MC) (p : MP) : Prop where
  e : Rd w p.eA p.en p.ec 1 ((El.int .i64).flat x.es)
  k : Rd w p.kA p.kn p.kc 1 ((El.int .u64).flat x.ks)
  p : Rd w p.pA p.pn p.pc 3 (KP.flat x.ps)
theorem MRd.inB {w w' : World} {x : MC} {p : MP} {L : List Assn} (h : MRd w x p) (hs : Sat w w' L) : MRd w' x p := ⟨h.e.inB hs, h.k.inB hs, h.p.inB hs⟩
theorem MRd.en {w : World} {x : MC} {p : MP} (h : MRd w x p) : x.es.length = p.en := by have := h.e.len; rw [El.flat_length] at this; exact Nat.eq_of_mul_eq_mul_right (by decide) this
theorem MRd.kn {w : World} {x : MC} {p : MP} (h : MRd w x p) : x.ks.length = p.kn := by have := h.k.len; rw [El.flat_length] at this; exact Nat.eq_of_mul_eq_mul_right (by decide) this
theorem MRd.pn {w : World} {x : MC} {p : MP} (h : MRd w x p) : x.ps.length = p.pn := by have := h.p.len; rw [El.flat_length] at this; exact Nat.eq_of_mul_eq_mul_right (by decide) this
theorem MRd.zero (w : World) : MRd w MC0 MP0 := ⟨Rd.none w 1, Rd.none w 1, Rd.none w 3⟩
/-- The numbers stand in their kinds. -/
structure MIn (x : MC) : Prop where
  es : ∀ y ∈ x.es, -9223372036854775808 ≤ y ∧ y ≤ 9223372036854775807
  ks : ∀ y ∈ x.ks, 0 ≤ y ∧ y < 18446744073709551616
  ps : ∀ y ∈ x.ps, (0 ≤ y.1 ∧ y.1 < 18446744073709551616) ∧ 0 ≤ y.2.2 ∧ y.2.2 < 18446744073709551616

def mof (k : Int) : Int := if k = 1 ∨ k = 2 ∨ k = 3 ∨ k = 8 then 1 else if k = 4 then 2 else if k = 6 then 3 else if k = 5 ∨ k = 7 then 4 else 0
theorem mof_range (k : Int) : 0 ≤ mof k ∧ mof k ≤ 4 := by unfold mof; repeat' (first | omega | split)
def endsOk (l : List Int) : Prop := (∀ y ∈ l, 0 ≤ y ∧ y ≤ 256) ∧ 1 ≤ l.length ∧ l.length ≤ 4
instance (l : List Int) : Decidable (endsOk l) := by unfold endsOk; infer_instance
def risesOk (l : List Int) : Prop := ∀ i, i < l.length - 1 → l.getD i 0 < l.getD (i + 1) 0
instance (l : List Int) : Decidable (risesOk l) := inferInstanceAs (Decidable (∀ i, i < l.length - 1 → l.getD i 0 < l.getD (i + 1) 0))
def pairsOk (l : List Pr) : Prop := (∀ y ∈ l, y.2.1 = true) ∧ ∀ i, i < l.length - 1 → (l.getD i (0, false, 0)).1 < (l.getD (i + 1) (0, false, 0)).1
instance (l : List Pr) : Decidable (pairsOk l) := by unfold pairsOk; exact inferInstanceAs (Decidable (_ ∧ ∀ i, i < l.length - 1 → _))
def Msound (x : MC) : Prop := mof x.k ≠ 0 ∧ (0 ≤ x.f ∧ x.f ≤ 8) ∧ (0 ≤ x.t ∧ x.t ≤ 8) ∧ (1 ≤ x.b ∧ x.b ≤ 1099511627776) ∧ (1 ≤ x.a ∧ x.a ≤ 1099511627776) ∧
  (mof x.k = 1 → endsOk x.es) ∧ (mof x.k ≠ 1 → x.es = []) ∧ (mof x.k = 2 → x.ks.length ≤ 64 ∧ risesOk x.ks) ∧ (mof x.k ≠ 2 → x.ks = []) ∧ (mof x.k = 3 → x.ps.length ≤ 64 ∧ pairsOk x.ps) ∧ (mof x.k ≠ 3 → x.ps = []) ∧ (mof x.k = 4 → 0 ≤ x.c ∧ x.c ≤ 1000) ∧ (mof x.k ≠ 4 → x.c = 0)
instance (x : MC) : Decidable (Msound x) := by unfold Msound; infer_instance

end Go.Proofs.Ytcifdianinbkeaa.Lg
set_option linter.unusedVariables false
set_option linter.unusedSimpArgs false
namespace Go.Proofs.Ytcifdianinbkeaa.Lg
open Go Go.RowKit Go.Proofs.Ytcifdianinbkeaa.WirePure
theorem take_snoc3 {α : Type} {l : List α} {i : Nat} {d : α} (h : i < l.length) : l.take (i + 1) = l.take i ++ [l.getD i d] := by
  rw [List.take_succ_eq_append_getElem h, List.getD_eq_getElem?_getD, List.getElem?_eq_getElem h]; rfl
theorem getD_mem3 {α : Type} {l : List α} {i : Nat} {d : α} (h : i < l.length) : l.getD i d ∈ l := by
  rw [List.getD_eq_getElem?_getD, List.getElem?_eq_getElem h]; exact List.getElem_mem h
theorem rises_no {l : List Int} {i : Nat} (h1 : 1 ≤ i) (h2 : i < l.length) (h : l.getD i 0 ≤ l.getD (i - 1) 0) : ¬ risesOk l := fun q => by
  have := q (i - 1) (by omega)
  have e : i - 1 + 1 = i := by omega
  rw [e] at this; omega
theorem rises_ok {l : List Int} {n : Nat} (hn : n = l.length) (h : ∀ j, 1 ≤ j → j < n → l.getD (j - 1) 0 < l.getD j 0) : risesOk l := fun i hi => by
  have := h (i + 1) (by omega) (by omega)
  simpa using this
theorem pairs_no {l : List Pr} {i : Nat} (h1 : 1 ≤ i) (h2 : i < l.length) (h : (l.getD i (0, false, 0)).1 ≤ (l.getD (i - 1) (0, false, 0)).1) : ¬ pairsOk l := fun q => by
  have := q.2 (i - 1) (by omega)
  have e : i - 1 + 1 = i := by omega
  rw [e] at this; omega
theorem pairs_ok {l : List Pr} {n : Nat} (hn : n = l.length) (h0 : ∀ y ∈ l, y.2.1 = true) (h : ∀ j, 1 ≤ j → j < n → (l.getD (j - 1) (0, false, 0)).1 < (l.getD j (0, false, 0)).1) : pairsOk l := ⟨h0, fun i hi => by
  have := h (i + 1) (by omega) (by omega)
  simpa using this⟩
set_option maxRecDepth 100000 in
set_option maxHeartbeats 1000000 in
theorem of_c (w : World) (k : Int) :
    Calls Try.prog 58 [.int .i64 k].toArray w (Ret (fun v' w' => w = w' ∧ v' = .int .i64 (mof k))) := by
  refine Zb Try.func58 rfl rfl rfl (Zs (Za rfl (Zj (St_seq (Zs (Zm rfl (Zj (St_block (St_seq (Zs (Zr (run_eql rfl rfl) rfl (Za rfl (Zj (St_ifPK rfl (fun h1 => ?_) (fun h1 => ?_)))))))))))))))
  · refine St_skip (Zq (St_ift rfl (Zs (Za rfl (Zj (St_ret (Jm_block_ret (Jm_then_ret (Jm_ret1 rfl rfl (⟨_, rfl, rfl, ?_⟩))))))))))
    congr 1
    unfold mof
    repeat' (first | omega | split)
  refine Zs (Zr (run_eql rfl rfl) rfl (Za rfl (Zj (St_ifPK rfl (fun h3 => ?_) (fun h3 => ?_)))))
  · refine St_skip (Zq (St_ift rfl (Zs (Za rfl (Zj (St_ret (Jm_block_ret (Jm_then_ret (Jm_ret1 rfl rfl (⟨_, rfl, rfl, ?_⟩))))))))))
    congr 1
    unfold mof
    repeat' (first | omega | split)
  refine Zs (Zr (run_eql rfl rfl) rfl (Za rfl (Zj (St_ifPK rfl (fun h5 => ?_) (fun h5 => ?_)))))
  · refine St_skip (Zq (St_ift rfl (Zs (Za rfl (Zj (St_ret (Jm_block_ret (Jm_then_ret (Jm_ret1 rfl rfl (⟨_, rfl, rfl, ?_⟩))))))))))
    congr 1
    unfold mof
    repeat' (first | omega | split)
  refine St_region (Zr (run_eql rfl rfl) rfl (Za rfl (Zj (St_ifPK rfl (fun h7 => ?_) (fun h7 => ?_)))))
  · refine Zs (Za rfl (Zj (St_ret (Jm_block_ret (Jm_then_ret (Jm_ret1 rfl rfl (⟨_, rfl, rfl, ?_⟩)))))))
    congr 1
    unfold mof
    repeat' (first | omega | split)
  refine Zs (Zr (run_eql rfl rfl) rfl (Za rfl (Zj (St_ifPK rfl (fun h8 => ?_) (fun h8 => ?_)))))
  · refine Zs (Za rfl (Zj (St_ret (Jm_block_ret (Jm_then_ret (Jm_ret1 rfl rfl (⟨_, rfl, rfl, ?_⟩)))))))
    congr 1
    unfold mof
    repeat' (first | omega | split)
  refine Zs (Zr (run_eql rfl rfl) rfl (Za rfl (Zj (St_ifPK rfl (fun h9 => ?_) (fun h9 => ?_)))))
  · refine Zs (Za rfl (Zj (St_ret (Jm_block_ret (Jm_then_ret (Jm_ret1 rfl rfl (⟨_, rfl, rfl, ?_⟩)))))))
    congr 1
    unfold mof
    repeat' (first | omega | split)
  refine St_seq (Zs (Zr (run_eql rfl rfl) rfl (Za rfl (Zj (St_ifPK rfl (fun h10 => ?_) (fun h10 => ?_))))))
  · refine St_skip (Zq (St_ift rfl (Zs (Za rfl (Zj (St_ret (Jm_block_ret (Jm_then_ret (Jm_ret1 rfl rfl (⟨_, rfl, rfl, ?_⟩))))))))))
    congr 1
    unfold mof
    repeat' (first | omega | split)
  refine St_region (Zr (run_eql rfl rfl) rfl (Za rfl (Zj (St_ifPK rfl (fun h12 => ?_) (fun h12 => ?_)))))
  · refine Zs (Za rfl (Zj (St_ret (Jm_block_ret (Jm_then_ret (Jm_ret1 rfl rfl (⟨_, rfl, rfl, ?_⟩)))))))
    congr 1
    unfold mof
    repeat' (first | omega | split)
  refine St_skip (Jm_block_normal (Zq (Zs (Za rfl (Zj (St_ret (Jm_ret1 rfl rfl (⟨_, rfl, rfl, ?_⟩))))))))
  congr 1
  unfold mof
  repeat' (first | omega | split)
set_option maxRecDepth 100000 in
set_option maxHeartbeats 1000000 in
theorem mwithin_c (w : World) (a b c : Int) :
    Calls Try.prog 59 [.int .i64 a, .int .i64 b, .int .i64 c].toArray w (Ret (fun v' w' => w = w' ∧ v' = .bool (decide (a ≤ b ∧ b ≤ c)))) := by
  refine Zb Try.func59 rfl rfl rfl (Zs (Za rfl (Zt (Zm rfl (Zm rfl (Zr (run_leq rfl rfl) rfl (Zm rfl (Ls_partP (t := 10) rfl (fun h1 => ?_) (fun h1 => ?_)))))))))
  · refine Zo rfl (Zm rfl (Zo rfl (Zm rfl (Zo rfl (Zr (run_leq rfl rfl) rfl (Zr (run_pick_t rfl rfl) rfl (Za rfl (Zj (St_ret (Jm_ret1 rfl rfl (⟨_, rfl, rfl, ?_⟩)))))))))))
    congr 1
    first | exact decide_eq_decide.2 (by omega) | exact (decide_eq_true (by omega)).symm | exact (decide_eq_false (by omega)).symm
  refine Zx rfl (Zx rfl (Zx rfl (Zr (run_pick_f rfl rfl) rfl (Za rfl (Zj (St_ret (Jm_ret1 rfl rfl (⟨_, rfl, rfl, ?_⟩))))))))
  congr 1
  first | exact decide_eq_decide.2 (by omega) | exact (decide_eq_true (by omega)).symm | exact (decide_eq_false (by omega)).symm
set_option maxRecDepth 100000 in
set_option maxHeartbeats 1000000 in
theorem isEnds_c (w : World) (A : Option Addr) (n c : Nat) (l : List Int) (hr : Rd w A n c 1 ((El.int .i64).flat l)) (hn : n ≤ 9223372036854775807) :
    Calls Try.prog 60 [.slice A n c].toArray w (Ret (fun v' w' => w = w' ∧ v' = .bool (decide (endsOk l)))) := by
  have hs := Sat.start w
  have hl : l.length = n := by have := hr.len; rw [El.flat_length] at this; exact Nat.eq_of_mul_eq_mul_right (by decide) this
  refine Zb Try.func60 rfl rfl rfl (Zs (Za rfl (Zj (St_seq (Zs (Zm rfl (Zr (run_len un25 rfl) rfl (Zm rfl (Zj (St_block ?_))))))))))
  obtain ⟨En1, hEn1⟩ := ex1 fun (i : Nat) => ([(0, .slice A n c), (5, .slice A n c), (6, .int .i64 (n : Int)), (7, .int .i64 (i : Int))] : Env)
  obtain ⟨Iv2, hIv2⟩ := ew1 fun (i : Nat) (wr : World) => Sat w wr [] ∧ w = wr ∧ i ≤ n ∧ (∀ y ∈ l.take i, 0 ≤ y ∧ y ≤ 256)
  obtain ⟨ms3, hms3⟩ := ex1 fun (i : Nat) => (n - i : Nat)
  refine St_loop En1 Iv2 ms3 (0) ?_ ?_ ?_
  · rw [hIv2]
    exact ⟨hs, rfl, by omega, by simp⟩
  · rw [hEn1]; exact sE ⟨rfl, rfl, rfl, rfl, trivial⟩
  rintro i wr hI4
  rw [hIv2] at hI4
  obtain ⟨hs, hw, hi, hok⟩ := hI4
  refine St_eqE (hEn1 _) (Zs (Zr (run_lss rfl rfl) rfl (Zj (St_seq (St_ifP rfl (fun h5 => ?_) (fun h5 => ?_))))))
  · refine St_skip (Zq (St_seq (St_block (Zs ?_))))
    have hmem : l.getD i 0 ∈ l := getD_mem3 (by omega)
    refine Ls_index (El.int .i64) (hr.inB hs) un25 inf3 rfl rfl (by omega) (by omega) (show _ = l.getD i 0 from rfl) rfl (fun b6 o7 hc8 => (Zl sc3 rfl (hc8 0 _ rfl) (Za rfl (Zt (Zm rfl (Zc fn59 rfl (mwithin_c wr 0 (l.getD i 0) 256) rfl ?_))))))
    rintro v9 w10 ⟨rfl, rfl⟩
    refine Zr (run_not rfl) rfl (Zj (St_ifN rfl (fun h11 => ?_) (fun h11 => ?_)))
    · refine Zs (Za rfl (Zj (St_ret (Jm_block_ret (Jm_then_ret (Jm_then_ret (Jm_block_ret (Jm_then_ret (Jm_ret1 rfl rfl (⟨_, rfl, hw, ?_⟩))))))))))
      congr 1
      exact (decide_eq_false (fun q => by have := q.1 _ hmem; omega)).symm
    refine St_skip (Jm_block_normal (Zq (St_region (Zr (run_add rfl rfl (w64 (by omega))) rfl (Zm rfl (Ls_nil (Jm_round (i + 1) ?_ ?_ ?_)))))))
    · rw [hEn1]; exact sE ⟨rfl, rfl, rfl, rfl, trivial⟩
    · rw [hIv2]
      refine ⟨hs, hw, by omega, fun y hy => ?_⟩
      rw [take_snoc3 (d := 0) (by omega)] at hy
      rcases List.mem_append.1 hy with q | q
      · exact hok y q
      · simp only [List.mem_singleton] at q; subst q; omega
    rw [hms3, hms3]
    omega
  refine St_exit (Jm_then_exit (Jm_then_exit (Jm_block_same (Zq (Zs (Zm rfl (Zr (run_len un25 rfl) rfl (Zc fn59 rfl (mwithin_c wr 1 (n : Int) 4) rfl ?_))))))))
  rintro v12 w13 ⟨rfl, rfl⟩
  refine Za rfl (Zj (St_ret (Jm_ret1 rfl rfl (⟨_, rfl, hw, ?_⟩))))
  congr 1
  have hi9 : i = n := by omega
  rw [hi9, List.take_of_length_le (by omega)] at hok
  exact decide_eq_decide.2 ⟨fun q => ⟨hok, by omega, by omega⟩, fun q => ⟨by have := q.2.1; omega, by have := q.2.2; omega⟩⟩
set_option maxRecDepth 100000 in
set_option maxHeartbeats 1000000 in
theorem Rising_c (w : World) (A : Option Addr) (n c : Nat) (l : List Int) (hr : Rd w A n c 1 ((El.int .u64).flat l)) (hn : n ≤ 9223372036854775807) :
    Calls Try.prog 61 [.slice A n c].toArray w (Ret (fun v' w' => w = w' ∧ v' = .bool (decide (risesOk l)))) := by
  have hs := Sat.start w
  have hl : l.length = n := by have := hr.len; rw [El.flat_length] at this; exact Nat.eq_of_mul_eq_mul_right (by decide) this
  refine Zb Try.func61 rfl rfl rfl (Zs (Za rfl (Zj (St_seq (Zs (Zm rfl (Zr (run_len un38 rfl) rfl (Zm rfl (Zj (St_block ?_))))))))))
  obtain ⟨En1, hEn1⟩ := ex1 fun (i : Nat) => ([(0, .slice A n c), (5, .slice A n c), (6, .int .i64 (n : Int)), (7, .int .i64 (i : Int))] : Env)
  obtain ⟨Iv2, hIv2⟩ := ew1 fun (i : Nat) (wr : World) => Sat w wr [] ∧ w = wr ∧ 0 ≤ i ∧ i ≤ n ∧ (∀ j, 1 ≤ j → j < i → l.getD (j - 1) 0 < l.getD j 0)
  obtain ⟨ms3, hms3⟩ := ex1 fun (i : Nat) => (n - i : Nat)
  refine St_loop En1 Iv2 ms3 (0) ?_ ?_ ?_
  · rw [hIv2]
    exact ⟨hs, rfl, by omega, by omega, fun j h1 h2 => by omega⟩
  · rw [hEn1]; exact sE ⟨rfl, rfl, rfl, rfl, trivial⟩
  rintro i wr hI4
  rw [hIv2] at hI4
  obtain ⟨hs, hw, hlo, hi, hok⟩ := hI4
  refine St_eqE (hEn1 _) (Zs (Zr (run_lss rfl rfl) rfl (Zj (St_seq (St_ifP rfl (fun h5 => ?_) (fun h5 => ?_))))))
  · refine St_skip (Zq (St_seq (St_block (Zs (Zm rfl (Ls_index (El.int .u64) (hr.inB hs) un38 inf134 rfl rfl (by omega) (by omega) (show _ = l.getD i 0 from rfl) rfl (fun b6 o7 hc8 => (Zl sc134 rfl (hc8 0 _ rfl) (Za rfl (Za rfl (Zt (Zm rfl (Zr (run_gtr rfl rfl) rfl (Zm rfl (Ls_partP (t := 14) rfl (fun h9 => ?_) (fun h9 => ?_))))))))))))))))
    · refine Zo rfl (Zm rfl (Zo rfl (Zm rfl (Zo rfl (Zm rfl (Zo rfl (Zr (run_sub rfl rfl (show _ = ((i - 1 : Nat) : Int) by rw [w64 (by omega)]; omega)) rfl (Zo rfl (Ls_index (El.int .u64) (hr.inB hs) un38 inf134 rfl rfl (by omega) (by omega) (show _ = l.getD (i - 1) 0 from rfl) rfl (fun b10 o11 hc12 => (Zo rfl (Zl sc134 rfl (hc12 0 _ rfl) (Zo rfl (Zr (run_leq rfl rfl) rfl (Zr (run_pick_t rfl rfl) rfl (Zj (St_ifP rfl (fun h13 => ?_) (fun h13 => ?_))))))))))))))))))
      · refine Zs (Za rfl (Zj (St_ret (Jm_block_ret (Jm_then_ret (Jm_then_ret (Jm_block_ret (Jm_then_ret (Jm_ret1 rfl rfl (⟨_, rfl, hw, ?_⟩))))))))))
        congr 1
        exact (decide_eq_false (rises_no (i := i) (by omega) (by omega) (by omega))).symm
      refine St_skip (Jm_block_normal (Zq (St_region (Zr (run_add rfl rfl (w64 (by omega))) rfl (Zm rfl (Ls_nil (Jm_round (i + 1) ?_ ?_ ?_)))))))
      · rw [hEn1]; exact sE ⟨rfl, rfl, rfl, rfl, trivial⟩
      · rw [hIv2]
        refine ⟨hs, hw, by omega, by omega, fun j h1 h2 => ?_⟩
        rcases Nat.lt_or_ge j i with q | q
        · exact hok j h1 q
        · have e : j = i := by omega
          subst e; omega
      rw [hms3, hms3]
      omega
    refine Zx rfl (Zx rfl (Zx rfl (Zx rfl (Zx rfl (Zx rfl (Zx rfl (Zr (run_pick_f rfl rfl) rfl (Zj (St_iff rfl (St_skip (Jm_block_normal (Zq (St_region (Zr (run_add rfl rfl (w64 (by omega))) rfl (Zm rfl (Ls_nil (Jm_round (i + 1) ?_ ?_ ?_)))))))))))))))))
    · rw [hEn1]; exact sE ⟨rfl, rfl, rfl, rfl, trivial⟩
    · rw [hIv2]
      refine ⟨hs, hw, by omega, by omega, fun j h1 h2 => ?_⟩
      rcases Nat.lt_or_ge j i with q | q
      · exact hok j h1 q
      · have e : j = i := by omega
        subst e; omega
    rw [hms3, hms3]
    omega
  refine St_exit (Jm_then_exit (Jm_then_exit (Jm_block_same (Zq (Zs (Za rfl (Zj (St_ret (Jm_ret1 rfl rfl (⟨_, rfl, hw, ?_⟩))))))))))
  congr 1
  exact (decide_eq_true (rises_ok (n := n) (by omega) (fun j h1 h2 => hok j h1 (by omega)))).symm
set_option maxRecDepth 100000 in
set_option maxHeartbeats 1000000 in
theorem fSound_c (w : World) (A : Option Addr) (n c : Nat) (l : List Pr) (hr : Rd w A n c 3 (KP.flat l)) (hn : n ≤ 9223372036854775807) :
    Calls Try.prog 62 [.slice A n c].toArray w (Ret (fun v' w' => v' = .bool (decide (pairsOk l)) ∧ Sat w w' [])) := by
  have hs := Sat.start w
  have hl : l.length = n := by have := hr.len; rw [El.flat_length] at this; exact Nat.eq_of_mul_eq_mul_right (by decide) this
  refine Zb Try.func62 rfl rfl rfl (Zs (Za rfl (Zj (St_seq (Zs (Zm rfl (Zr (run_len un39 rfl) rfl (Zm rfl (Zj (St_block ?_))))))))))
  obtain ⟨En1, hEn1⟩ := ex1 fun (i : Nat) => ([(0, .slice A n c), (5, .slice A n c), (6, .int .i64 (n : Int)), (7, .int .i64 (i : Int))] : Env)
  obtain ⟨Iv2, hIv2⟩ := ew1 fun (i : Nat) (wr : World) => Sat w wr [] ∧ i ≤ n ∧ (∀ y ∈ l.take i, y.2.1 = true) ∧ (∀ j, 1 ≤ j → j < i → (l.getD (j - 1) (0, false, 0)).1 < (l.getD j (0, false, 0)).1)
  obtain ⟨ms3, hms3⟩ := ex1 fun (i : Nat) => (n - i : Nat)
  refine St_loop En1 Iv2 ms3 (0) ?_ ?_ ?_
  · rw [hIv2]
    exact ⟨hs, by omega, by simp, fun j h1 h2 => by omega⟩
  · rw [hEn1]; exact sE ⟨rfl, rfl, rfl, rfl, trivial⟩
  rintro i wr hI4
  rw [hIv2] at hI4
  obtain ⟨hs, hi, hok, hok2⟩ := hI4
  refine St_eqE (hEn1 _) (Zs (Zr (run_lss rfl rfl) rfl (Zj (St_seq (St_ifP rfl (fun h5 => ?_) (fun h5 => ?_))))))
  · refine St_skip (Zq (St_seq (St_block (Zs (Zm rfl ?_)))))
    obtain ⟨⟨ka, ha, ba⟩, ho⟩ : ∃ o, l.getD i (0, false, 0) = o := ⟨_, rfl⟩
    have hmem : (ka, ha, ba) ∈ l := by rw [← ho]; exact getD_mem3 (by omega)
    refine Ls_index (KP) (hr.inB hs) un39 inf138 rfl rfl (by omega) (by omega) ho rfl (fun b6 o7 hc8 => (Zr (run_load_agg agg138 inf138 rfl rfl hc8) rfl (Ls_alloc hs inf138 rfl (fun b10 w9 hs => (Za rfl (Ls_storeAgg hs inf138 rfl rfl rfl rfl (by simp [KP, Value.oneCell']) (fun w11 hs => (Zj (St_seq (St_draw (fun x => Below w11.heap.size w11 x) mixed (fun w12 q13 => ?_)))))))))))
    have hH := q13.below
    replace hs := hs.quiet q13
    refine An_grow hH ?_
    replace hH := Below.refl w12.heap.size w12
    refine Ya hH 0 rfl (by kernel_rfl) (fun x hx => run_fd un138 inf136 rfl 1 rfl) (Ya hH 1 rfl (by kernel_rfl) (fun x hx => run_fd un136 inf4 rfl 1 rfl) (Ya hH 2 rfl (by kernel_rfl) (fun x hx => run_load sc4 rfl ((hs.grow hx).blk_at 0 rfl 1 rfl)) (Ya hH 3 rfl (by kernel_rfl) (fun x hx => run_not rfl) (Ym hH 4 rfl (by kernel_rfl) rfl (An_part (t := 16) rfl (fun h14 => ?_) (fun h14 => ?_))))))
    · refine Yf hH 5 rfl (by kernel_rfl) rfl (Yf hH 6 rfl (by kernel_rfl) rfl (Yf hH 7 rfl (by kernel_rfl) rfl (Yu hH 8 rfl (by kernel_rfl) rfl (Yu hH 9 rfl (by kernel_rfl) rfl (Yu hH 10 rfl (by kernel_rfl) rfl (Yu hH 11 rfl (by kernel_rfl) rfl (Yu hH 12 rfl (by kernel_rfl) rfl (Yu hH 13 rfl (by kernel_rfl) rfl (Yu hH 14 rfl (by kernel_rfl) rfl (Yu hH 15 rfl (by kernel_rfl) rfl (Yu hH 16 rfl (by kernel_rfl) rfl (Yf hH 17 rfl (by kernel_rfl) rfl (Ya hH 18 rfl (by kernel_rfl) (fun x hx => run_pick_t rfl rfl) (An_done (by kernel_rfl) (Zq (St_ift rfl (Zs (Za rfl (Zj (St_ret (Jm_block_ret (Jm_then_ret (Jm_then_ret (Jm_block_ret (Jm_then_ret (Jm_ret1 rfl rfl (⟨_, rfl, ?_, hs.forget⟩)))))))))))))))))))))))))))
      congr 1
      first | (have hf : ha = false := (by simpa using ‹(!ha) = true›); exact (decide_eq_false (fun q => by have := q.1 _ hmem; rw [hf] at this; cases this)).symm) | exact (decide_eq_false (pairs_no (i := i) (by omega) (by omega) (by rw [ho, ho2]; show ka ≤ kb; omega))).symm
    refine Yo hH 5 rfl (by kernel_rfl) rfl (fun x hx => run_move rfl) (Yo hH 6 rfl (by kernel_rfl) rfl (fun x hx => run_gtr rfl rfl) (Yo hH 7 rfl (by kernel_rfl) rfl (fun x hx => run_move rfl) (An_partP (t := 19) rfl (fun h16 => ?_) (fun h16 => ?_))))
    · refine Yo hH 8 rfl (by kernel_rfl) rfl (fun x hx => run_fd un138 inf134 rfl 0 rfl) (Yo hH 9 rfl (by kernel_rfl) rfl (fun x hx => run_load sc134 rfl ((hs.grow hx).blk_at 0 rfl 0 rfl)) (Yo hH 10 rfl (by kernel_rfl) rfl (fun x hx => run_move rfl) (Yo hH 11 rfl (by kernel_rfl) rfl (fun x hx => run_move rfl) (Yo hH 12 rfl (by kernel_rfl) rfl (fun x hx => run_sub rfl rfl (show _ = ((i - 1 : Nat) : Int) by rw [w64 (by omega)]; omega)) ?_))))
      obtain ⟨⟨kb, hb, bb⟩, ho2⟩ : ∃ o, l.getD (i - 1) (0, false, 0) = o := ⟨_, rfl⟩
      refine An_index_on 13  (KP) rfl (by kernel_rfl) (by kernel_rfl) (by kernel_rfl) rfl rfl (fun _ _ _ _ h => h) hH (fun x hx => ((hr.inB hs).grow hx)) un39 inf138 rfl rfl (by omega) (by omega) ho2 rfl (fun b17 o18 hc19 => (Yo hH 14 rfl (by kernel_rfl) rfl (fun x hx => run_field un138 rfl inf134 (by decide) rfl) (Yo hH 15 rfl (by kernel_rfl) rfl (fun x hx => run_load sc134 rfl ((hc19 x hx) 0 _ rfl)) (Yo hH 16 rfl (by kernel_rfl) rfl (fun x hx => run_leq rfl rfl) (Yo hH 17 rfl (by kernel_rfl) rfl (fun x hx => run_pick_t rfl rfl) (Ya hH 18 rfl (by kernel_rfl) (fun x hx => run_pick_f rfl rfl) (An_done (by kernel_rfl) (Zq (St_ifP rfl (fun h20 => ?_) (fun h20 => ?_))))))))))
      · refine Zs (Za rfl (Zj (St_ret (Jm_block_ret (Jm_then_ret (Jm_then_ret (Jm_block_ret (Jm_then_ret (Jm_ret1 rfl rfl (⟨_, rfl, ?_, hs.forget⟩))))))))))
        congr 1
        first | (have hf : ha = false := (by simpa using ‹(!ha) = true›); exact (decide_eq_false (fun q => by have := q.1 _ hmem; rw [hf] at this; cases this)).symm) | exact (decide_eq_false (pairs_no (i := i) (by omega) (by omega) (by rw [ho, ho2]; show ka ≤ kb; omega))).symm
      refine St_skip (Jm_block_normal (Zq (St_region (Zr (run_add rfl rfl (w64 (by omega))) rfl (Zm rfl (Ls_nil (Jm_round (i + 1) ?_ ?_ ?_)))))))
      · rw [hEn1]; exact sE ⟨rfl, rfl, rfl, rfl, trivial⟩
      · rw [hIv2]
        refine ⟨hs.forget, by omega, fun y hy => ?_, fun j h1 h2 => ?_⟩
        · rw [take_snoc3 (d := (0, false, 0)) (by omega), ho] at hy
          rcases List.mem_append.1 hy with q | q
          · exact hok y q
          · simp only [List.mem_singleton] at q; subst q; first | assumption | simpa using ‹(!ha) = false›
        · rcases Nat.lt_or_ge j i with q | q
          · exact hok2 j h1 q
          · have e : j = i := by omega
            subst e; rw [ho]; first | (exfalso; omega) | (rw [ho2]; show kb < ka; omega)
      rw [hms3, hms3]
      omega
    refine Yf hH 8 rfl (by kernel_rfl) rfl (Yf hH 9 rfl (by kernel_rfl) rfl (Yf hH 10 rfl (by kernel_rfl) rfl (Yf hH 11 rfl (by kernel_rfl) rfl (Yf hH 12 rfl (by kernel_rfl) rfl (Yf hH 13 rfl (by kernel_rfl) rfl (Yf hH 14 rfl (by kernel_rfl) rfl (Yf hH 15 rfl (by kernel_rfl) rfl (Yf hH 16 rfl (by kernel_rfl) rfl (Yo hH 17 rfl (by kernel_rfl) rfl (fun x hx => run_pick_f rfl rfl) (Ya hH 18 rfl (by kernel_rfl) (fun x hx => run_pick_f rfl rfl) (An_done (by kernel_rfl) (Zq (St_iff rfl (St_skip (Jm_block_normal (Zq (St_region (Zr (run_add rfl rfl (w64 (by omega))) rfl (Zm rfl (Ls_nil (Jm_round (i + 1) ?_ ?_ ?_)))))))))))))))))))))
    · rw [hEn1]; exact sE ⟨rfl, rfl, rfl, rfl, trivial⟩
    · rw [hIv2]
      refine ⟨hs.forget, by omega, fun y hy => ?_, fun j h1 h2 => ?_⟩
      · rw [take_snoc3 (d := (0, false, 0)) (by omega), ho] at hy
        rcases List.mem_append.1 hy with q | q
        · exact hok y q
        · simp only [List.mem_singleton] at q; subst q; first | assumption | simpa using ‹(!ha) = false›
      · rcases Nat.lt_or_ge j i with q | q
        · exact hok2 j h1 q
        · have e : j = i := by omega
          subst e; rw [ho]; first | (exfalso; omega) | (rw [ho2]; show kb < ka; omega)
    rw [hms3, hms3]
    omega
  refine St_exit (Jm_then_exit (Jm_then_exit (Jm_block_same (Zq (Zs (Za rfl (Zj (St_ret (Jm_ret1 rfl rfl (⟨_, rfl, ?_, hs.forget⟩))))))))))
  congr 1
  have hi9 : i = n := by omega
  rw [hi9, List.take_of_length_le (by omega)] at hok
  exact (decide_eq_true (pairs_ok (n := n) (by omega) hok (fun j h1 h2 => hok2 j h1 (by omega)))).symm
end Go.Proofs.Ytcifdianinbkeaa.Lg

/-
  Sound, the reference's Sound, and whether two messages are the same. By program (gen/msg2.py).
-/
set_option linter.unusedVariables false
set_option linter.unusedSimpArgs false
namespace Go.Proofs.Ytcifdianinbkeaa.Lg
open Go Go.RowKit Go.Proofs.Ytcifdianinbkeaa.WirePure
theorem tf : ¬ (true = false) := by simp
theorem ft : ¬ (false = true) := by simp
theorem sound_num {x : MC} (h : Msound x) : mof x.k ≠ 0 ∧ (0 ≤ x.f ∧ x.f ≤ 8) ∧ (0 ≤ x.t ∧ x.t ≤ 8) ∧ (1 ≤ x.b ∧ x.b ≤ 1099511627776) ∧ (1 ≤ x.a ∧ x.a ≤ 1099511627776) ∧
    (mof x.k = 1 ∨ x.es.length = 0) ∧ (x.es.length ≤ 4) ∧ (mof x.k ≠ 1 ∨ 1 ≤ x.es.length) ∧ (mof x.k = 2 ∨ x.ks.length = 0) ∧ x.ks.length ≤ 64 ∧ (mof x.k = 3 ∨ x.ps.length = 0) ∧ x.ps.length ≤ 64 ∧ (mof x.k = 4 ∨ x.c = 0) ∧ (0 ≤ x.c ∧ x.c ≤ 1000) := by
  obtain ⟨h0, hf, ht, hb, ha, h1, n1, h2, n2, h3, n3, h4, n4⟩ := h
  have e1 : mof x.k = 1 → 1 ≤ x.es.length ∧ x.es.length ≤ 4 := fun q => (h1 q).2
  have e2 : mof x.k = 2 → x.ks.length ≤ 64 := fun q => (h2 q).1
  have e3 : mof x.k = 3 → x.ps.length ≤ 64 := fun q => (h3 q).1
  have m1 : mof x.k ≠ 1 → x.es.length = 0 := fun q => by rw [n1 q]; rfl
  have m2 : mof x.k ≠ 2 → x.ks.length = 0 := fun q => by rw [n2 q]; rfl
  have m3 : mof x.k ≠ 3 → x.ps.length = 0 := fun q => by rw [n3 q]; rfl
  refine ⟨h0, hf, ht, hb, ha, ?_, ?_, ?_, ?_, ?_, ?_, ?_, ?_, ?_⟩
  all_goals omega
def Mhead (x : MC) : Prop := mof x.k ≠ 0 ∧ (0 ≤ x.f ∧ x.f ≤ 8) ∧ (0 ≤ x.t ∧ x.t ≤ 8) ∧ (1 ≤ x.b ∧ x.b ≤ 1099511627776) ∧ (1 ≤ x.a ∧ x.a ≤ 1099511627776) ∧
    (mof x.k = 1 ∨ x.es.length = 0) ∧ (mof x.k = 2 ∨ x.ks.length = 0) ∧ (mof x.k = 3 ∨ x.ps.length = 0) ∧ (mof x.k = 4 ∨ x.c = 0)
theorem sound_iff {x : MC} (h : Mhead x) : Msound x ↔ (mof x.k = 1 → endsOk x.es) ∧ (mof x.k = 2 → x.ks.length ≤ 64 ∧ risesOk x.ks) ∧ (mof x.k = 3 → x.ps.length ≤ 64 ∧ pairsOk x.ps) ∧ (mof x.k = 4 → 0 ≤ x.c ∧ x.c ≤ 1000) := by
  obtain ⟨h0, hf, ht, hb, ha, m1, m2, m3, m4⟩ := h
  refine ⟨fun q => ?_, fun q => by
    obtain ⟨q1, q2, q3, q4⟩ := q
    exact ⟨h0, hf, ht, hb, ha, q1, fun q => List.length_eq_zero_iff.1 (by omega), q2, fun q => List.length_eq_zero_iff.1 (by omega), q3, fun q => List.length_eq_zero_iff.1 (by omega), q4, fun q => by omega⟩⟩
  obtain ⟨_, _, _, _, _, h1, _, h2, _, h3, _, h4, _⟩ := q
  exact ⟨h1, h2, h3, h4⟩
set_option maxRecDepth 100000 in
set_option maxHeartbeats 1000000 in
theorem Sound_c (w : World) (x : MC) (p : MP) (hm : MRd w x p) (hze : p.en ≤ 9223372036854775807) (hzk : p.kn ≤ 9223372036854775807) (hzp : p.pn ≤ 9223372036854775807) :
    Calls Try.prog 39 [.agg #[.int .i64 x.k, .int .i64 x.f, .int .i64 x.t, .int .i64 x.b, .int .i64 x.a, .int .i64 x.c, .slice p.eA p.en p.ec, .slice p.kA p.kn p.kc, .slice p.pA p.pn p.pc]].toArray w (Ret (fun v' w' => v' = .bool (decide (Msound x)) ∧ Sat w w' [])) := by
  have hs := Sat.start w
  have hen := hm.en
  have hkn := hm.kn
  have hpn := hm.pn
  have hmr := mof_range x.k
  refine Zb Try.func39 rfl rfl rfl (Zs (Ls_box hs rfl rfl (fun b2 w1 hs => (Za rfl (Zt (Zf un41 inf3 rfl 0 rfl (Zl sc3 rfl (hs.blk_at 0 rfl 0 rfl) (Zc fn58 rfl (of_c w1 x.k) rfl ?_))))))))
  rintro v3 w4 ⟨rfl, rfl⟩
  refine Za rfl (Zj (St_seq (St_block (Zs (Zm rfl (Zr (run_eql rfl rfl) rfl (Zm rfl (Ls_partP (t := 10) rfl (fun h5 => ?_) (fun h5 => ?_)))))))))
  · refine Zx rfl (Zx rfl (Zx rfl (Zx rfl (Zr (run_pick_t rfl rfl) rfl (Zm rfl (Zx rfl (Zx rfl (Zx rfl (Zx rfl (Zr (run_pick_t rfl rfl) rfl (Za rfl (Zj (St_ift rfl (Zs (Za rfl (Zj (St_ret (Jm_block_ret (Jm_then_ret (Jm_ret1 rfl rfl (⟨_, rfl, ?_, hs.forget⟩)))))))))))))))))))))
    first
    | exact congrArg Value.bool (decide_eq_false (fun q => by have := sound_num q; omega)).symm
    | exact congrArg Value.bool (decide_eq_false (hz1 (by assumption))).symm
    | (have hz3 := hz2 (by assumption)
       have hh : Mhead x := ⟨by omega, by omega, by omega, by omega, by omega, hz3.1, hz3.2.1, hz3.2.2.1, hz3.2.2.2⟩
       refine congrArg Value.bool (decide_eq_decide.2 ?_)
       rw [sound_iff hh]
       first
       | exact ⟨fun q => ⟨fun _ => q, fun e => by omega, fun e => by omega, fun e => by omega⟩, fun q => q.1 (by omega)⟩
       | exact ⟨fun q => ⟨fun e => by omega, fun _ => ⟨by omega, q⟩, fun e => by omega, fun e => by omega⟩, fun q => (q.2.1 (by omega)).2⟩
       | exact ⟨fun q => ⟨fun e => by omega, fun e => by omega, fun _ => ⟨by omega, q⟩, fun e => by omega⟩, fun q => (q.2.2.1 (by omega)).2⟩
       | exact ⟨fun q => ⟨fun e => by omega, fun e => by omega, fun e => by omega, fun _ => q⟩, fun q => q.2.2.2 (by omega)⟩)
  refine Zo rfl (Zf un41 inf3 rfl 1 rfl (Zo rfl (Zl sc3 rfl (hs.blk_at 0 rfl 1 rfl) (Zo rfl (Zc fn59 rfl (mwithin_c w1 0 x.f 8) rfl ?_)))))
  rintro v7 w9 ⟨rfl, rfl⟩
  refine Zo rfl (Zr (run_not rfl) rfl (Zr (run_pick_f rfl rfl) rfl (Zm rfl (Ls_partN (t := 16) rfl (fun h10 => ?_) (fun h10 => ?_)))))
  · refine Zx rfl (Zx rfl (Zx rfl (Zx rfl (Zr (run_pick_t rfl rfl) rfl (Za rfl (Zj (St_ift rfl (Zs (Za rfl (Zj (St_ret (Jm_block_ret (Jm_then_ret (Jm_ret1 rfl rfl (⟨_, rfl, ?_, hs.forget⟩)))))))))))))))
    first
    | exact congrArg Value.bool (decide_eq_false (fun q => by have := sound_num q; omega)).symm
    | exact congrArg Value.bool (decide_eq_false (hz1 (by assumption))).symm
    | (have hz3 := hz2 (by assumption)
       have hh : Mhead x := ⟨by omega, by omega, by omega, by omega, by omega, hz3.1, hz3.2.1, hz3.2.2.1, hz3.2.2.2⟩
       refine congrArg Value.bool (decide_eq_decide.2 ?_)
       rw [sound_iff hh]
       first
       | exact ⟨fun q => ⟨fun _ => q, fun e => by omega, fun e => by omega, fun e => by omega⟩, fun q => q.1 (by omega)⟩
       | exact ⟨fun q => ⟨fun e => by omega, fun _ => ⟨by omega, q⟩, fun e => by omega, fun e => by omega⟩, fun q => (q.2.1 (by omega)).2⟩
       | exact ⟨fun q => ⟨fun e => by omega, fun e => by omega, fun _ => ⟨by omega, q⟩, fun e => by omega⟩, fun q => (q.2.2.1 (by omega)).2⟩
       | exact ⟨fun q => ⟨fun e => by omega, fun e => by omega, fun e => by omega, fun _ => q⟩, fun q => q.2.2.2 (by omega)⟩)
  refine Zo rfl (Zf un41 inf3 rfl 2 rfl (Zo rfl (Zl sc3 rfl (hs.blk_at 0 rfl 2 rfl) (Zo rfl (Zc fn59 rfl (mwithin_c w1 0 x.t 8) rfl ?_)))))
  rintro v12 w13 ⟨rfl, rfl⟩
  refine Zo rfl (Zr (run_not rfl) rfl (Zr (run_pick_f rfl rfl) rfl (Za rfl (Zj (St_ifN rfl (fun h14 => ?_) (fun h14 => ?_))))))
  · refine Zs (Za rfl (Zj (St_ret (Jm_block_ret (Jm_then_ret (Jm_ret1 rfl rfl (⟨_, rfl, ?_, hs.forget⟩)))))))
    first
    | exact congrArg Value.bool (decide_eq_false (fun q => by have := sound_num q; omega)).symm
    | exact congrArg Value.bool (decide_eq_false (hz1 (by assumption))).symm
    | (have hz3 := hz2 (by assumption)
       have hh : Mhead x := ⟨by omega, by omega, by omega, by omega, by omega, hz3.1, hz3.2.1, hz3.2.2.1, hz3.2.2.2⟩
       refine congrArg Value.bool (decide_eq_decide.2 ?_)
       rw [sound_iff hh]
       first
       | exact ⟨fun q => ⟨fun _ => q, fun e => by omega, fun e => by omega, fun e => by omega⟩, fun q => q.1 (by omega)⟩
       | exact ⟨fun q => ⟨fun e => by omega, fun _ => ⟨by omega, q⟩, fun e => by omega, fun e => by omega⟩, fun q => (q.2.1 (by omega)).2⟩
       | exact ⟨fun q => ⟨fun e => by omega, fun e => by omega, fun _ => ⟨by omega, q⟩, fun e => by omega⟩, fun q => (q.2.2.1 (by omega)).2⟩
       | exact ⟨fun q => ⟨fun e => by omega, fun e => by omega, fun e => by omega, fun _ => q⟩, fun q => q.2.2.2 (by omega)⟩)
  refine Zs (Zf un41 inf3 rfl 3 rfl (Zl sc3 rfl (hs.blk_at 0 rfl 3 rfl) (Zc fn59 rfl (mwithin_c w1 1 x.b 1099511627776) rfl ?_)))
  rintro v15 w16 ⟨rfl, rfl⟩
  refine Zr (run_not rfl) rfl (Zm rfl (Ls_partN (t := 27) rfl (fun h17 => ?_) (fun h17 => ?_)))
  · refine Zx rfl (Zx rfl (Zx rfl (Zx rfl (Zr (run_pick_t rfl rfl) rfl (Za rfl (Zj (St_ift rfl (Zs (Za rfl (Zj (St_ret (Jm_block_ret (Jm_then_ret (Jm_ret1 rfl rfl (⟨_, rfl, ?_, hs.forget⟩)))))))))))))))
    first
    | exact congrArg Value.bool (decide_eq_false (fun q => by have := sound_num q; omega)).symm
    | exact congrArg Value.bool (decide_eq_false (hz1 (by assumption))).symm
    | (have hz3 := hz2 (by assumption)
       have hh : Mhead x := ⟨by omega, by omega, by omega, by omega, by omega, hz3.1, hz3.2.1, hz3.2.2.1, hz3.2.2.2⟩
       refine congrArg Value.bool (decide_eq_decide.2 ?_)
       rw [sound_iff hh]
       first
       | exact ⟨fun q => ⟨fun _ => q, fun e => by omega, fun e => by omega, fun e => by omega⟩, fun q => q.1 (by omega)⟩
       | exact ⟨fun q => ⟨fun e => by omega, fun _ => ⟨by omega, q⟩, fun e => by omega, fun e => by omega⟩, fun q => (q.2.1 (by omega)).2⟩
       | exact ⟨fun q => ⟨fun e => by omega, fun e => by omega, fun _ => ⟨by omega, q⟩, fun e => by omega⟩, fun q => (q.2.2.1 (by omega)).2⟩
       | exact ⟨fun q => ⟨fun e => by omega, fun e => by omega, fun e => by omega, fun _ => q⟩, fun q => q.2.2.2 (by omega)⟩)
  refine Zo rfl (Zf un41 inf3 rfl 4 rfl (Zo rfl (Zl sc3 rfl (hs.blk_at 0 rfl 4 rfl) (Zo rfl (Zc fn59 rfl (mwithin_c w1 1 x.a 1099511627776) rfl ?_)))))
  rintro v19 w20 ⟨rfl, rfl⟩
  refine Zo rfl (Zr (run_not rfl) rfl (Zr (run_pick_f rfl rfl) rfl (Za rfl (Zj (St_ifN rfl (fun h21 => ?_) (fun h21 => ?_))))))
  · refine Zs (Za rfl (Zj (St_ret (Jm_block_ret (Jm_then_ret (Jm_ret1 rfl rfl (⟨_, rfl, ?_, hs.forget⟩)))))))
    first
    | exact congrArg Value.bool (decide_eq_false (fun q => by have := sound_num q; omega)).symm
    | exact congrArg Value.bool (decide_eq_false (hz1 (by assumption))).symm
    | (have hz3 := hz2 (by assumption)
       have hh : Mhead x := ⟨by omega, by omega, by omega, by omega, by omega, hz3.1, hz3.2.1, hz3.2.2.1, hz3.2.2.2⟩
       refine congrArg Value.bool (decide_eq_decide.2 ?_)
       rw [sound_iff hh]
       first
       | exact ⟨fun q => ⟨fun _ => q, fun e => by omega, fun e => by omega, fun e => by omega⟩, fun q => q.1 (by omega)⟩
       | exact ⟨fun q => ⟨fun e => by omega, fun _ => ⟨by omega, q⟩, fun e => by omega, fun e => by omega⟩, fun q => (q.2.1 (by omega)).2⟩
       | exact ⟨fun q => ⟨fun e => by omega, fun e => by omega, fun _ => ⟨by omega, q⟩, fun e => by omega⟩, fun q => (q.2.2.1 (by omega)).2⟩
       | exact ⟨fun q => ⟨fun e => by omega, fun e => by omega, fun e => by omega, fun _ => q⟩, fun q => q.2.2.2 (by omega)⟩)
  refine St_seq (Zs (Zm rfl (Zr (run_neq rfl rfl) rfl (Zm rfl (Ls_partP (t := 36) rfl (fun h22 => ?_) (fun h22 => ?_))))))
  · refine Zo rfl (Zf un41 inf25 rfl 6 rfl (Zo rfl (Zl sc25 rfl (hs.blk_at 0 rfl 6 rfl) (Zo rfl (Zr (run_len un25 rfl) rfl (Zo rfl (Zr (run_gtr rfl rfl) rfl (Zr (run_pick_t rfl rfl) rfl (Za rfl (Zj ?_))))))))))
    obtain ⟨En23, hEn23⟩ := ex1 fun (z : Bool) => ([(1, .pointer (some ⟨b2, 0, none⟩)), (3, .int .i64 (mof x.k)), (33, .bool z)] : Env)
    obtain ⟨Iv24, hIv24⟩ := ew1 fun (z : Bool) (w25 : World) => Sat w w25 [Blk b2 [.int .i64 x.k, .int .i64 x.f, .int .i64 x.t, .int .i64 x.b, .int .i64 x.a, .int .i64 x.c, .slice p.eA p.en p.ec, .slice p.kA p.kn p.kc, .slice p.pA p.pn p.pc] 41] ∧ (z = true → ¬ Msound x) ∧ (z = false → (mof x.k = 1 ∨ x.es.length = 0) ∧ (mof x.k = 2 ∨ x.ks.length = 0) ∧ (mof x.k = 3 ∨ x.ps.length = 0) ∧ (mof x.k = 4 ∨ x.c = 0))
    refine St_join En23 Iv24 ?_ ?_
    · refine St_ifPK rfl (fun h26 => ?_) (fun h26 => ?_)
      · refine St_skip (Jm_join true ?_ ?_)
        · rw [hEn23]; exact sE ⟨rfl, rfl, rfl, trivial⟩
        rw [hIv24]
        first
        | exact ⟨hs, fun _ q => by have := sound_num q; omega, (fun h => absurd h tf)⟩
        | exact ⟨hs, hz1, hz2⟩
        | exact ⟨hs, (fun h => absurd h ft), fun _ => ⟨by omega, by omega, by omega, by omega⟩⟩
        | exact ⟨hs, fun h q => by have h2 := of_decide_eq_true h; have := sound_num q; omega, fun h => by have h2 := of_decide_eq_false h; exact ⟨by omega, by omega, by omega, by omega⟩⟩
        | (refine ⟨hs, (fun h => absurd h ft), fun _ => ?_⟩; exact ⟨by omega, by omega, by omega, by omega⟩)
      refine Zs (Zm rfl (Zr (run_neq rfl rfl) rfl (Zm rfl (Ls_partP (t := 44) rfl (fun h27 => ?_) (fun h27 => ?_)))))
      · refine Zo rfl (Zf un41 inf38 rfl 7 rfl (Zo rfl (Zl sc38 rfl (hs.blk_at 0 rfl 7 rfl) (Zo rfl (Zr (run_len un38 rfl) rfl (Zo rfl (Zr (run_gtr rfl rfl) rfl (Zr (run_pick_t rfl rfl) rfl (Za rfl (Zj ?_))))))))))
        obtain ⟨En28, hEn28⟩ := ex1 fun (z : Bool) => ([(1, .pointer (some ⟨b2, 0, none⟩)), (3, .int .i64 (mof x.k)), (33, .bool z)] : Env)
        obtain ⟨Iv29, hIv29⟩ := ew1 fun (z : Bool) (w30 : World) => Sat w w30 [Blk b2 [.int .i64 x.k, .int .i64 x.f, .int .i64 x.t, .int .i64 x.b, .int .i64 x.a, .int .i64 x.c, .slice p.eA p.en p.ec, .slice p.kA p.kn p.kc, .slice p.pA p.pn p.pc] 41] ∧ (z = true → ¬ Msound x) ∧ (z = false → (mof x.k = 1 ∨ x.es.length = 0) ∧ (mof x.k = 2 ∨ x.ks.length = 0) ∧ (mof x.k = 3 ∨ x.ps.length = 0) ∧ (mof x.k = 4 ∨ x.c = 0))
        refine St_join En28 Iv29 ?_ ?_
        · refine St_ifPK rfl (fun h31 => ?_) (fun h31 => ?_)
          · refine St_skip (Jm_join true ?_ ?_)
            · rw [hEn28]; exact sE ⟨rfl, rfl, rfl, trivial⟩
            rw [hIv29]
            first
            | exact ⟨hs, fun _ q => by have := sound_num q; omega, (fun h => absurd h tf)⟩
            | exact ⟨hs, hz1, hz2⟩
            | exact ⟨hs, (fun h => absurd h ft), fun _ => ⟨by omega, by omega, by omega, by omega⟩⟩
            | exact ⟨hs, fun h q => by have h2 := of_decide_eq_true h; have := sound_num q; omega, fun h => by have h2 := of_decide_eq_false h; exact ⟨by omega, by omega, by omega, by omega⟩⟩
            | (refine ⟨hs, (fun h => absurd h ft), fun _ => ?_⟩; exact ⟨by omega, by omega, by omega, by omega⟩)
          refine Zs (Zm rfl (Zr (run_neq rfl rfl) rfl (Zm rfl (Ls_partP (t := 52) rfl (fun h32 => ?_) (fun h32 => ?_)))))
          · refine Zo rfl (Zf un41 inf39 rfl 8 rfl (Zo rfl (Zl sc39 rfl (hs.blk_at 0 rfl 8 rfl) (Zo rfl (Zr (run_len un39 rfl) rfl (Zo rfl (Zr (run_gtr rfl rfl) rfl (Zr (run_pick_t rfl rfl) rfl (Za rfl (Zj ?_))))))))))
            obtain ⟨En33, hEn33⟩ := ex1 fun (z : Bool) => ([(1, .pointer (some ⟨b2, 0, none⟩)), (3, .int .i64 (mof x.k)), (33, .bool z)] : Env)
            obtain ⟨Iv34, hIv34⟩ := ew1 fun (z : Bool) (w35 : World) => Sat w w35 [Blk b2 [.int .i64 x.k, .int .i64 x.f, .int .i64 x.t, .int .i64 x.b, .int .i64 x.a, .int .i64 x.c, .slice p.eA p.en p.ec, .slice p.kA p.kn p.kc, .slice p.pA p.pn p.pc] 41] ∧ (z = true → ¬ Msound x) ∧ (z = false → (mof x.k = 1 ∨ x.es.length = 0) ∧ (mof x.k = 2 ∨ x.ks.length = 0) ∧ (mof x.k = 3 ∨ x.ps.length = 0) ∧ (mof x.k = 4 ∨ x.c = 0))
            refine St_join En33 Iv34 ?_ ?_
            · refine St_ifPK rfl (fun h36 => ?_) (fun h36 => ?_)
              · refine St_skip (Jm_join true ?_ ?_)
                · rw [hEn33]; exact sE ⟨rfl, rfl, rfl, trivial⟩
                rw [hIv34]
                first
                | exact ⟨hs, fun _ q => by have := sound_num q; omega, (fun h => absurd h tf)⟩
                | exact ⟨hs, hz1, hz2⟩
                | exact ⟨hs, (fun h => absurd h ft), fun _ => ⟨by omega, by omega, by omega, by omega⟩⟩
                | exact ⟨hs, fun h q => by have h2 := of_decide_eq_true h; have := sound_num q; omega, fun h => by have h2 := of_decide_eq_false h; exact ⟨by omega, by omega, by omega, by omega⟩⟩
                | (refine ⟨hs, (fun h => absurd h ft), fun _ => ?_⟩; exact ⟨by omega, by omega, by omega, by omega⟩)
              refine St_region (Zm rfl (Zr (run_neq rfl rfl) rfl (Zm rfl (Ls_partP (t := 60) rfl (fun h37 => ?_) (fun h37 => ?_)))))
              · refine Zo rfl (Zf un41 inf3 rfl 5 rfl (Zo rfl (Zl sc3 rfl (hs.blk_at 0 rfl 5 rfl) (Zo rfl (Zr (run_neq rfl rfl) rfl (Zr (run_pick_t rfl rfl) rfl (Za rfl (Ls_nil (Jm_join (decide (x.c ≠ 0)) ?_ ?_)))))))))
                · rw [hEn33]; exact sE ⟨rfl, rfl, rfl, trivial⟩
                rw [hIv34]
                first
                | exact ⟨hs, fun _ q => by have := sound_num q; omega, (fun h => absurd h tf)⟩
                | exact ⟨hs, hz1, hz2⟩
                | exact ⟨hs, (fun h => absurd h ft), fun _ => ⟨by omega, by omega, by omega, by omega⟩⟩
                | exact ⟨hs, fun h q => by have h2 := of_decide_eq_true h; have := sound_num q; omega, fun h => by have h2 := of_decide_eq_false h; exact ⟨by omega, by omega, by omega, by omega⟩⟩
                | (refine ⟨hs, (fun h => absurd h ft), fun _ => ?_⟩; exact ⟨by omega, by omega, by omega, by omega⟩)
              refine Zx rfl (Zx rfl (Zx rfl (Zr (run_pick_f rfl rfl) rfl (Za rfl (Ls_nil (Jm_join false ?_ ?_))))))
              · rw [hEn33]; exact sE ⟨rfl, rfl, rfl, trivial⟩
              rw [hIv34]
              first
              | exact ⟨hs, fun _ q => by have := sound_num q; omega, (fun h => absurd h tf)⟩
              | exact ⟨hs, hz1, hz2⟩
              | exact ⟨hs, (fun h => absurd h ft), fun _ => ⟨by omega, by omega, by omega, by omega⟩⟩
              | exact ⟨hs, fun h q => by have h2 := of_decide_eq_true h; have := sound_num q; omega, fun h => by have h2 := of_decide_eq_false h; exact ⟨by omega, by omega, by omega, by omega⟩⟩
              | (refine ⟨hs, (fun h => absurd h ft), fun _ => ?_⟩; exact ⟨by omega, by omega, by omega, by omega⟩)
            rintro z w35 hI38
            rw [hIv34] at hI38
            obtain ⟨hs, hz1, hz2⟩ := hI38
            refine Jm_eqE (hEn33 _) (Jm_join z ?_ ?_)
            · rw [hEn28]; exact sE ⟨rfl, rfl, rfl, trivial⟩
            rw [hIv29]
            first
            | exact ⟨hs, fun _ q => by have := sound_num q; omega, (fun h => absurd h tf)⟩
            | exact ⟨hs, hz1, hz2⟩
            | exact ⟨hs, (fun h => absurd h ft), fun _ => ⟨by omega, by omega, by omega, by omega⟩⟩
            | exact ⟨hs, fun h q => by have h2 := of_decide_eq_true h; have := sound_num q; omega, fun h => by have h2 := of_decide_eq_false h; exact ⟨by omega, by omega, by omega, by omega⟩⟩
            | (refine ⟨hs, (fun h => absurd h ft), fun _ => ?_⟩; exact ⟨by omega, by omega, by omega, by omega⟩)
          refine Zx rfl (Zx rfl (Zx rfl (Zx rfl (Zr (run_pick_f rfl rfl) rfl (Za rfl (Zj ?_))))))
          obtain ⟨En39, hEn39⟩ := ex1 fun (z : Bool) => ([(1, .pointer (some ⟨b2, 0, none⟩)), (3, .int .i64 (mof x.k)), (33, .bool z)] : Env)
          obtain ⟨Iv40, hIv40⟩ := ew1 fun (z : Bool) (w41 : World) => Sat w w41 [Blk b2 [.int .i64 x.k, .int .i64 x.f, .int .i64 x.t, .int .i64 x.b, .int .i64 x.a, .int .i64 x.c, .slice p.eA p.en p.ec, .slice p.kA p.kn p.kc, .slice p.pA p.pn p.pc] 41] ∧ (z = true → ¬ Msound x) ∧ (z = false → (mof x.k = 1 ∨ x.es.length = 0) ∧ (mof x.k = 2 ∨ x.ks.length = 0) ∧ (mof x.k = 3 ∨ x.ps.length = 0) ∧ (mof x.k = 4 ∨ x.c = 0))
          refine St_join En39 Iv40 ?_ ?_
          · refine St_iff rfl (St_region (Zm rfl (Zr (run_neq rfl rfl) rfl (Zm rfl (Ls_partP (t := 60) rfl (fun h43 => ?_) (fun h43 => ?_))))))
            · refine Zo rfl (Zf un41 inf3 rfl 5 rfl (Zo rfl (Zl sc3 rfl (hs.blk_at 0 rfl 5 rfl) (Zo rfl (Zr (run_neq rfl rfl) rfl (Zr (run_pick_t rfl rfl) rfl (Za rfl (Ls_nil (Jm_join (decide (x.c ≠ 0)) ?_ ?_)))))))))
              · rw [hEn39]; exact sE ⟨rfl, rfl, rfl, trivial⟩
              rw [hIv40]
              first
              | exact ⟨hs, fun _ q => by have := sound_num q; omega, (fun h => absurd h tf)⟩
              | exact ⟨hs, hz1, hz2⟩
              | exact ⟨hs, (fun h => absurd h ft), fun _ => ⟨by omega, by omega, by omega, by omega⟩⟩
              | exact ⟨hs, fun h q => by have h2 := of_decide_eq_true h; have := sound_num q; omega, fun h => by have h2 := of_decide_eq_false h; exact ⟨by omega, by omega, by omega, by omega⟩⟩
              | (refine ⟨hs, (fun h => absurd h ft), fun _ => ?_⟩; exact ⟨by omega, by omega, by omega, by omega⟩)
            refine Zx rfl (Zx rfl (Zx rfl (Zr (run_pick_f rfl rfl) rfl (Za rfl (Ls_nil (Jm_join false ?_ ?_))))))
            · rw [hEn39]; exact sE ⟨rfl, rfl, rfl, trivial⟩
            rw [hIv40]
            first
            | exact ⟨hs, fun _ q => by have := sound_num q; omega, (fun h => absurd h tf)⟩
            | exact ⟨hs, hz1, hz2⟩
            | exact ⟨hs, (fun h => absurd h ft), fun _ => ⟨by omega, by omega, by omega, by omega⟩⟩
            | exact ⟨hs, fun h q => by have h2 := of_decide_eq_true h; have := sound_num q; omega, fun h => by have h2 := of_decide_eq_false h; exact ⟨by omega, by omega, by omega, by omega⟩⟩
            | (refine ⟨hs, (fun h => absurd h ft), fun _ => ?_⟩; exact ⟨by omega, by omega, by omega, by omega⟩)
          rintro z w41 hI44
          rw [hIv40] at hI44
          obtain ⟨hs, hz1, hz2⟩ := hI44
          refine Jm_eqE (hEn39 _) (Jm_join z ?_ ?_)
          · rw [hEn28]; exact sE ⟨rfl, rfl, rfl, trivial⟩
          rw [hIv29]
          first
          | exact ⟨hs, fun _ q => by have := sound_num q; omega, (fun h => absurd h tf)⟩
          | exact ⟨hs, hz1, hz2⟩
          | exact ⟨hs, (fun h => absurd h ft), fun _ => ⟨by omega, by omega, by omega, by omega⟩⟩
          | exact ⟨hs, fun h q => by have h2 := of_decide_eq_true h; have := sound_num q; omega, fun h => by have h2 := of_decide_eq_false h; exact ⟨by omega, by omega, by omega, by omega⟩⟩
          | (refine ⟨hs, (fun h => absurd h ft), fun _ => ?_⟩; exact ⟨by omega, by omega, by omega, by omega⟩)
        rintro z w30 hI45
        rw [hIv29] at hI45
        obtain ⟨hs, hz1, hz2⟩ := hI45
        refine Jm_eqE (hEn28 _) (Jm_join z ?_ ?_)
        · rw [hEn23]; exact sE ⟨rfl, rfl, rfl, trivial⟩
        rw [hIv24]
        first
        | exact ⟨hs, fun _ q => by have := sound_num q; omega, (fun h => absurd h tf)⟩
        | exact ⟨hs, hz1, hz2⟩
        | exact ⟨hs, (fun h => absurd h ft), fun _ => ⟨by omega, by omega, by omega, by omega⟩⟩
        | exact ⟨hs, fun h q => by have h2 := of_decide_eq_true h; have := sound_num q; omega, fun h => by have h2 := of_decide_eq_false h; exact ⟨by omega, by omega, by omega, by omega⟩⟩
        | (refine ⟨hs, (fun h => absurd h ft), fun _ => ?_⟩; exact ⟨by omega, by omega, by omega, by omega⟩)
      refine Zx rfl (Zx rfl (Zx rfl (Zx rfl (Zr (run_pick_f rfl rfl) rfl (Za rfl (Zj ?_))))))
      obtain ⟨En46, hEn46⟩ := ex1 fun (z : Bool) => ([(1, .pointer (some ⟨b2, 0, none⟩)), (3, .int .i64 (mof x.k)), (33, .bool z)] : Env)
      obtain ⟨Iv47, hIv47⟩ := ew1 fun (z : Bool) (w48 : World) => Sat w w48 [Blk b2 [.int .i64 x.k, .int .i64 x.f, .int .i64 x.t, .int .i64 x.b, .int .i64 x.a, .int .i64 x.c, .slice p.eA p.en p.ec, .slice p.kA p.kn p.kc, .slice p.pA p.pn p.pc] 41] ∧ (z = true → ¬ Msound x) ∧ (z = false → (mof x.k = 1 ∨ x.es.length = 0) ∧ (mof x.k = 2 ∨ x.ks.length = 0) ∧ (mof x.k = 3 ∨ x.ps.length = 0) ∧ (mof x.k = 4 ∨ x.c = 0))
      refine St_join En46 Iv47 ?_ ?_
      · refine St_iff rfl (Zs (Zm rfl (Zr (run_neq rfl rfl) rfl (Zm rfl (Ls_partP (t := 52) rfl (fun h50 => ?_) (fun h50 => ?_))))))
        · refine Zo rfl (Zf un41 inf39 rfl 8 rfl (Zo rfl (Zl sc39 rfl (hs.blk_at 0 rfl 8 rfl) (Zo rfl (Zr (run_len un39 rfl) rfl (Zo rfl (Zr (run_gtr rfl rfl) rfl (Zr (run_pick_t rfl rfl) rfl (Za rfl (Zj ?_))))))))))
          obtain ⟨En51, hEn51⟩ := ex1 fun (z : Bool) => ([(1, .pointer (some ⟨b2, 0, none⟩)), (3, .int .i64 (mof x.k)), (33, .bool z)] : Env)
          obtain ⟨Iv52, hIv52⟩ := ew1 fun (z : Bool) (w53 : World) => Sat w w53 [Blk b2 [.int .i64 x.k, .int .i64 x.f, .int .i64 x.t, .int .i64 x.b, .int .i64 x.a, .int .i64 x.c, .slice p.eA p.en p.ec, .slice p.kA p.kn p.kc, .slice p.pA p.pn p.pc] 41] ∧ (z = true → ¬ Msound x) ∧ (z = false → (mof x.k = 1 ∨ x.es.length = 0) ∧ (mof x.k = 2 ∨ x.ks.length = 0) ∧ (mof x.k = 3 ∨ x.ps.length = 0) ∧ (mof x.k = 4 ∨ x.c = 0))
          refine St_join En51 Iv52 ?_ ?_
          · refine St_ifPK rfl (fun h54 => ?_) (fun h54 => ?_)
            · refine St_skip (Jm_join true ?_ ?_)
              · rw [hEn51]; exact sE ⟨rfl, rfl, rfl, trivial⟩
              rw [hIv52]
              first
              | exact ⟨hs, fun _ q => by have := sound_num q; omega, (fun h => absurd h tf)⟩
              | exact ⟨hs, hz1, hz2⟩
              | exact ⟨hs, (fun h => absurd h ft), fun _ => ⟨by omega, by omega, by omega, by omega⟩⟩
              | exact ⟨hs, fun h q => by have h2 := of_decide_eq_true h; have := sound_num q; omega, fun h => by have h2 := of_decide_eq_false h; exact ⟨by omega, by omega, by omega, by omega⟩⟩
              | (refine ⟨hs, (fun h => absurd h ft), fun _ => ?_⟩; exact ⟨by omega, by omega, by omega, by omega⟩)
            refine St_region (Zm rfl (Zr (run_neq rfl rfl) rfl (Zm rfl (Ls_partP (t := 60) rfl (fun h55 => ?_) (fun h55 => ?_)))))
            · refine Zo rfl (Zf un41 inf3 rfl 5 rfl (Zo rfl (Zl sc3 rfl (hs.blk_at 0 rfl 5 rfl) (Zo rfl (Zr (run_neq rfl rfl) rfl (Zr (run_pick_t rfl rfl) rfl (Za rfl (Ls_nil (Jm_join (decide (x.c ≠ 0)) ?_ ?_)))))))))
              · rw [hEn51]; exact sE ⟨rfl, rfl, rfl, trivial⟩
              rw [hIv52]
              first
              | exact ⟨hs, fun _ q => by have := sound_num q; omega, (fun h => absurd h tf)⟩
              | exact ⟨hs, hz1, hz2⟩
              | exact ⟨hs, (fun h => absurd h ft), fun _ => ⟨by omega, by omega, by omega, by omega⟩⟩
              | exact ⟨hs, fun h q => by have h2 := of_decide_eq_true h; have := sound_num q; omega, fun h => by have h2 := of_decide_eq_false h; exact ⟨by omega, by omega, by omega, by omega⟩⟩
              | (refine ⟨hs, (fun h => absurd h ft), fun _ => ?_⟩; exact ⟨by omega, by omega, by omega, by omega⟩)
            refine Zx rfl (Zx rfl (Zx rfl (Zr (run_pick_f rfl rfl) rfl (Za rfl (Ls_nil (Jm_join false ?_ ?_))))))
            · rw [hEn51]; exact sE ⟨rfl, rfl, rfl, trivial⟩
            rw [hIv52]
            first
            | exact ⟨hs, fun _ q => by have := sound_num q; omega, (fun h => absurd h tf)⟩
            | exact ⟨hs, hz1, hz2⟩
            | exact ⟨hs, (fun h => absurd h ft), fun _ => ⟨by omega, by omega, by omega, by omega⟩⟩
            | exact ⟨hs, fun h q => by have h2 := of_decide_eq_true h; have := sound_num q; omega, fun h => by have h2 := of_decide_eq_false h; exact ⟨by omega, by omega, by omega, by omega⟩⟩
            | (refine ⟨hs, (fun h => absurd h ft), fun _ => ?_⟩; exact ⟨by omega, by omega, by omega, by omega⟩)
          rintro z w53 hI56
          rw [hIv52] at hI56
          obtain ⟨hs, hz1, hz2⟩ := hI56
          refine Jm_eqE (hEn51 _) (Jm_join z ?_ ?_)
          · rw [hEn46]; exact sE ⟨rfl, rfl, rfl, trivial⟩
          rw [hIv47]
          first
          | exact ⟨hs, fun _ q => by have := sound_num q; omega, (fun h => absurd h tf)⟩
          | exact ⟨hs, hz1, hz2⟩
          | exact ⟨hs, (fun h => absurd h ft), fun _ => ⟨by omega, by omega, by omega, by omega⟩⟩
          | exact ⟨hs, fun h q => by have h2 := of_decide_eq_true h; have := sound_num q; omega, fun h => by have h2 := of_decide_eq_false h; exact ⟨by omega, by omega, by omega, by omega⟩⟩
          | (refine ⟨hs, (fun h => absurd h ft), fun _ => ?_⟩; exact ⟨by omega, by omega, by omega, by omega⟩)
        refine Zx rfl (Zx rfl (Zx rfl (Zx rfl (Zr (run_pick_f rfl rfl) rfl (Za rfl (Zj ?_))))))
        obtain ⟨En57, hEn57⟩ := ex1 fun (z : Bool) => ([(1, .pointer (some ⟨b2, 0, none⟩)), (3, .int .i64 (mof x.k)), (33, .bool z)] : Env)
        obtain ⟨Iv58, hIv58⟩ := ew1 fun (z : Bool) (w59 : World) => Sat w w59 [Blk b2 [.int .i64 x.k, .int .i64 x.f, .int .i64 x.t, .int .i64 x.b, .int .i64 x.a, .int .i64 x.c, .slice p.eA p.en p.ec, .slice p.kA p.kn p.kc, .slice p.pA p.pn p.pc] 41] ∧ (z = true → ¬ Msound x) ∧ (z = false → (mof x.k = 1 ∨ x.es.length = 0) ∧ (mof x.k = 2 ∨ x.ks.length = 0) ∧ (mof x.k = 3 ∨ x.ps.length = 0) ∧ (mof x.k = 4 ∨ x.c = 0))
        refine St_join En57 Iv58 ?_ ?_
        · refine St_iff rfl (St_region (Zm rfl (Zr (run_neq rfl rfl) rfl (Zm rfl (Ls_partP (t := 60) rfl (fun h61 => ?_) (fun h61 => ?_))))))
          · refine Zo rfl (Zf un41 inf3 rfl 5 rfl (Zo rfl (Zl sc3 rfl (hs.blk_at 0 rfl 5 rfl) (Zo rfl (Zr (run_neq rfl rfl) rfl (Zr (run_pick_t rfl rfl) rfl (Za rfl (Ls_nil (Jm_join (decide (x.c ≠ 0)) ?_ ?_)))))))))
            · rw [hEn57]; exact sE ⟨rfl, rfl, rfl, trivial⟩
            rw [hIv58]
            first
            | exact ⟨hs, fun _ q => by have := sound_num q; omega, (fun h => absurd h tf)⟩
            | exact ⟨hs, hz1, hz2⟩
            | exact ⟨hs, (fun h => absurd h ft), fun _ => ⟨by omega, by omega, by omega, by omega⟩⟩
            | exact ⟨hs, fun h q => by have h2 := of_decide_eq_true h; have := sound_num q; omega, fun h => by have h2 := of_decide_eq_false h; exact ⟨by omega, by omega, by omega, by omega⟩⟩
            | (refine ⟨hs, (fun h => absurd h ft), fun _ => ?_⟩; exact ⟨by omega, by omega, by omega, by omega⟩)
          refine Zx rfl (Zx rfl (Zx rfl (Zr (run_pick_f rfl rfl) rfl (Za rfl (Ls_nil (Jm_join false ?_ ?_))))))
          · rw [hEn57]; exact sE ⟨rfl, rfl, rfl, trivial⟩
          rw [hIv58]
          first
          | exact ⟨hs, fun _ q => by have := sound_num q; omega, (fun h => absurd h tf)⟩
          | exact ⟨hs, hz1, hz2⟩
          | exact ⟨hs, (fun h => absurd h ft), fun _ => ⟨by omega, by omega, by omega, by omega⟩⟩
          | exact ⟨hs, fun h q => by have h2 := of_decide_eq_true h; have := sound_num q; omega, fun h => by have h2 := of_decide_eq_false h; exact ⟨by omega, by omega, by omega, by omega⟩⟩
          | (refine ⟨hs, (fun h => absurd h ft), fun _ => ?_⟩; exact ⟨by omega, by omega, by omega, by omega⟩)
        rintro z w59 hI62
        rw [hIv58] at hI62
        obtain ⟨hs, hz1, hz2⟩ := hI62
        refine Jm_eqE (hEn57 _) (Jm_join z ?_ ?_)
        · rw [hEn46]; exact sE ⟨rfl, rfl, rfl, trivial⟩
        rw [hIv47]
        first
        | exact ⟨hs, fun _ q => by have := sound_num q; omega, (fun h => absurd h tf)⟩
        | exact ⟨hs, hz1, hz2⟩
        | exact ⟨hs, (fun h => absurd h ft), fun _ => ⟨by omega, by omega, by omega, by omega⟩⟩
        | exact ⟨hs, fun h q => by have h2 := of_decide_eq_true h; have := sound_num q; omega, fun h => by have h2 := of_decide_eq_false h; exact ⟨by omega, by omega, by omega, by omega⟩⟩
        | (refine ⟨hs, (fun h => absurd h ft), fun _ => ?_⟩; exact ⟨by omega, by omega, by omega, by omega⟩)
      rintro z w48 hI63
      rw [hIv47] at hI63
      obtain ⟨hs, hz1, hz2⟩ := hI63
      refine Jm_eqE (hEn46 _) (Jm_join z ?_ ?_)
      · rw [hEn23]; exact sE ⟨rfl, rfl, rfl, trivial⟩
      rw [hIv24]
      first
      | exact ⟨hs, fun _ q => by have := sound_num q; omega, (fun h => absurd h tf)⟩
      | exact ⟨hs, hz1, hz2⟩
      | exact ⟨hs, (fun h => absurd h ft), fun _ => ⟨by omega, by omega, by omega, by omega⟩⟩
      | exact ⟨hs, fun h q => by have h2 := of_decide_eq_true h; have := sound_num q; omega, fun h => by have h2 := of_decide_eq_false h; exact ⟨by omega, by omega, by omega, by omega⟩⟩
      | (refine ⟨hs, (fun h => absurd h ft), fun _ => ?_⟩; exact ⟨by omega, by omega, by omega, by omega⟩)
    rintro z w25 hI64
    rw [hIv24] at hI64
    obtain ⟨hs, hz1, hz2⟩ := hI64
    refine Jm_eqE (hEn23 _) (Zq (St_ifK rfl (fun h65 => ?_) (fun h65 => ?_)))
    · refine Zs (Za rfl (Zj (St_ret (Jm_block_ret (Jm_then_ret (Jm_ret1 rfl rfl (⟨_, rfl, ?_, hs.forget⟩)))))))
      first
      | exact congrArg Value.bool (decide_eq_false (fun q => by have := sound_num q; omega)).symm
      | exact congrArg Value.bool (decide_eq_false (hz1 (by assumption))).symm
      | (have hz3 := hz2 (by assumption)
         have hh : Mhead x := ⟨by omega, by omega, by omega, by omega, by omega, hz3.1, hz3.2.1, hz3.2.2.1, hz3.2.2.2⟩
         refine congrArg Value.bool (decide_eq_decide.2 ?_)
         rw [sound_iff hh]
         first
         | exact ⟨fun q => ⟨fun _ => q, fun e => by omega, fun e => by omega, fun e => by omega⟩, fun q => q.1 (by omega)⟩
         | exact ⟨fun q => ⟨fun e => by omega, fun _ => ⟨by omega, q⟩, fun e => by omega, fun e => by omega⟩, fun q => (q.2.1 (by omega)).2⟩
         | exact ⟨fun q => ⟨fun e => by omega, fun e => by omega, fun _ => ⟨by omega, q⟩, fun e => by omega⟩, fun q => (q.2.2.1 (by omega)).2⟩
         | exact ⟨fun q => ⟨fun e => by omega, fun e => by omega, fun e => by omega, fun _ => q⟩, fun q => q.2.2.2 (by omega)⟩)
    refine St_skip (Jm_block_normal (Zq (St_seq (Zs (Zm rfl (Zj (St_block (Zs (Zr (run_eql rfl rfl) rfl (Za rfl (Zj (St_ifP rfl (fun h66 => ?_) (fun h66 => ?_)))))))))))))
    · refine Zs (Zf un41 inf25 rfl 6 rfl (Zl sc25 rfl (hs.blk_at 0 rfl 6 rfl) (Zc fn60 rfl (isEnds_c w25 p.eA p.en p.ec x.es (hm.e.inB hs) hze) rfl ?_)))
      rintro v67 w68 ⟨rfl, rfl⟩
      refine Za rfl (Zj (St_ret (Jm_block_ret (Jm_then_ret (Jm_ret1 rfl rfl (⟨_, rfl, ?_, hs.forget⟩))))))
      first
      | exact congrArg Value.bool (decide_eq_false (fun q => by have := sound_num q; omega)).symm
      | exact congrArg Value.bool (decide_eq_false (hz1 (by assumption))).symm
      | (have hz3 := hz2 (by assumption)
         have hh : Mhead x := ⟨by omega, by omega, by omega, by omega, by omega, hz3.1, hz3.2.1, hz3.2.2.1, hz3.2.2.2⟩
         refine congrArg Value.bool (decide_eq_decide.2 ?_)
         rw [sound_iff hh]
         first
         | exact ⟨fun q => ⟨fun _ => q, fun e => by omega, fun e => by omega, fun e => by omega⟩, fun q => q.1 (by omega)⟩
         | exact ⟨fun q => ⟨fun e => by omega, fun _ => ⟨by omega, q⟩, fun e => by omega, fun e => by omega⟩, fun q => (q.2.1 (by omega)).2⟩
         | exact ⟨fun q => ⟨fun e => by omega, fun e => by omega, fun _ => ⟨by omega, q⟩, fun e => by omega⟩, fun q => (q.2.2.1 (by omega)).2⟩
         | exact ⟨fun q => ⟨fun e => by omega, fun e => by omega, fun e => by omega, fun _ => q⟩, fun q => q.2.2.2 (by omega)⟩)
    refine Zs (Zr (run_eql rfl rfl) rfl (Za rfl (Zj (St_ifP rfl (fun h69 => ?_) (fun h69 => ?_)))))
    · refine Zs (Zf un41 inf38 rfl 7 rfl (Zl sc38 rfl (hs.blk_at 0 rfl 7 rfl) (Zr (run_len un38 rfl) rfl (Zr (run_leq rfl rfl) rfl (Zm rfl (Ls_partP (t := 77) rfl (fun h70 => ?_) (fun h70 => ?_)))))))
      · refine Zo rfl (Zf un41 inf38 rfl 7 rfl (Zo rfl (Zl sc38 rfl (hs.blk_at 0 rfl 7 rfl) (Zo rfl (Zc fn61 rfl (Rising_c w25 p.kA p.kn p.kc x.ks (hm.k.inB hs) hzk) rfl ?_)))))
        rintro v71 w72 ⟨rfl, rfl⟩
        refine Zr (run_pick_t rfl rfl) rfl (Za rfl (Zj (St_ret (Jm_block_ret (Jm_then_ret (Jm_ret1 rfl rfl (⟨_, rfl, ?_, hs.forget⟩)))))))
        first
        | exact congrArg Value.bool (decide_eq_false (fun q => by have := sound_num q; omega)).symm
        | exact congrArg Value.bool (decide_eq_false (hz1 (by assumption))).symm
        | (have hz3 := hz2 (by assumption)
           have hh : Mhead x := ⟨by omega, by omega, by omega, by omega, by omega, hz3.1, hz3.2.1, hz3.2.2.1, hz3.2.2.2⟩
           refine congrArg Value.bool (decide_eq_decide.2 ?_)
           rw [sound_iff hh]
           first
           | exact ⟨fun q => ⟨fun _ => q, fun e => by omega, fun e => by omega, fun e => by omega⟩, fun q => q.1 (by omega)⟩
           | exact ⟨fun q => ⟨fun e => by omega, fun _ => ⟨by omega, q⟩, fun e => by omega, fun e => by omega⟩, fun q => (q.2.1 (by omega)).2⟩
           | exact ⟨fun q => ⟨fun e => by omega, fun e => by omega, fun _ => ⟨by omega, q⟩, fun e => by omega⟩, fun q => (q.2.2.1 (by omega)).2⟩
           | exact ⟨fun q => ⟨fun e => by omega, fun e => by omega, fun e => by omega, fun _ => q⟩, fun q => q.2.2.2 (by omega)⟩)
      refine Zx rfl (Zx rfl (Zx rfl (Zr (run_pick_f rfl rfl) rfl (Za rfl (Zj (St_ret (Jm_block_ret (Jm_then_ret (Jm_ret1 rfl rfl (⟨_, rfl, ?_, hs.forget⟩))))))))))
      first
      | exact congrArg Value.bool (decide_eq_false (fun q => by have := sound_num q; omega)).symm
      | exact congrArg Value.bool (decide_eq_false (hz1 (by assumption))).symm
      | (have hz3 := hz2 (by assumption)
         have hh : Mhead x := ⟨by omega, by omega, by omega, by omega, by omega, hz3.1, hz3.2.1, hz3.2.2.1, hz3.2.2.2⟩
         refine congrArg Value.bool (decide_eq_decide.2 ?_)
         rw [sound_iff hh]
         first
         | exact ⟨fun q => ⟨fun _ => q, fun e => by omega, fun e => by omega, fun e => by omega⟩, fun q => q.1 (by omega)⟩
         | exact ⟨fun q => ⟨fun e => by omega, fun _ => ⟨by omega, q⟩, fun e => by omega, fun e => by omega⟩, fun q => (q.2.1 (by omega)).2⟩
         | exact ⟨fun q => ⟨fun e => by omega, fun e => by omega, fun _ => ⟨by omega, q⟩, fun e => by omega⟩, fun q => (q.2.2.1 (by omega)).2⟩
         | exact ⟨fun q => ⟨fun e => by omega, fun e => by omega, fun e => by omega, fun _ => q⟩, fun q => q.2.2.2 (by omega)⟩)
    refine Zs (Zr (run_eql rfl rfl) rfl (Za rfl (Zj (St_ifP rfl (fun h73 => ?_) (fun h73 => ?_)))))
    · refine Zs (Zf un41 inf39 rfl 8 rfl (Zl sc39 rfl (hs.blk_at 0 rfl 8 rfl) (Zr (run_len un39 rfl) rfl (Zr (run_leq rfl rfl) rfl (Zm rfl (Ls_partP (t := 88) rfl (fun h74 => ?_) (fun h74 => ?_)))))))
      · refine Zo rfl (Zf un41 inf39 rfl 8 rfl (Zo rfl (Zl sc39 rfl (hs.blk_at 0 rfl 8 rfl) (Zo rfl (Zc fn62 rfl (fSound_c w25 p.pA p.pn p.pc x.ps (hm.p.inB hs) hzp) rfl ?_)))))
        rintro v75 w76 ⟨rfl, hsQ77⟩
        replace hs := hs.trans hsQ77
        refine Zr (run_pick_t rfl rfl) rfl (Za rfl (Zj (St_ret (Jm_block_ret (Jm_then_ret (Jm_ret1 rfl rfl (⟨_, rfl, ?_, hs.forget⟩)))))))
        first
        | exact congrArg Value.bool (decide_eq_false (fun q => by have := sound_num q; omega)).symm
        | exact congrArg Value.bool (decide_eq_false (hz1 (by assumption))).symm
        | (have hz3 := hz2 (by assumption)
           have hh : Mhead x := ⟨by omega, by omega, by omega, by omega, by omega, hz3.1, hz3.2.1, hz3.2.2.1, hz3.2.2.2⟩
           refine congrArg Value.bool (decide_eq_decide.2 ?_)
           rw [sound_iff hh]
           first
           | exact ⟨fun q => ⟨fun _ => q, fun e => by omega, fun e => by omega, fun e => by omega⟩, fun q => q.1 (by omega)⟩
           | exact ⟨fun q => ⟨fun e => by omega, fun _ => ⟨by omega, q⟩, fun e => by omega, fun e => by omega⟩, fun q => (q.2.1 (by omega)).2⟩
           | exact ⟨fun q => ⟨fun e => by omega, fun e => by omega, fun _ => ⟨by omega, q⟩, fun e => by omega⟩, fun q => (q.2.2.1 (by omega)).2⟩
           | exact ⟨fun q => ⟨fun e => by omega, fun e => by omega, fun e => by omega, fun _ => q⟩, fun q => q.2.2.2 (by omega)⟩)
      refine Zx rfl (Zx rfl (Zx rfl (Zr (run_pick_f rfl rfl) rfl (Za rfl (Zj (St_ret (Jm_block_ret (Jm_then_ret (Jm_ret1 rfl rfl (⟨_, rfl, ?_, hs.forget⟩))))))))))
      first
      | exact congrArg Value.bool (decide_eq_false (fun q => by have := sound_num q; omega)).symm
      | exact congrArg Value.bool (decide_eq_false (hz1 (by assumption))).symm
      | (have hz3 := hz2 (by assumption)
         have hh : Mhead x := ⟨by omega, by omega, by omega, by omega, by omega, hz3.1, hz3.2.1, hz3.2.2.1, hz3.2.2.2⟩
         refine congrArg Value.bool (decide_eq_decide.2 ?_)
         rw [sound_iff hh]
         first
         | exact ⟨fun q => ⟨fun _ => q, fun e => by omega, fun e => by omega, fun e => by omega⟩, fun q => q.1 (by omega)⟩
         | exact ⟨fun q => ⟨fun e => by omega, fun _ => ⟨by omega, q⟩, fun e => by omega, fun e => by omega⟩, fun q => (q.2.1 (by omega)).2⟩
         | exact ⟨fun q => ⟨fun e => by omega, fun e => by omega, fun _ => ⟨by omega, q⟩, fun e => by omega⟩, fun q => (q.2.2.1 (by omega)).2⟩
         | exact ⟨fun q => ⟨fun e => by omega, fun e => by omega, fun e => by omega, fun _ => q⟩, fun q => q.2.2.2 (by omega)⟩)
    refine St_skip (Jm_block_normal (Zq (Zs (Zf un41 inf3 rfl 5 rfl (Zl sc3 rfl (hs.blk_at 0 rfl 5 rfl) (Zc fn59 rfl (mwithin_c w25 0 x.c 1000) rfl ?_))))))
    rintro v78 w79 ⟨rfl, rfl⟩
    refine Za rfl (Zj (St_ret (Jm_ret1 rfl rfl (⟨_, rfl, ?_, hs.forget⟩))))
    first
    | exact congrArg Value.bool (decide_eq_false (fun q => by have := sound_num q; omega)).symm
    | exact congrArg Value.bool (decide_eq_false (hz1 (by assumption))).symm
    | (have hz3 := hz2 (by assumption)
       have hh : Mhead x := ⟨by omega, by omega, by omega, by omega, by omega, hz3.1, hz3.2.1, hz3.2.2.1, hz3.2.2.2⟩
       refine congrArg Value.bool (decide_eq_decide.2 ?_)
       rw [sound_iff hh]
       first
       | exact ⟨fun q => ⟨fun _ => q, fun e => by omega, fun e => by omega, fun e => by omega⟩, fun q => q.1 (by omega)⟩
       | exact ⟨fun q => ⟨fun e => by omega, fun _ => ⟨by omega, q⟩, fun e => by omega, fun e => by omega⟩, fun q => (q.2.1 (by omega)).2⟩
       | exact ⟨fun q => ⟨fun e => by omega, fun e => by omega, fun _ => ⟨by omega, q⟩, fun e => by omega⟩, fun q => (q.2.2.1 (by omega)).2⟩
       | exact ⟨fun q => ⟨fun e => by omega, fun e => by omega, fun e => by omega, fun _ => q⟩, fun q => q.2.2.2 (by omega)⟩)
  refine Zx rfl (Zx rfl (Zx rfl (Zx rfl (Zr (run_pick_f rfl rfl) rfl (Za rfl (Zj ?_))))))
  obtain ⟨En80, hEn80⟩ := ex1 fun (z : Bool) => ([(1, .pointer (some ⟨b2, 0, none⟩)), (3, .int .i64 (mof x.k)), (33, .bool z)] : Env)
  obtain ⟨Iv81, hIv81⟩ := ew1 fun (z : Bool) (w82 : World) => Sat w w82 [Blk b2 [.int .i64 x.k, .int .i64 x.f, .int .i64 x.t, .int .i64 x.b, .int .i64 x.a, .int .i64 x.c, .slice p.eA p.en p.ec, .slice p.kA p.kn p.kc, .slice p.pA p.pn p.pc] 41] ∧ (z = true → ¬ Msound x) ∧ (z = false → (mof x.k = 1 ∨ x.es.length = 0) ∧ (mof x.k = 2 ∨ x.ks.length = 0) ∧ (mof x.k = 3 ∨ x.ps.length = 0) ∧ (mof x.k = 4 ∨ x.c = 0))
  refine St_join En80 Iv81 ?_ ?_
  · refine St_iff rfl (Zs (Zm rfl (Zr (run_neq rfl rfl) rfl (Zm rfl (Ls_partP (t := 44) rfl (fun h84 => ?_) (fun h84 => ?_))))))
    · refine Zo rfl (Zf un41 inf38 rfl 7 rfl (Zo rfl (Zl sc38 rfl (hs.blk_at 0 rfl 7 rfl) (Zo rfl (Zr (run_len un38 rfl) rfl (Zo rfl (Zr (run_gtr rfl rfl) rfl (Zr (run_pick_t rfl rfl) rfl (Za rfl (Zj ?_))))))))))
      obtain ⟨En85, hEn85⟩ := ex1 fun (z : Bool) => ([(1, .pointer (some ⟨b2, 0, none⟩)), (3, .int .i64 (mof x.k)), (33, .bool z)] : Env)
      obtain ⟨Iv86, hIv86⟩ := ew1 fun (z : Bool) (w87 : World) => Sat w w87 [Blk b2 [.int .i64 x.k, .int .i64 x.f, .int .i64 x.t, .int .i64 x.b, .int .i64 x.a, .int .i64 x.c, .slice p.eA p.en p.ec, .slice p.kA p.kn p.kc, .slice p.pA p.pn p.pc] 41] ∧ (z = true → ¬ Msound x) ∧ (z = false → (mof x.k = 1 ∨ x.es.length = 0) ∧ (mof x.k = 2 ∨ x.ks.length = 0) ∧ (mof x.k = 3 ∨ x.ps.length = 0) ∧ (mof x.k = 4 ∨ x.c = 0))
      refine St_join En85 Iv86 ?_ ?_
      · refine St_ifPK rfl (fun h88 => ?_) (fun h88 => ?_)
        · refine St_skip (Jm_join true ?_ ?_)
          · rw [hEn85]; exact sE ⟨rfl, rfl, rfl, trivial⟩
          rw [hIv86]
          first
          | exact ⟨hs, fun _ q => by have := sound_num q; omega, (fun h => absurd h tf)⟩
          | exact ⟨hs, hz1, hz2⟩
          | exact ⟨hs, (fun h => absurd h ft), fun _ => ⟨by omega, by omega, by omega, by omega⟩⟩
          | exact ⟨hs, fun h q => by have h2 := of_decide_eq_true h; have := sound_num q; omega, fun h => by have h2 := of_decide_eq_false h; exact ⟨by omega, by omega, by omega, by omega⟩⟩
          | (refine ⟨hs, (fun h => absurd h ft), fun _ => ?_⟩; exact ⟨by omega, by omega, by omega, by omega⟩)
        refine Zs (Zm rfl (Zr (run_neq rfl rfl) rfl (Zm rfl (Ls_partP (t := 52) rfl (fun h89 => ?_) (fun h89 => ?_)))))
        · refine Zo rfl (Zf un41 inf39 rfl 8 rfl (Zo rfl (Zl sc39 rfl (hs.blk_at 0 rfl 8 rfl) (Zo rfl (Zr (run_len un39 rfl) rfl (Zo rfl (Zr (run_gtr rfl rfl) rfl (Zr (run_pick_t rfl rfl) rfl (Za rfl (Zj ?_))))))))))
          obtain ⟨En90, hEn90⟩ := ex1 fun (z : Bool) => ([(1, .pointer (some ⟨b2, 0, none⟩)), (3, .int .i64 (mof x.k)), (33, .bool z)] : Env)
          obtain ⟨Iv91, hIv91⟩ := ew1 fun (z : Bool) (w92 : World) => Sat w w92 [Blk b2 [.int .i64 x.k, .int .i64 x.f, .int .i64 x.t, .int .i64 x.b, .int .i64 x.a, .int .i64 x.c, .slice p.eA p.en p.ec, .slice p.kA p.kn p.kc, .slice p.pA p.pn p.pc] 41] ∧ (z = true → ¬ Msound x) ∧ (z = false → (mof x.k = 1 ∨ x.es.length = 0) ∧ (mof x.k = 2 ∨ x.ks.length = 0) ∧ (mof x.k = 3 ∨ x.ps.length = 0) ∧ (mof x.k = 4 ∨ x.c = 0))
          refine St_join En90 Iv91 ?_ ?_
          · refine St_ifPK rfl (fun h93 => ?_) (fun h93 => ?_)
            · refine St_skip (Jm_join true ?_ ?_)
              · rw [hEn90]; exact sE ⟨rfl, rfl, rfl, trivial⟩
              rw [hIv91]
              first
              | exact ⟨hs, fun _ q => by have := sound_num q; omega, (fun h => absurd h tf)⟩
              | exact ⟨hs, hz1, hz2⟩
              | exact ⟨hs, (fun h => absurd h ft), fun _ => ⟨by omega, by omega, by omega, by omega⟩⟩
              | exact ⟨hs, fun h q => by have h2 := of_decide_eq_true h; have := sound_num q; omega, fun h => by have h2 := of_decide_eq_false h; exact ⟨by omega, by omega, by omega, by omega⟩⟩
              | (refine ⟨hs, (fun h => absurd h ft), fun _ => ?_⟩; exact ⟨by omega, by omega, by omega, by omega⟩)
            refine St_region (Zm rfl (Zr (run_neq rfl rfl) rfl (Zm rfl (Ls_partP (t := 60) rfl (fun h94 => ?_) (fun h94 => ?_)))))
            · refine Zo rfl (Zf un41 inf3 rfl 5 rfl (Zo rfl (Zl sc3 rfl (hs.blk_at 0 rfl 5 rfl) (Zo rfl (Zr (run_neq rfl rfl) rfl (Zr (run_pick_t rfl rfl) rfl (Za rfl (Ls_nil (Jm_join (decide (x.c ≠ 0)) ?_ ?_)))))))))
              · rw [hEn90]; exact sE ⟨rfl, rfl, rfl, trivial⟩
              rw [hIv91]
              first
              | exact ⟨hs, fun _ q => by have := sound_num q; omega, (fun h => absurd h tf)⟩
              | exact ⟨hs, hz1, hz2⟩
              | exact ⟨hs, (fun h => absurd h ft), fun _ => ⟨by omega, by omega, by omega, by omega⟩⟩
              | exact ⟨hs, fun h q => by have h2 := of_decide_eq_true h; have := sound_num q; omega, fun h => by have h2 := of_decide_eq_false h; exact ⟨by omega, by omega, by omega, by omega⟩⟩
              | (refine ⟨hs, (fun h => absurd h ft), fun _ => ?_⟩; exact ⟨by omega, by omega, by omega, by omega⟩)
            refine Zx rfl (Zx rfl (Zx rfl (Zr (run_pick_f rfl rfl) rfl (Za rfl (Ls_nil (Jm_join false ?_ ?_))))))
            · rw [hEn90]; exact sE ⟨rfl, rfl, rfl, trivial⟩
            rw [hIv91]
            first
            | exact ⟨hs, fun _ q => by have := sound_num q; omega, (fun h => absurd h tf)⟩
            | exact ⟨hs, hz1, hz2⟩
            | exact ⟨hs, (fun h => absurd h ft), fun _ => ⟨by omega, by omega, by omega, by omega⟩⟩
            | exact ⟨hs, fun h q => by have h2 := of_decide_eq_true h; have := sound_num q; omega, fun h => by have h2 := of_decide_eq_false h; exact ⟨by omega, by omega, by omega, by omega⟩⟩
            | (refine ⟨hs, (fun h => absurd h ft), fun _ => ?_⟩; exact ⟨by omega, by omega, by omega, by omega⟩)
          rintro z w92 hI95
          rw [hIv91] at hI95
          obtain ⟨hs, hz1, hz2⟩ := hI95
          refine Jm_eqE (hEn90 _) (Jm_join z ?_ ?_)
          · rw [hEn85]; exact sE ⟨rfl, rfl, rfl, trivial⟩
          rw [hIv86]
          first
          | exact ⟨hs, fun _ q => by have := sound_num q; omega, (fun h => absurd h tf)⟩
          | exact ⟨hs, hz1, hz2⟩
          | exact ⟨hs, (fun h => absurd h ft), fun _ => ⟨by omega, by omega, by omega, by omega⟩⟩
          | exact ⟨hs, fun h q => by have h2 := of_decide_eq_true h; have := sound_num q; omega, fun h => by have h2 := of_decide_eq_false h; exact ⟨by omega, by omega, by omega, by omega⟩⟩
          | (refine ⟨hs, (fun h => absurd h ft), fun _ => ?_⟩; exact ⟨by omega, by omega, by omega, by omega⟩)
        refine Zx rfl (Zx rfl (Zx rfl (Zx rfl (Zr (run_pick_f rfl rfl) rfl (Za rfl (Zj ?_))))))
        obtain ⟨En96, hEn96⟩ := ex1 fun (z : Bool) => ([(1, .pointer (some ⟨b2, 0, none⟩)), (3, .int .i64 (mof x.k)), (33, .bool z)] : Env)
        obtain ⟨Iv97, hIv97⟩ := ew1 fun (z : Bool) (w98 : World) => Sat w w98 [Blk b2 [.int .i64 x.k, .int .i64 x.f, .int .i64 x.t, .int .i64 x.b, .int .i64 x.a, .int .i64 x.c, .slice p.eA p.en p.ec, .slice p.kA p.kn p.kc, .slice p.pA p.pn p.pc] 41] ∧ (z = true → ¬ Msound x) ∧ (z = false → (mof x.k = 1 ∨ x.es.length = 0) ∧ (mof x.k = 2 ∨ x.ks.length = 0) ∧ (mof x.k = 3 ∨ x.ps.length = 0) ∧ (mof x.k = 4 ∨ x.c = 0))
        refine St_join En96 Iv97 ?_ ?_
        · refine St_iff rfl (St_region (Zm rfl (Zr (run_neq rfl rfl) rfl (Zm rfl (Ls_partP (t := 60) rfl (fun h100 => ?_) (fun h100 => ?_))))))
          · refine Zo rfl (Zf un41 inf3 rfl 5 rfl (Zo rfl (Zl sc3 rfl (hs.blk_at 0 rfl 5 rfl) (Zo rfl (Zr (run_neq rfl rfl) rfl (Zr (run_pick_t rfl rfl) rfl (Za rfl (Ls_nil (Jm_join (decide (x.c ≠ 0)) ?_ ?_)))))))))
            · rw [hEn96]; exact sE ⟨rfl, rfl, rfl, trivial⟩
            rw [hIv97]
            first
            | exact ⟨hs, fun _ q => by have := sound_num q; omega, (fun h => absurd h tf)⟩
            | exact ⟨hs, hz1, hz2⟩
            | exact ⟨hs, (fun h => absurd h ft), fun _ => ⟨by omega, by omega, by omega, by omega⟩⟩
            | exact ⟨hs, fun h q => by have h2 := of_decide_eq_true h; have := sound_num q; omega, fun h => by have h2 := of_decide_eq_false h; exact ⟨by omega, by omega, by omega, by omega⟩⟩
            | (refine ⟨hs, (fun h => absurd h ft), fun _ => ?_⟩; exact ⟨by omega, by omega, by omega, by omega⟩)
          refine Zx rfl (Zx rfl (Zx rfl (Zr (run_pick_f rfl rfl) rfl (Za rfl (Ls_nil (Jm_join false ?_ ?_))))))
          · rw [hEn96]; exact sE ⟨rfl, rfl, rfl, trivial⟩
          rw [hIv97]
          first
          | exact ⟨hs, fun _ q => by have := sound_num q; omega, (fun h => absurd h tf)⟩
          | exact ⟨hs, hz1, hz2⟩
          | exact ⟨hs, (fun h => absurd h ft), fun _ => ⟨by omega, by omega, by omega, by omega⟩⟩
          | exact ⟨hs, fun h q => by have h2 := of_decide_eq_true h; have := sound_num q; omega, fun h => by have h2 := of_decide_eq_false h; exact ⟨by omega, by omega, by omega, by omega⟩⟩
          | (refine ⟨hs, (fun h => absurd h ft), fun _ => ?_⟩; exact ⟨by omega, by omega, by omega, by omega⟩)
        rintro z w98 hI101
        rw [hIv97] at hI101
        obtain ⟨hs, hz1, hz2⟩ := hI101
        refine Jm_eqE (hEn96 _) (Jm_join z ?_ ?_)
        · rw [hEn85]; exact sE ⟨rfl, rfl, rfl, trivial⟩
        rw [hIv86]
        first
        | exact ⟨hs, fun _ q => by have := sound_num q; omega, (fun h => absurd h tf)⟩
        | exact ⟨hs, hz1, hz2⟩
        | exact ⟨hs, (fun h => absurd h ft), fun _ => ⟨by omega, by omega, by omega, by omega⟩⟩
        | exact ⟨hs, fun h q => by have h2 := of_decide_eq_true h; have := sound_num q; omega, fun h => by have h2 := of_decide_eq_false h; exact ⟨by omega, by omega, by omega, by omega⟩⟩
        | (refine ⟨hs, (fun h => absurd h ft), fun _ => ?_⟩; exact ⟨by omega, by omega, by omega, by omega⟩)
      rintro z w87 hI102
      rw [hIv86] at hI102
      obtain ⟨hs, hz1, hz2⟩ := hI102
      refine Jm_eqE (hEn85 _) (Jm_join z ?_ ?_)
      · rw [hEn80]; exact sE ⟨rfl, rfl, rfl, trivial⟩
      rw [hIv81]
      first
      | exact ⟨hs, fun _ q => by have := sound_num q; omega, (fun h => absurd h tf)⟩
      | exact ⟨hs, hz1, hz2⟩
      | exact ⟨hs, (fun h => absurd h ft), fun _ => ⟨by omega, by omega, by omega, by omega⟩⟩
      | exact ⟨hs, fun h q => by have h2 := of_decide_eq_true h; have := sound_num q; omega, fun h => by have h2 := of_decide_eq_false h; exact ⟨by omega, by omega, by omega, by omega⟩⟩
      | (refine ⟨hs, (fun h => absurd h ft), fun _ => ?_⟩; exact ⟨by omega, by omega, by omega, by omega⟩)
    refine Zx rfl (Zx rfl (Zx rfl (Zx rfl (Zr (run_pick_f rfl rfl) rfl (Za rfl (Zj ?_))))))
    obtain ⟨En103, hEn103⟩ := ex1 fun (z : Bool) => ([(1, .pointer (some ⟨b2, 0, none⟩)), (3, .int .i64 (mof x.k)), (33, .bool z)] : Env)
    obtain ⟨Iv104, hIv104⟩ := ew1 fun (z : Bool) (w105 : World) => Sat w w105 [Blk b2 [.int .i64 x.k, .int .i64 x.f, .int .i64 x.t, .int .i64 x.b, .int .i64 x.a, .int .i64 x.c, .slice p.eA p.en p.ec, .slice p.kA p.kn p.kc, .slice p.pA p.pn p.pc] 41] ∧ (z = true → ¬ Msound x) ∧ (z = false → (mof x.k = 1 ∨ x.es.length = 0) ∧ (mof x.k = 2 ∨ x.ks.length = 0) ∧ (mof x.k = 3 ∨ x.ps.length = 0) ∧ (mof x.k = 4 ∨ x.c = 0))
    refine St_join En103 Iv104 ?_ ?_
    · refine St_iff rfl (Zs (Zm rfl (Zr (run_neq rfl rfl) rfl (Zm rfl (Ls_partP (t := 52) rfl (fun h107 => ?_) (fun h107 => ?_))))))
      · refine Zo rfl (Zf un41 inf39 rfl 8 rfl (Zo rfl (Zl sc39 rfl (hs.blk_at 0 rfl 8 rfl) (Zo rfl (Zr (run_len un39 rfl) rfl (Zo rfl (Zr (run_gtr rfl rfl) rfl (Zr (run_pick_t rfl rfl) rfl (Za rfl (Zj ?_))))))))))
        obtain ⟨En108, hEn108⟩ := ex1 fun (z : Bool) => ([(1, .pointer (some ⟨b2, 0, none⟩)), (3, .int .i64 (mof x.k)), (33, .bool z)] : Env)
        obtain ⟨Iv109, hIv109⟩ := ew1 fun (z : Bool) (w110 : World) => Sat w w110 [Blk b2 [.int .i64 x.k, .int .i64 x.f, .int .i64 x.t, .int .i64 x.b, .int .i64 x.a, .int .i64 x.c, .slice p.eA p.en p.ec, .slice p.kA p.kn p.kc, .slice p.pA p.pn p.pc] 41] ∧ (z = true → ¬ Msound x) ∧ (z = false → (mof x.k = 1 ∨ x.es.length = 0) ∧ (mof x.k = 2 ∨ x.ks.length = 0) ∧ (mof x.k = 3 ∨ x.ps.length = 0) ∧ (mof x.k = 4 ∨ x.c = 0))
        refine St_join En108 Iv109 ?_ ?_
        · refine St_ifPK rfl (fun h111 => ?_) (fun h111 => ?_)
          · refine St_skip (Jm_join true ?_ ?_)
            · rw [hEn108]; exact sE ⟨rfl, rfl, rfl, trivial⟩
            rw [hIv109]
            first
            | exact ⟨hs, fun _ q => by have := sound_num q; omega, (fun h => absurd h tf)⟩
            | exact ⟨hs, hz1, hz2⟩
            | exact ⟨hs, (fun h => absurd h ft), fun _ => ⟨by omega, by omega, by omega, by omega⟩⟩
            | exact ⟨hs, fun h q => by have h2 := of_decide_eq_true h; have := sound_num q; omega, fun h => by have h2 := of_decide_eq_false h; exact ⟨by omega, by omega, by omega, by omega⟩⟩
            | (refine ⟨hs, (fun h => absurd h ft), fun _ => ?_⟩; exact ⟨by omega, by omega, by omega, by omega⟩)
          refine St_region (Zm rfl (Zr (run_neq rfl rfl) rfl (Zm rfl (Ls_partP (t := 60) rfl (fun h112 => ?_) (fun h112 => ?_)))))
          · refine Zo rfl (Zf un41 inf3 rfl 5 rfl (Zo rfl (Zl sc3 rfl (hs.blk_at 0 rfl 5 rfl) (Zo rfl (Zr (run_neq rfl rfl) rfl (Zr (run_pick_t rfl rfl) rfl (Za rfl (Ls_nil (Jm_join (decide (x.c ≠ 0)) ?_ ?_)))))))))
            · rw [hEn108]; exact sE ⟨rfl, rfl, rfl, trivial⟩
            rw [hIv109]
            first
            | exact ⟨hs, fun _ q => by have := sound_num q; omega, (fun h => absurd h tf)⟩
            | exact ⟨hs, hz1, hz2⟩
            | exact ⟨hs, (fun h => absurd h ft), fun _ => ⟨by omega, by omega, by omega, by omega⟩⟩
            | exact ⟨hs, fun h q => by have h2 := of_decide_eq_true h; have := sound_num q; omega, fun h => by have h2 := of_decide_eq_false h; exact ⟨by omega, by omega, by omega, by omega⟩⟩
            | (refine ⟨hs, (fun h => absurd h ft), fun _ => ?_⟩; exact ⟨by omega, by omega, by omega, by omega⟩)
          refine Zx rfl (Zx rfl (Zx rfl (Zr (run_pick_f rfl rfl) rfl (Za rfl (Ls_nil (Jm_join false ?_ ?_))))))
          · rw [hEn108]; exact sE ⟨rfl, rfl, rfl, trivial⟩
          rw [hIv109]
          first
          | exact ⟨hs, fun _ q => by have := sound_num q; omega, (fun h => absurd h tf)⟩
          | exact ⟨hs, hz1, hz2⟩
          | exact ⟨hs, (fun h => absurd h ft), fun _ => ⟨by omega, by omega, by omega, by omega⟩⟩
          | exact ⟨hs, fun h q => by have h2 := of_decide_eq_true h; have := sound_num q; omega, fun h => by have h2 := of_decide_eq_false h; exact ⟨by omega, by omega, by omega, by omega⟩⟩
          | (refine ⟨hs, (fun h => absurd h ft), fun _ => ?_⟩; exact ⟨by omega, by omega, by omega, by omega⟩)
        rintro z w110 hI113
        rw [hIv109] at hI113
        obtain ⟨hs, hz1, hz2⟩ := hI113
        refine Jm_eqE (hEn108 _) (Jm_join z ?_ ?_)
        · rw [hEn103]; exact sE ⟨rfl, rfl, rfl, trivial⟩
        rw [hIv104]
        first
        | exact ⟨hs, fun _ q => by have := sound_num q; omega, (fun h => absurd h tf)⟩
        | exact ⟨hs, hz1, hz2⟩
        | exact ⟨hs, (fun h => absurd h ft), fun _ => ⟨by omega, by omega, by omega, by omega⟩⟩
        | exact ⟨hs, fun h q => by have h2 := of_decide_eq_true h; have := sound_num q; omega, fun h => by have h2 := of_decide_eq_false h; exact ⟨by omega, by omega, by omega, by omega⟩⟩
        | (refine ⟨hs, (fun h => absurd h ft), fun _ => ?_⟩; exact ⟨by omega, by omega, by omega, by omega⟩)
      refine Zx rfl (Zx rfl (Zx rfl (Zx rfl (Zr (run_pick_f rfl rfl) rfl (Za rfl (Zj ?_))))))
      obtain ⟨En114, hEn114⟩ := ex1 fun (z : Bool) => ([(1, .pointer (some ⟨b2, 0, none⟩)), (3, .int .i64 (mof x.k)), (33, .bool z)] : Env)
      obtain ⟨Iv115, hIv115⟩ := ew1 fun (z : Bool) (w116 : World) => Sat w w116 [Blk b2 [.int .i64 x.k, .int .i64 x.f, .int .i64 x.t, .int .i64 x.b, .int .i64 x.a, .int .i64 x.c, .slice p.eA p.en p.ec, .slice p.kA p.kn p.kc, .slice p.pA p.pn p.pc] 41] ∧ (z = true → ¬ Msound x) ∧ (z = false → (mof x.k = 1 ∨ x.es.length = 0) ∧ (mof x.k = 2 ∨ x.ks.length = 0) ∧ (mof x.k = 3 ∨ x.ps.length = 0) ∧ (mof x.k = 4 ∨ x.c = 0))
      refine St_join En114 Iv115 ?_ ?_
      · refine St_iff rfl (St_region (Zm rfl (Zr (run_neq rfl rfl) rfl (Zm rfl (Ls_partP (t := 60) rfl (fun h118 => ?_) (fun h118 => ?_))))))
        · refine Zo rfl (Zf un41 inf3 rfl 5 rfl (Zo rfl (Zl sc3 rfl (hs.blk_at 0 rfl 5 rfl) (Zo rfl (Zr (run_neq rfl rfl) rfl (Zr (run_pick_t rfl rfl) rfl (Za rfl (Ls_nil (Jm_join (decide (x.c ≠ 0)) ?_ ?_)))))))))
          · rw [hEn114]; exact sE ⟨rfl, rfl, rfl, trivial⟩
          rw [hIv115]
          first
          | exact ⟨hs, fun _ q => by have := sound_num q; omega, (fun h => absurd h tf)⟩
          | exact ⟨hs, hz1, hz2⟩
          | exact ⟨hs, (fun h => absurd h ft), fun _ => ⟨by omega, by omega, by omega, by omega⟩⟩
          | exact ⟨hs, fun h q => by have h2 := of_decide_eq_true h; have := sound_num q; omega, fun h => by have h2 := of_decide_eq_false h; exact ⟨by omega, by omega, by omega, by omega⟩⟩
          | (refine ⟨hs, (fun h => absurd h ft), fun _ => ?_⟩; exact ⟨by omega, by omega, by omega, by omega⟩)
        refine Zx rfl (Zx rfl (Zx rfl (Zr (run_pick_f rfl rfl) rfl (Za rfl (Ls_nil (Jm_join false ?_ ?_))))))
        · rw [hEn114]; exact sE ⟨rfl, rfl, rfl, trivial⟩
        rw [hIv115]
        first
        | exact ⟨hs, fun _ q => by have := sound_num q; omega, (fun h => absurd h tf)⟩
        | exact ⟨hs, hz1, hz2⟩
        | exact ⟨hs, (fun h => absurd h ft), fun _ => ⟨by omega, by omega, by omega, by omega⟩⟩
        | exact ⟨hs, fun h q => by have h2 := of_decide_eq_true h; have := sound_num q; omega, fun h => by have h2 := of_decide_eq_false h; exact ⟨by omega, by omega, by omega, by omega⟩⟩
        | (refine ⟨hs, (fun h => absurd h ft), fun _ => ?_⟩; exact ⟨by omega, by omega, by omega, by omega⟩)
      rintro z w116 hI119
      rw [hIv115] at hI119
      obtain ⟨hs, hz1, hz2⟩ := hI119
      refine Jm_eqE (hEn114 _) (Jm_join z ?_ ?_)
      · rw [hEn103]; exact sE ⟨rfl, rfl, rfl, trivial⟩
      rw [hIv104]
      first
      | exact ⟨hs, fun _ q => by have := sound_num q; omega, (fun h => absurd h tf)⟩
      | exact ⟨hs, hz1, hz2⟩
      | exact ⟨hs, (fun h => absurd h ft), fun _ => ⟨by omega, by omega, by omega, by omega⟩⟩
      | exact ⟨hs, fun h q => by have h2 := of_decide_eq_true h; have := sound_num q; omega, fun h => by have h2 := of_decide_eq_false h; exact ⟨by omega, by omega, by omega, by omega⟩⟩
      | (refine ⟨hs, (fun h => absurd h ft), fun _ => ?_⟩; exact ⟨by omega, by omega, by omega, by omega⟩)
    rintro z w105 hI120
    rw [hIv104] at hI120
    obtain ⟨hs, hz1, hz2⟩ := hI120
    refine Jm_eqE (hEn103 _) (Jm_join z ?_ ?_)
    · rw [hEn80]; exact sE ⟨rfl, rfl, rfl, trivial⟩
    rw [hIv81]
    first
    | exact ⟨hs, fun _ q => by have := sound_num q; omega, (fun h => absurd h tf)⟩
    | exact ⟨hs, hz1, hz2⟩
    | exact ⟨hs, (fun h => absurd h ft), fun _ => ⟨by omega, by omega, by omega, by omega⟩⟩
    | exact ⟨hs, fun h q => by have h2 := of_decide_eq_true h; have := sound_num q; omega, fun h => by have h2 := of_decide_eq_false h; exact ⟨by omega, by omega, by omega, by omega⟩⟩
    | (refine ⟨hs, (fun h => absurd h ft), fun _ => ?_⟩; exact ⟨by omega, by omega, by omega, by omega⟩)
  rintro z w82 hI121
  rw [hIv81] at hI121
  obtain ⟨hs, hz1, hz2⟩ := hI121
  refine Jm_eqE (hEn80 _) (Zq (St_ifK rfl (fun h122 => ?_) (fun h122 => ?_)))
  · refine Zs (Za rfl (Zj (St_ret (Jm_block_ret (Jm_then_ret (Jm_ret1 rfl rfl (⟨_, rfl, ?_, hs.forget⟩)))))))
    first
    | exact congrArg Value.bool (decide_eq_false (fun q => by have := sound_num q; omega)).symm
    | exact congrArg Value.bool (decide_eq_false (hz1 (by assumption))).symm
    | (have hz3 := hz2 (by assumption)
       have hh : Mhead x := ⟨by omega, by omega, by omega, by omega, by omega, hz3.1, hz3.2.1, hz3.2.2.1, hz3.2.2.2⟩
       refine congrArg Value.bool (decide_eq_decide.2 ?_)
       rw [sound_iff hh]
       first
       | exact ⟨fun q => ⟨fun _ => q, fun e => by omega, fun e => by omega, fun e => by omega⟩, fun q => q.1 (by omega)⟩
       | exact ⟨fun q => ⟨fun e => by omega, fun _ => ⟨by omega, q⟩, fun e => by omega, fun e => by omega⟩, fun q => (q.2.1 (by omega)).2⟩
       | exact ⟨fun q => ⟨fun e => by omega, fun e => by omega, fun _ => ⟨by omega, q⟩, fun e => by omega⟩, fun q => (q.2.2.1 (by omega)).2⟩
       | exact ⟨fun q => ⟨fun e => by omega, fun e => by omega, fun e => by omega, fun _ => q⟩, fun q => q.2.2.2 (by omega)⟩)
  refine St_skip (Jm_block_normal (Zq (St_seq (Zs (Zm rfl (Zj (St_block (Zs (Zr (run_eql rfl rfl) rfl (Za rfl (Zj (St_ifP rfl (fun h123 => ?_) (fun h123 => ?_)))))))))))))
  · refine Zs (Zf un41 inf25 rfl 6 rfl (Zl sc25 rfl (hs.blk_at 0 rfl 6 rfl) (Zc fn60 rfl (isEnds_c w82 p.eA p.en p.ec x.es (hm.e.inB hs) hze) rfl ?_)))
    rintro v124 w125 ⟨rfl, rfl⟩
    refine Za rfl (Zj (St_ret (Jm_block_ret (Jm_then_ret (Jm_ret1 rfl rfl (⟨_, rfl, ?_, hs.forget⟩))))))
    first
    | exact congrArg Value.bool (decide_eq_false (fun q => by have := sound_num q; omega)).symm
    | exact congrArg Value.bool (decide_eq_false (hz1 (by assumption))).symm
    | (have hz3 := hz2 (by assumption)
       have hh : Mhead x := ⟨by omega, by omega, by omega, by omega, by omega, hz3.1, hz3.2.1, hz3.2.2.1, hz3.2.2.2⟩
       refine congrArg Value.bool (decide_eq_decide.2 ?_)
       rw [sound_iff hh]
       first
       | exact ⟨fun q => ⟨fun _ => q, fun e => by omega, fun e => by omega, fun e => by omega⟩, fun q => q.1 (by omega)⟩
       | exact ⟨fun q => ⟨fun e => by omega, fun _ => ⟨by omega, q⟩, fun e => by omega, fun e => by omega⟩, fun q => (q.2.1 (by omega)).2⟩
       | exact ⟨fun q => ⟨fun e => by omega, fun e => by omega, fun _ => ⟨by omega, q⟩, fun e => by omega⟩, fun q => (q.2.2.1 (by omega)).2⟩
       | exact ⟨fun q => ⟨fun e => by omega, fun e => by omega, fun e => by omega, fun _ => q⟩, fun q => q.2.2.2 (by omega)⟩)
  refine Zs (Zr (run_eql rfl rfl) rfl (Za rfl (Zj (St_ifP rfl (fun h126 => ?_) (fun h126 => ?_)))))
  · refine Zs (Zf un41 inf38 rfl 7 rfl (Zl sc38 rfl (hs.blk_at 0 rfl 7 rfl) (Zr (run_len un38 rfl) rfl (Zr (run_leq rfl rfl) rfl (Zm rfl (Ls_partP (t := 77) rfl (fun h127 => ?_) (fun h127 => ?_)))))))
    · refine Zo rfl (Zf un41 inf38 rfl 7 rfl (Zo rfl (Zl sc38 rfl (hs.blk_at 0 rfl 7 rfl) (Zo rfl (Zc fn61 rfl (Rising_c w82 p.kA p.kn p.kc x.ks (hm.k.inB hs) hzk) rfl ?_)))))
      rintro v128 w129 ⟨rfl, rfl⟩
      refine Zr (run_pick_t rfl rfl) rfl (Za rfl (Zj (St_ret (Jm_block_ret (Jm_then_ret (Jm_ret1 rfl rfl (⟨_, rfl, ?_, hs.forget⟩)))))))
      first
      | exact congrArg Value.bool (decide_eq_false (fun q => by have := sound_num q; omega)).symm
      | exact congrArg Value.bool (decide_eq_false (hz1 (by assumption))).symm
      | (have hz3 := hz2 (by assumption)
         have hh : Mhead x := ⟨by omega, by omega, by omega, by omega, by omega, hz3.1, hz3.2.1, hz3.2.2.1, hz3.2.2.2⟩
         refine congrArg Value.bool (decide_eq_decide.2 ?_)
         rw [sound_iff hh]
         first
         | exact ⟨fun q => ⟨fun _ => q, fun e => by omega, fun e => by omega, fun e => by omega⟩, fun q => q.1 (by omega)⟩
         | exact ⟨fun q => ⟨fun e => by omega, fun _ => ⟨by omega, q⟩, fun e => by omega, fun e => by omega⟩, fun q => (q.2.1 (by omega)).2⟩
         | exact ⟨fun q => ⟨fun e => by omega, fun e => by omega, fun _ => ⟨by omega, q⟩, fun e => by omega⟩, fun q => (q.2.2.1 (by omega)).2⟩
         | exact ⟨fun q => ⟨fun e => by omega, fun e => by omega, fun e => by omega, fun _ => q⟩, fun q => q.2.2.2 (by omega)⟩)
    refine Zx rfl (Zx rfl (Zx rfl (Zr (run_pick_f rfl rfl) rfl (Za rfl (Zj (St_ret (Jm_block_ret (Jm_then_ret (Jm_ret1 rfl rfl (⟨_, rfl, ?_, hs.forget⟩))))))))))
    first
    | exact congrArg Value.bool (decide_eq_false (fun q => by have := sound_num q; omega)).symm
    | exact congrArg Value.bool (decide_eq_false (hz1 (by assumption))).symm
    | (have hz3 := hz2 (by assumption)
       have hh : Mhead x := ⟨by omega, by omega, by omega, by omega, by omega, hz3.1, hz3.2.1, hz3.2.2.1, hz3.2.2.2⟩
       refine congrArg Value.bool (decide_eq_decide.2 ?_)
       rw [sound_iff hh]
       first
       | exact ⟨fun q => ⟨fun _ => q, fun e => by omega, fun e => by omega, fun e => by omega⟩, fun q => q.1 (by omega)⟩
       | exact ⟨fun q => ⟨fun e => by omega, fun _ => ⟨by omega, q⟩, fun e => by omega, fun e => by omega⟩, fun q => (q.2.1 (by omega)).2⟩
       | exact ⟨fun q => ⟨fun e => by omega, fun e => by omega, fun _ => ⟨by omega, q⟩, fun e => by omega⟩, fun q => (q.2.2.1 (by omega)).2⟩
       | exact ⟨fun q => ⟨fun e => by omega, fun e => by omega, fun e => by omega, fun _ => q⟩, fun q => q.2.2.2 (by omega)⟩)
  refine Zs (Zr (run_eql rfl rfl) rfl (Za rfl (Zj (St_ifP rfl (fun h130 => ?_) (fun h130 => ?_)))))
  · refine Zs (Zf un41 inf39 rfl 8 rfl (Zl sc39 rfl (hs.blk_at 0 rfl 8 rfl) (Zr (run_len un39 rfl) rfl (Zr (run_leq rfl rfl) rfl (Zm rfl (Ls_partP (t := 88) rfl (fun h131 => ?_) (fun h131 => ?_)))))))
    · refine Zo rfl (Zf un41 inf39 rfl 8 rfl (Zo rfl (Zl sc39 rfl (hs.blk_at 0 rfl 8 rfl) (Zo rfl (Zc fn62 rfl (fSound_c w82 p.pA p.pn p.pc x.ps (hm.p.inB hs) hzp) rfl ?_)))))
      rintro v132 w133 ⟨rfl, hsQ134⟩
      replace hs := hs.trans hsQ134
      refine Zr (run_pick_t rfl rfl) rfl (Za rfl (Zj (St_ret (Jm_block_ret (Jm_then_ret (Jm_ret1 rfl rfl (⟨_, rfl, ?_, hs.forget⟩)))))))
      first
      | exact congrArg Value.bool (decide_eq_false (fun q => by have := sound_num q; omega)).symm
      | exact congrArg Value.bool (decide_eq_false (hz1 (by assumption))).symm
      | (have hz3 := hz2 (by assumption)
         have hh : Mhead x := ⟨by omega, by omega, by omega, by omega, by omega, hz3.1, hz3.2.1, hz3.2.2.1, hz3.2.2.2⟩
         refine congrArg Value.bool (decide_eq_decide.2 ?_)
         rw [sound_iff hh]
         first
         | exact ⟨fun q => ⟨fun _ => q, fun e => by omega, fun e => by omega, fun e => by omega⟩, fun q => q.1 (by omega)⟩
         | exact ⟨fun q => ⟨fun e => by omega, fun _ => ⟨by omega, q⟩, fun e => by omega, fun e => by omega⟩, fun q => (q.2.1 (by omega)).2⟩
         | exact ⟨fun q => ⟨fun e => by omega, fun e => by omega, fun _ => ⟨by omega, q⟩, fun e => by omega⟩, fun q => (q.2.2.1 (by omega)).2⟩
         | exact ⟨fun q => ⟨fun e => by omega, fun e => by omega, fun e => by omega, fun _ => q⟩, fun q => q.2.2.2 (by omega)⟩)
    refine Zx rfl (Zx rfl (Zx rfl (Zr (run_pick_f rfl rfl) rfl (Za rfl (Zj (St_ret (Jm_block_ret (Jm_then_ret (Jm_ret1 rfl rfl (⟨_, rfl, ?_, hs.forget⟩))))))))))
    first
    | exact congrArg Value.bool (decide_eq_false (fun q => by have := sound_num q; omega)).symm
    | exact congrArg Value.bool (decide_eq_false (hz1 (by assumption))).symm
    | (have hz3 := hz2 (by assumption)
       have hh : Mhead x := ⟨by omega, by omega, by omega, by omega, by omega, hz3.1, hz3.2.1, hz3.2.2.1, hz3.2.2.2⟩
       refine congrArg Value.bool (decide_eq_decide.2 ?_)
       rw [sound_iff hh]
       first
       | exact ⟨fun q => ⟨fun _ => q, fun e => by omega, fun e => by omega, fun e => by omega⟩, fun q => q.1 (by omega)⟩
       | exact ⟨fun q => ⟨fun e => by omega, fun _ => ⟨by omega, q⟩, fun e => by omega, fun e => by omega⟩, fun q => (q.2.1 (by omega)).2⟩
       | exact ⟨fun q => ⟨fun e => by omega, fun e => by omega, fun _ => ⟨by omega, q⟩, fun e => by omega⟩, fun q => (q.2.2.1 (by omega)).2⟩
       | exact ⟨fun q => ⟨fun e => by omega, fun e => by omega, fun e => by omega, fun _ => q⟩, fun q => q.2.2.2 (by omega)⟩)
  refine St_skip (Jm_block_normal (Zq (Zs (Zf un41 inf3 rfl 5 rfl (Zl sc3 rfl (hs.blk_at 0 rfl 5 rfl) (Zc fn59 rfl (mwithin_c w82 0 x.c 1000) rfl ?_))))))
  rintro v135 w136 ⟨rfl, rfl⟩
  refine Za rfl (Zj (St_ret (Jm_ret1 rfl rfl (⟨_, rfl, ?_, hs.forget⟩))))
  first
  | exact congrArg Value.bool (decide_eq_false (fun q => by have := sound_num q; omega)).symm
  | exact congrArg Value.bool (decide_eq_false (hz1 (by assumption))).symm
  | (have hz3 := hz2 (by assumption)
     have hh : Mhead x := ⟨by omega, by omega, by omega, by omega, by omega, hz3.1, hz3.2.1, hz3.2.2.1, hz3.2.2.2⟩
     refine congrArg Value.bool (decide_eq_decide.2 ?_)
     rw [sound_iff hh]
     first
     | exact ⟨fun q => ⟨fun _ => q, fun e => by omega, fun e => by omega, fun e => by omega⟩, fun q => q.1 (by omega)⟩
     | exact ⟨fun q => ⟨fun e => by omega, fun _ => ⟨by omega, q⟩, fun e => by omega, fun e => by omega⟩, fun q => (q.2.1 (by omega)).2⟩
     | exact ⟨fun q => ⟨fun e => by omega, fun e => by omega, fun _ => ⟨by omega, q⟩, fun e => by omega⟩, fun q => (q.2.2.1 (by omega)).2⟩
     | exact ⟨fun q => ⟨fun e => by omega, fun e => by omega, fun e => by omega, fun _ => q⟩, fun q => q.2.2.2 (by omega)⟩)
end Go.Proofs.Ytcifdianinbkeaa.Lg
set_option linter.unusedVariables false
set_option linter.unusedSimpArgs false
namespace Go.Proofs.Ytcifdianinbkeaa.PlanPure
open Go Go.Proofs.Ytcifdianinbkeaa.Lg
structure PlanA where
  pa : Int
  st : Int
  wo : Int
  oA : Option Addr
  on : Nat
  oc : Nat
  ag : Int
  ba : Int
  wi : Int
  gu : Int
/-- A step: its kind, its number, its float's bits. -/
def KOp : El (Int × Int × Nat) := ⟨3, fun o => [.int .i64 o.1, .int .i64 o.2.1, .float .f64 o.2.2], (0, 0, 0), fun _ => rfl⟩
/-- Three numbers in a row. -/
def K3 : El (Int × Int × Int) := ⟨3, fun o => [.int .i64 o.1, .int .i64 o.2.1, .int .i64 o.2.2], (0, 0, 0), fun _ => rfl⟩
def opOk (k m : Int) : Prop := (k = 7 ∧ -2200 ≤ m ∧ m ≤ 2200) ∨ (k = 11 ∧ 1 ≤ m) ∨ (k ≠ 7 ∧ k ≠ 11 ∧ 1 ≤ k ∧ k ≤ 12)
instance (k m : Int) : Decidable (opOk k m) := by unfold opOk; infer_instance
def opsBad (l : List (Int × Int × Nat)) : Prop := 8 < l.length ∨ ∃ o ∈ l, ¬ opOk o.1 o.2.1
instance (l : List (Int × Int × Nat)) : Decidable (opsBad l) := by unfold opsBad; infer_instance
def opsChk (l : List (Int × Int × Nat)) : Int := if opsBad l then 30 else 0
def numsOk (p : PlanA) : Prop := (1 ≤ p.pa ∧ p.pa ≤ 4) ∧ (1 ≤ p.st ∧ p.st ≤ 4) ∧ (1 ≤ p.wo ∧ p.wo ≤ 4) ∧ (1 ≤ p.ba ∧ p.ba ≤ 16) ∧ (1 ≤ p.wi ∧ p.wi ≤ 4) ∧ (8 ≤ p.gu ∧ p.gu ≤ 64) ∧ (1 ≤ p.ag ∧ p.ag ≤ 4)
instance (p : PlanA) : Decidable (numsOk p) := by unfold numsOk; infer_instance
def chk (p : PlanA) (l : List (Int × Int × Nat)) : Int := if numsOk p then opsChk l else 140
theorem chk_ok {p : PlanA} {l : List (Int × Int × Nat)} (h : chk p l = 0) : numsOk p := by
  unfold chk at h
  split at h
  · assumption
  · simp at h
def nodes (p : PlanA) (l : List (Int × Int × Nat)) : Int := if chk p l = 0 then 1 + p.wo + p.st else 0
def kindOf (p : PlanA) (l : List (Int × Int × Nat)) (node : Int) : Int :=
  if node < 0 ∨ nodes p l ≤ node then 0 else if node = 0 then 1 else if node ≤ p.wo then 2 else 3
def workerOf (p : PlanA) (l : List (Int × Int × Nat)) (a : Int) : Int := if chk p l = 0 ∧ 1 ≤ a then 1 + a.tmod p.wo else -1
theorem tmod_bd (a b : Int) (ha : 0 ≤ a) (hb : 1 ≤ b) : 0 ≤ a.tmod b ∧ a.tmod b < b := by
  rw [Int.tmod_eq_emod_of_nonneg ha]
  exact ⟨Int.emod_nonneg _ (by omega), Int.emod_lt_of_pos _ (by omega)⟩
theorem take_snoc3 {α : Type} {l : List α} {d : α} {i : Nat} (h : i < l.length) : l.take (i + 1) = l.take i ++ [l.getD i d] := by
  rw [List.take_succ_eq_append_getElem h, List.getD_eq_getElem?_getD, List.getElem?_eq_getElem h]; rfl
theorem getD_mem3 {α : Type} {l : List α} {d : α} {i : Nat} (h : i < l.length) : l.getD i d ∈ l := by
  rw [List.getD_eq_getElem?_getD, List.getElem?_eq_getElem h]; exact List.getElem_mem _
/-- A pair: its key, and its value's two parts. -/
abbrev Pr := Int × Bool × Int
def KP : El Pr := ⟨3, fun o => [.int .u64 o.1, .bool o.2.1, .int .u64 o.2.2], (0, false, 0), fun _ => rfl⟩
def row (st : Nat) (l : List Pr) (n : Nat) : List Pr := l.filter fun x => decide (x.1.toNat % st = n)
end Go.Proofs.Ytcifdianinbkeaa.PlanPure
set_option linter.unusedVariables false
set_option linter.unusedSimpArgs false
namespace Go.Proofs.Ytcifdianinbkeaa.Lg
open Go Go.RowKit Go.Proofs.Ytcifdianinbkeaa.PlanPure
set_option maxRecDepth 100000 in
set_option maxHeartbeats 1000000 in
theorem Known_c (w : World) (a : Int) :
    Calls Try.prog 51 [.int .i64 a].toArray w (Ret (fun v' w' => w = w' ∧ v' = .bool (decide (1 ≤ a ∧ a ≤ 4)))) := by
  refine Zb Try.func51 rfl rfl rfl (Zs (Za rfl (Zt (Zm rfl (Zr (run_geq rfl rfl) rfl (Zm rfl (Ls_partP (t := 5) rfl (fun h1 => ?_) (fun h1 => ?_))))))))
  · refine Zo rfl (Zm rfl (Zo rfl (Zr (run_leq rfl rfl) rfl (Zr (run_pick_t rfl rfl) rfl (Za rfl (Zj (St_ret (Jm_ret1 rfl rfl ?_))))))))
    first | exact ⟨_, rfl, rfl, by congr 1; exact decide_eq_decide.2 (by omega)⟩ | exact ⟨_, rfl, rfl, by congr 1; exact (decide_eq_true (by omega)).symm⟩ | exact ⟨_, rfl, rfl, by congr 1; exact (decide_eq_false (by omega)).symm⟩
  refine Zx rfl (Zx rfl (Zr (run_pick_f rfl rfl) rfl (Za rfl (Zj (St_ret (Jm_ret1 rfl rfl ?_))))))
  first | exact ⟨_, rfl, rfl, by congr 1; exact decide_eq_decide.2 (by omega)⟩ | exact ⟨_, rfl, rfl, by congr 1; exact (decide_eq_true (by omega)).symm⟩ | exact ⟨_, rfl, rfl, by congr 1; exact (decide_eq_false (by omega)).symm⟩
set_option maxRecDepth 100000 in
set_option maxHeartbeats 1000000 in
theorem isStep_c (w : World) (k m : Int) (x : Nat) :
    Calls Try.prog 52 [.agg #[.int .i64 k, .int .i64 m, .float .f64 x]].toArray w (Ret (fun v' w' => v' = .bool (decide (opOk k m)) ∧ Sat w w' [])) := by
  have hs := Sat.start w
  refine Zb Try.func52 rfl rfl rfl (Zs (Ls_box hs rfl rfl (fun b2 w1 hs => (Za rfl (Zj (St_seq (Zs (Zf un94 inf3 rfl 0 rfl (Zl sc3 rfl (hs.blk_at 0 rfl 0 rfl) (Zj (St_block (Zs (Zr (run_eql rfl rfl) rfl (Za rfl (Zj (St_ifP rfl (fun h3 => ?_) (fun h3 => ?_)))))))))))))))))
  · refine Zs (Zf un94 inf2 rfl 1 rfl (Zl sc2 rfl (hs.blk_at 0 rfl 1 rfl) (Zr (run_geq rfl rfl) rfl (Zm rfl (Ls_partP (t := 10) rfl (fun h4 => ?_) (fun h4 => ?_))))))
    · refine Zo rfl (Zf un94 inf2 rfl 1 rfl (Zo rfl (Zl sc2 rfl (hs.blk_at 0 rfl 1 rfl) (Zo rfl (Zr (run_leq rfl rfl) rfl (Zr (run_pick_t rfl rfl) rfl (Za rfl (Zj (St_ret (Jm_block_ret (Jm_then_ret (Jm_ret1 rfl rfl ?_))))))))))))
      first | exact ⟨_, rfl, by congr 1; exact decide_eq_decide.2 (by unfold opOk; omega), hs.forget⟩ | exact ⟨_, rfl, by congr 1; exact (decide_eq_true (by unfold opOk; omega)).symm, hs.forget⟩ | exact ⟨_, rfl, by congr 1; exact (decide_eq_false (by unfold opOk; omega)).symm, hs.forget⟩
    refine Zx rfl (Zx rfl (Zx rfl (Zr (run_pick_f rfl rfl) rfl (Za rfl (Zj (St_ret (Jm_block_ret (Jm_then_ret (Jm_ret1 rfl rfl ?_)))))))))
    first | exact ⟨_, rfl, by congr 1; exact decide_eq_decide.2 (by unfold opOk; omega), hs.forget⟩ | exact ⟨_, rfl, by congr 1; exact (decide_eq_true (by unfold opOk; omega)).symm, hs.forget⟩ | exact ⟨_, rfl, by congr 1; exact (decide_eq_false (by unfold opOk; omega)).symm, hs.forget⟩
  refine Zs (Zr (run_eql rfl rfl) rfl (Za rfl (Zj (St_ifP rfl (fun h5 => ?_) (fun h5 => ?_)))))
  · refine Zs (Zf un94 inf2 rfl 1 rfl (Zl sc2 rfl (hs.blk_at 0 rfl 1 rfl) (Zr (run_geq rfl rfl) rfl (Za rfl (Zj (St_ret (Jm_block_ret (Jm_then_ret (Jm_ret1 rfl rfl ?_)))))))))
    first | exact ⟨_, rfl, by congr 1; exact decide_eq_decide.2 (by unfold opOk; omega), hs.forget⟩ | exact ⟨_, rfl, by congr 1; exact (decide_eq_true (by unfold opOk; omega)).symm, hs.forget⟩ | exact ⟨_, rfl, by congr 1; exact (decide_eq_false (by unfold opOk; omega)).symm, hs.forget⟩
  refine St_skip (Jm_block_normal (Zq (Zs (Zf un94 inf3 rfl 0 rfl (Zl sc3 rfl (hs.blk_at 0 rfl 0 rfl) (Zr (run_geq rfl rfl) rfl (Zm rfl (Ls_partP (t := 23) rfl (fun h6 => ?_) (fun h6 => ?_)))))))))
  · refine Zo rfl (Zf un94 inf3 rfl 0 rfl (Zo rfl (Zl sc3 rfl (hs.blk_at 0 rfl 0 rfl) (Zo rfl (Zr (run_leq rfl rfl) rfl (Zr (run_pick_t rfl rfl) rfl (Za rfl (Zj (St_ret (Jm_ret1 rfl rfl ?_))))))))))
    first | exact ⟨_, rfl, by congr 1; exact decide_eq_decide.2 (by unfold opOk; omega), hs.forget⟩ | exact ⟨_, rfl, by congr 1; exact (decide_eq_true (by unfold opOk; omega)).symm, hs.forget⟩ | exact ⟨_, rfl, by congr 1; exact (decide_eq_false (by unfold opOk; omega)).symm, hs.forget⟩
  refine Zx rfl (Zx rfl (Zx rfl (Zr (run_pick_f rfl rfl) rfl (Za rfl (Zj (St_ret (Jm_ret1 rfl rfl ?_)))))))
  first | exact ⟨_, rfl, by congr 1; exact decide_eq_decide.2 (by unfold opOk; omega), hs.forget⟩ | exact ⟨_, rfl, by congr 1; exact (decide_eq_true (by unfold opOk; omega)).symm, hs.forget⟩ | exact ⟨_, rfl, by congr 1; exact (decide_eq_false (by unfold opOk; omega)).symm, hs.forget⟩
set_option maxRecDepth 100000 in
set_option maxHeartbeats 1000000 in
theorem opsCheck_c (w : World) (A : Option Addr) (n c : Nat) (l : List (Int × Int × Nat)) (hr : Rd w A n c 3 (KOp.flat l)) (hn : n ≤ 9223372036854775807) :
    Calls Try.prog 31 [.slice A n c].toArray w (Ret (fun v' w' => v' = .int .i64 (opsChk l) ∧ Sat w w' [])) := by
  have hs := Sat.start w
  have hl : l.length = n := by have := hr.len; rw [El.flat_length] at this; exact Nat.eq_of_mul_eq_mul_right (by decide) this
  refine Zb Try.func31 rfl rfl rfl (Zs (Za rfl (Zj (St_seq (Zs (Zm rfl (Zr (run_len un22 rfl) rfl (Zr (run_gtr rfl rfl) rfl (Zj (St_ifP rfl (fun h1 => ?_) (fun h1 => ?_)))))))))))
  · refine Zs (Za rfl (Zj (St_ret (Jm_then_ret (Jm_ret1 rfl rfl (⟨_, rfl, ?_, hs.forget⟩))))))
    unfold opsChk
    rw [if_pos (show opsBad l from .inl (by omega))]
  refine St_skip (Zq (St_seq (Zs (Zm rfl (Zr (run_len un22 rfl) rfl (Zm rfl (Zj (St_block ?_))))))))
  obtain ⟨En2, hEn2⟩ := ex1 fun (i : Nat) => ([(8, .slice A n c), (9, .int .i64 (n : Int)), (10, .int .i64 (i : Int))] : Env)
  obtain ⟨Iv3, hIv3⟩ := ew1 fun (i : Nat) (wr : World) => Sat w wr [] ∧ i ≤ n ∧ (∀ o ∈ l.take i, opOk o.1 o.2.1)
  obtain ⟨ms4, hms4⟩ := ex1 fun (i : Nat) => (n - i : Nat)
  refine St_loop En2 Iv3 ms4 (0) ?_ ?_ ?_
  · rw [hIv3]
    exact ⟨hs.forget, by omega, by simp⟩
  · rw [hEn2]; exact sE ⟨rfl, rfl, rfl, trivial⟩
  rintro i wr hI5
  rw [hIv3] at hI5
  obtain ⟨hs, hi, hok⟩ := hI5
  refine St_eqE (hEn2 _) (Zs (Zr (run_lss rfl rfl) rfl (Zj (St_seq (St_ifP rfl (fun h6 => ?_) (fun h6 => ?_))))))
  · refine St_skip (Zq (St_seq (St_block (Zs ?_))))
    obtain ⟨⟨ok, om, ox⟩, ho⟩ : ∃ o, l.getD i (0, 0, 0) = o := ⟨_, rfl⟩
    have hmem : (ok, om, ox) ∈ l := by rw [← ho]; exact getD_mem3 (by omega)
    refine Ls_index (KOp) (hr.inB hs) un22 inf94 rfl rfl (by omega) (by omega) ho rfl (fun b7 o8 hc9 => (Zr (run_load_agg agg94 inf94 rfl rfl hc9) rfl (Ls_alloc hs inf94 rfl (fun b11 w10 hs => (Ls_storeAgg hs inf94 rfl rfl rfl rfl (by simp [KOp, Value.oneCell']) (fun w12 hs => (Zt (Zr (run_load_agg agg94 inf94 rfl rfl (hs.blk_cells 0 rfl 0 3)) rfl (Zc fn52 rfl (isStep_c w12 ok om ox) rfl ?_)))))))))
    rintro v13 w14 ⟨rfl, hsQ15⟩
    replace hs := hs.trans hsQ15
    refine Zr (run_not rfl) rfl (Zj (St_ifN rfl (fun h16 => ?_) (fun h16 => ?_)))
    · refine Zs (Za rfl (Zj (St_ret (Jm_block_ret (Jm_then_ret (Jm_then_ret (Jm_block_ret (Jm_then_ret (Jm_ret1 rfl rfl (⟨_, rfl, ?_, hs.forget⟩))))))))))
      unfold opsChk
      rw [if_pos (show opsBad l from .inr ⟨_, hmem, by assumption⟩)]
    refine St_skip (Jm_block_normal (Zq (St_region (Zr (run_add rfl rfl (w64 (by omega))) rfl (Zm rfl (Ls_nil (Jm_round (i + 1) ?_ ?_ ?_)))))))
    · rw [hEn2]; exact sE ⟨rfl, rfl, rfl, trivial⟩
    · rw [hIv3]
      refine ⟨hs.forget, by omega, fun o ho2 => ?_⟩
      rw [take_snoc3 (d := (0, 0, 0)) (by omega), ho] at ho2
      rcases List.mem_append.1 ho2 with q | q
      · exact hok o q
      · simp only [List.mem_singleton] at q; subst q; first | assumption | (exact Decidable.not_not.1 (by assumption))
    rw [hms4, hms4]
    omega
  refine St_exit (Jm_then_exit (Jm_then_exit (Jm_block_same (Zq (Zs (Za rfl (Zj (St_ret (Jm_ret1 rfl rfl (⟨_, rfl, ?_, hs.forget⟩))))))))))
  unfold opsChk
  have hi9 : i = n := by omega
  rw [hi9, List.take_of_length_le (by omega)] at hok
  rw [if_neg (fun q => by rcases q with q | ⟨o, ho, hq⟩ <;> first | omega | exact hq (hok o ho))]
set_option maxRecDepth 100000 in
set_option maxHeartbeats 1000000 in
theorem numbers_c (w : World) (p : PlanA) :
    Calls Try.prog 30 [.agg #[.int .i64 p.pa, .int .i64 p.st, .int .i64 p.wo, .slice p.oA p.on p.oc, .int .i64 p.ag, .int .i64 p.ba, .int .i64 p.wi, .int .i64 p.gu]].toArray w (Ret (fun v' w' => v' = .bool (decide (numsOk p)) ∧ Sat w w' [])) := by
  have hs := Sat.start w
  obtain ⟨l6, hl6⟩ : ∃ l, l = ([(1, p.pa, 4), (1, p.st, 4), (1, p.wo, 4), (1, p.ba, 16), (1, p.wi, 4), (8, p.gu, 64)] : List (Int × Int × Int)) := ⟨_, rfl⟩
  have hl6n : l6.length = 6 := by rw [hl6]; rfl
  refine Zb Try.func30 rfl rfl rfl (Zs (Ls_box hs rfl rfl (fun b2 w1 hs => (Za rfl (Zj (St_seq (Zs (Zf un24 inf3 rfl 0 rfl (Zl sc3 rfl (hs.blk_at 0 rfl 0 rfl) (Zr (run_buildO (pv := [(0, _), (1, _), (2, _)]) rfl (bld98_0_1_2 _ _ _)) rfl (Zf un24 inf3 rfl 1 rfl (Zl sc3 rfl (hs.blk_at 0 rfl 1 rfl) (Zr (run_buildO (pv := [(0, _), (1, _), (2, _)]) rfl (bld98_0_1_2 _ _ _)) rfl (Zf un24 inf3 rfl 2 rfl (Zl sc3 rfl (hs.blk_at 0 rfl 2 rfl) (Zr (run_buildO (pv := [(0, _), (1, _), (2, _)]) rfl (bld98_0_1_2 _ _ _)) rfl (Zf un24 inf3 rfl 5 rfl (Zl sc3 rfl (hs.blk_at 0 rfl 5 rfl) (Zr (run_buildO (pv := [(0, _), (1, _), (2, _)]) rfl (bld98_0_1_2 _ _ _)) rfl (Zf un24 inf3 rfl 6 rfl (Zl sc3 rfl (hs.blk_at 0 rfl 6 rfl) (Zr (run_buildO (pv := [(0, _), (1, _), (2, _)]) rfl (bld98_0_1_2 _ _ _)) rfl (Zf un24 inf3 rfl 7 rfl (Zl sc3 rfl (hs.blk_at 0 rfl 7 rfl) (Zr (run_buildO (pv := [(0, _), (1, _), (2, _)]) rfl (bld98_0_1_2 _ _ _)) rfl (Ls_literal [_, _, _, _, _, _] hs un99 inf98 rfl rfl rfl rfl rfl rfl (fun b3 w4 hs => ?_)))))))))))))))))))))))))))
  simp only [List.flatMap_cons, List.flatMap_nil, Value.cells, List.cons_append, List.nil_append] at hs
  refine Zr (run_len un99 rfl) rfl (Zm rfl (Zj (St_block ?_)))
  obtain ⟨En5, hEn5⟩ := ex1 fun (i : Nat) => ([(1, .pointer (some ⟨b2, 0, none⟩)), (23, .slice (some ⟨b3, 0, none⟩) 6 6), (24, .int .i64 6), (25, .int .i64 (i : Int))] : Env)
  obtain ⟨Iv6, hIv6⟩ := ew1 fun (i : Nat) (wr : World) => Sat w wr [Blk b3 [.int .i64 1, .int .i64 p.pa, .int .i64 4, .int .i64 1, .int .i64 p.st, .int .i64 4, .int .i64 1, .int .i64 p.wo, .int .i64 4, .int .i64 1, .int .i64 p.ba, .int .i64 16, .int .i64 1, .int .i64 p.wi, .int .i64 4, .int .i64 8, .int .i64 p.gu, .int .i64 64] 98, Blk b2 [.int .i64 p.pa, .int .i64 p.st, .int .i64 p.wo, .slice p.oA p.on p.oc, .int .i64 p.ag, .int .i64 p.ba, .int .i64 p.wi, .int .i64 p.gu] 24] ∧ i ≤ 6 ∧ (∀ o ∈ l6.take i, o.1 ≤ o.2.1 ∧ o.2.1 ≤ o.2.2)
  obtain ⟨ms7, hms7⟩ := ex1 fun (i : Nat) => (6 - i : Nat)
  refine St_loop En5 Iv6 ms7 (0) ?_ ?_ ?_
  · rw [hIv6]
    exact ⟨hs, by omega, by simp⟩
  · rw [hEn5]; exact sE ⟨rfl, rfl, rfl, rfl, trivial⟩
  rintro i wr hI8
  rw [hIv6] at hI8
  obtain ⟨hs, hi, hok⟩ := hI8
  refine St_eqE (hEn5 _) (Zs (Zr (run_lss rfl rfl) rfl (Zj (St_seq (St_ifP rfl (fun h9 => ?_) (fun h9 => ?_))))))
  · refine St_skip (Zq (St_seq (St_block (Zs ?_))))
    obtain ⟨⟨lo, xx, hh⟩, ho⟩ : ∃ o, l6.getD i (0, 0, 0) = o := ⟨_, rfl⟩
    have hmem : (lo, xx, hh) ∈ l6 := by rw [← ho]; exact getD_mem3 (by omega)
    refine Ls_index (K3) (by rw [hl6]; exact rd_block (hs.is_at 0 rfl).2 3 6 rfl) un99 inf98 rfl rfl (by omega) (by omega) ho rfl (fun b10 o11 hc12 => (Zr (run_as (run_load_agg agg98 inf98 rfl rfl hc12) (show _ = Value.agg #[.int .i64 lo, .int .i64 xx, .int .i64 hh] from rfl)) rfl (Ls_alloc hs inf98 rfl (fun b14 w13 hs => (Ls_storeAgg hs inf98 rfl rfl rfl rfl (by simp [K3, Value.oneCell']) (fun w15 hs => (Zt (Zr (run_index_arr un98 inf3 rfl rfl (by decide) (by decide)) rfl (Zl sc3 rfl (hs.blk_at 0 rfl 1 rfl) (Zr (run_index_arr un98 inf3 rfl rfl (by decide) (by decide)) rfl (Zl sc3 rfl (hs.blk_at 0 rfl 0 rfl) (Zr (run_lss rfl rfl) rfl (Zm rfl (Ls_partP (t := 34) rfl (fun h16 => ?_) (fun h16 => ?_)))))))))))))))
    · refine Zx rfl (Zx rfl (Zx rfl (Zx rfl (Zx rfl (Zr (run_pick_t rfl rfl) rfl (Zj (St_ift rfl (Zs (Za rfl (Zj (St_ret (Jm_block_ret (Jm_then_ret (Jm_then_ret (Jm_block_ret (Jm_then_ret (Jm_ret1 rfl rfl ?_)))))))))))))))))
      rw [hl6] at hmem
      simp only [List.mem_cons, Prod.mk.injEq, List.not_mem_nil, or_false] at hmem
      refine ⟨_, rfl, ?_, hs.forget⟩
      congr 1
      exact (decide_eq_false (by unfold numsOk; omega)).symm
    refine Zo rfl (Zr (run_index_arr un98 inf3 rfl rfl (by decide) (by decide)) rfl (Zo rfl (Zl sc3 rfl (hs.blk_at 0 rfl 1 rfl) (Zo rfl (Zr (run_index_arr un98 inf3 rfl rfl (by decide) (by decide)) rfl (Zo rfl (Zl sc3 rfl (hs.blk_at 0 rfl 2 rfl) (Zo rfl (Zr (run_gtr rfl rfl) rfl (Zr (run_pick_f rfl rfl) rfl (Zj (St_ifP rfl (fun h18 => ?_) (fun h18 => ?_)))))))))))))
    · refine Zs (Za rfl (Zj (St_ret (Jm_block_ret (Jm_then_ret (Jm_then_ret (Jm_block_ret (Jm_then_ret (Jm_ret1 rfl rfl ?_)))))))))
      rw [hl6] at hmem
      simp only [List.mem_cons, Prod.mk.injEq, List.not_mem_nil, or_false] at hmem
      refine ⟨_, rfl, ?_, hs.forget⟩
      congr 1
      exact (decide_eq_false (by unfold numsOk; omega)).symm
    refine St_skip (Jm_block_normal (Zq (St_region (Zr (run_add rfl rfl (w64 (by omega))) rfl (Zm rfl (Ls_nil ?_))))))
    replace hs := hs.E0
    refine Jm_round (i + 1) ?_ ?_ ?_
    · rw [hEn5]; exact sE ⟨rfl, rfl, rfl, rfl, trivial⟩
    · rw [hIv6]
      refine ⟨hs, by omega, fun o ho2 => ?_⟩
      rw [take_snoc3 (d := (0, 0, 0)) (by omega), ho] at ho2
      rcases List.mem_append.1 ho2 with q | q
      · exact hok o q
      · simp only [List.mem_singleton] at q; subst q; simp only; omega
    rw [hms7, hms7]
    omega
  refine St_exit (Jm_then_exit (Jm_then_exit (Jm_block_same (Zq (Zs (Zf un24 inf3 rfl 4 rfl (Zl sc3 rfl (hs.blk_at 1 rfl 4 rfl) (Zc fn51 rfl (Known_c wr p.ag) rfl ?_))))))))
  rintro v19 w20 ⟨rfl, rfl⟩
  refine Za rfl (Zj (St_ret (Jm_ret1 rfl rfl ?_)))
  have hi9 : i = 6 := by omega
  rw [hi9, List.take_of_length_le (by omega), hl6] at hok
  simp only [List.forall_mem_cons, List.not_mem_nil, false_implies, implies_true, and_true] at hok
  refine ⟨_, rfl, ?_, hs.forget⟩
  congr 1
  exact decide_eq_decide.2 (by unfold numsOk; omega)
end Go.Proofs.Ytcifdianinbkeaa.Lg

/-
  The plan's Check, Nodes, Kind, WorkerOf, StoreOf and the reference's, walked. By program (gen/plan2.py).
-/
set_option linter.unusedVariables false
set_option linter.unusedSimpArgs false
namespace Go.Proofs.Ytcifdianinbkeaa.Lg
open Go Go.RowKit Go.Proofs.Ytcifdianinbkeaa.PlanPure
set_option maxRecDepth 100000 in
set_option maxHeartbeats 1000000 in
theorem Check_c (w : World) (p : PlanA) (ops : List (Int × Int × Nat)) (hr : Rd w p.oA p.on p.oc 3 (KOp.flat ops)) (hn : p.on ≤ 9223372036854775807) :
    Calls Try.prog 10 [.agg #[.int .i64 p.pa, .int .i64 p.st, .int .i64 p.wo, .slice p.oA p.on p.oc, .int .i64 p.ag, .int .i64 p.ba, .int .i64 p.wi, .int .i64 p.gu]].toArray w (Ret (fun v' w' => v' = .int .i64 (chk p ops) ∧ Sat w w' [])) := by
  have hs := Sat.start w
  refine Zb Try.func10 rfl rfl rfl (Zs (Ls_box hs rfl rfl (fun b2 w1 hs => (Za rfl (Zj (St_seq (Zs (Zr (run_load_agg agg24 inf24 rfl rfl (hs.blk_cells 0 rfl 0 8)) rfl (Zc fn30 rfl (numbers_c w1 p) rfl ?_)))))))))
  rintro v3 w4 ⟨rfl, hsQ5⟩
  replace hs := hs.trans hsQ5
  refine Zr (run_not rfl) rfl (Zj (St_ifN rfl (fun h6 => ?_) (fun h6 => ?_)))
  · refine Zs (Za rfl (Zj (St_ret (Jm_then_ret (Jm_ret1 rfl rfl (⟨_, rfl, ?_, hs.forget⟩))))))
    congr 1
    rw [chk, if_neg (by assumption)]
  refine St_skip (Zq (Zs (Zf un24 inf22 rfl 3 rfl (Zl sc22 rfl (hs.blk_at 0 rfl 3 rfl) (Zc fn31 rfl (opsCheck_c w4 _ _ _ ops (hr.inB hs) hn) rfl ?_)))))
  rintro v7 w9 ⟨rfl, hsQ10⟩
  replace hs := hs.trans hsQ10
  refine Za rfl (Zj (St_ret (Jm_ret1 rfl rfl (⟨_, rfl, ?_, hs.forget⟩))))
  congr 1
  rw [chk, if_pos (by first | assumption | exact Decidable.not_not.1 (by assumption))]
set_option maxRecDepth 100000 in
set_option maxHeartbeats 1000000 in
theorem WorkerOf_c (w : World) (p : PlanA) (ops : List (Int × Int × Nat)) (hr : Rd w p.oA p.on p.oc 3 (KOp.flat ops)) (hn : p.on ≤ 9223372036854775807) (a : Int) (ha : a ≤ 9223372036854775807) :
    Calls Try.prog 25 [.agg #[.int .i64 p.pa, .int .i64 p.st, .int .i64 p.wo, .slice p.oA p.on p.oc, .int .i64 p.ag, .int .i64 p.ba, .int .i64 p.wi, .int .i64 p.gu], .int .i64 a].toArray w (Ret (fun v' w' => v' = .int .i64 (workerOf p ops a) ∧ Sat w w' [])) := by
  have hs := Sat.start w
  refine Zb Try.func25 rfl rfl rfl (Zs (Ls_box hs rfl rfl (fun b2 w1 hs => (Za rfl (Zj (St_seq (Zs (Zr (run_load_agg agg24 inf24 rfl rfl (hs.blk_cells 0 rfl 0 8)) rfl (Zc fn10 rfl (Check_c w1 p ops (hr.inB hs) hn) rfl ?_)))))))))
  rintro v3 w4 ⟨rfl, hsQ5⟩
  replace hs := hs.trans hsQ5
  refine Zr (run_neq rfl rfl) rfl (Zm rfl (Ls_partP (t := 8) rfl (fun h6 => ?_) (fun h6 => ?_)))
  · refine Zx rfl (Zx rfl (Zr (run_pick_t rfl rfl) rfl (Zj (St_ift rfl (Zs (Za rfl (Zj (St_ret (Jm_then_ret (Jm_ret1 rfl rfl (⟨_, rfl, ?_, hs.forget⟩)))))))))))
    congr 1
    unfold workerOf
    first | (rw [if_neg (by omega)]; done) | (rw [if_pos (by omega)]; done)
  refine Zo rfl (Zm rfl (Zo rfl (Zr (run_lss rfl rfl) rfl (Zr (run_pick_f rfl rfl) rfl (Zj (St_ifP rfl (fun h8 => ?_) (fun h8 => ?_)))))))
  · refine Zs (Za rfl (Zj (St_ret (Jm_then_ret (Jm_ret1 rfl rfl (⟨_, rfl, ?_, hs.forget⟩))))))
    congr 1
    unfold workerOf
    first | (rw [if_neg (by omega)]; done) | (rw [if_pos (by omega)]; done)
  refine St_skip (Zq (Zs ?_))
  have hc : chk p ops = 0 := by omega
  have hk2 := chk_ok hc
  unfold numsOk at hk2
  have htm := tmod_bd a p.wo (by omega) (by omega)
  refine Zm rfl (Zf un24 inf3 rfl 2 rfl (Zl sc3 rfl (hs.blk_at 0 rfl 2 rfl) (Zr (run_rem rfl rfl (by omega) rfl) rfl (Zr (run_add rfl rfl (w64 (by omega))) rfl (Za rfl (Zj (St_ret (Jm_ret1 rfl rfl (⟨_, rfl, ?_, hs.forget⟩)))))))))
  congr 1
  unfold workerOf
  first | (rw [if_neg (by omega)]; done) | (rw [if_pos (by omega)]; done)
end Go.Proofs.Ytcifdianinbkeaa.Lg
set_option linter.unusedVariables false
set_option linter.unusedSimpArgs false
namespace Go.Proofs.Ytcifdianinbkeaa.Lg
open Go Go.RowKit Go.Proofs.Ytcifdianinbkeaa.WirePure Go.Proofs.Ytcifdianinbkeaa.PlanPure
/-- A try. -/
structure TSt where
  b : Int
  a : Int
  nd : Int
  ph : Int
  ti : Int
  fr : List Int
  to : List Int
/-- Where its lists lie. -/
structure TP where
  fA : Option Addr
  fc : Nat
  tA : Option Addr
  tc : Nat
abbrev TT := TSt × TP
def T0 : TT := (⟨0, 0, 0, 0, 0, [], []⟩, ⟨none, 0, none, 0⟩)
def tcells (x : TT) : List Value := [.int .i64 x.1.b, .int .i64 x.1.a, .int .i64 x.1.nd, .int .i64 x.1.ph, .int .i64 x.1.ti, .slice x.2.fA x.1.fr.length x.2.fc, .slice x.2.tA x.1.to.length x.2.tc]
def KT : El TT := ⟨7, tcells, T0, fun _ => rfl⟩
def TRd (w : World) (x : TT) : Prop := Rd w x.2.fA x.1.fr.length x.2.fc 1 (KI.flat x.1.fr) ∧ Rd w x.2.tA x.1.to.length x.2.tc 1 (KI.flat x.1.to)
theorem TRd.inB {w w' : World} {x : TT} {L : List Assn} (h : TRd w x) (hs : Sat w w' L) : TRd w' x := ⟨h.1.inB hs, h.2.inB hs⟩
theorem TRd.zero (w : World) : TRd w T0 := ⟨Rd.none w 1, Rd.none w 1⟩
theorem flatKT_one (l : List TT) : ∀ u ∈ KT.flat l, u.oneCell' = true := by
  intro u hu
  simp only [El.flat, List.mem_flatMap] at hu
  obtain ⟨x, _, hx⟩ := hu
  simp only [KT, tcells, List.mem_cons, List.not_mem_nil, or_false] at hx
  rcases hx with rfl | rfl | rfl | rfl | rfl | rfl | rfl <;> rfl
theorem flatKOp_one (l : List (Int × Int × Nat)) : ∀ u ∈ KOp.flat l, u.oneCell' = true := by
  intro u hu
  simp only [El.flat, List.mem_flatMap] at hu
  obtain ⟨x, _, hx⟩ := hu
  simp only [KOp, List.mem_cons, List.not_mem_nil, or_false] at hx
  rcases hx with rfl | rfl | rfl <;> rfl
theorem lenKT {w : World} {A : Option Addr} {n c : Nat} {l : List TT} (h : Rd w A n c 7 (KT.flat l)) : l.length = n := by
  have := h.len; rw [El.flat_length] at this; exact Nat.eq_of_mul_eq_mul_right (show 0 < 7 by decide) this
theorem lenKOp {w : World} {A : Option Addr} {n c : Nat} {l : List (Int × Int × Nat)} (h : Rd w A n c 3 (KOp.flat l)) : l.length = n := by
  have := h.len; rw [El.flat_length] at this; exact Nat.eq_of_mul_eq_mul_right (show 0 < 3 by decide) this
/-- Whether a message is about a try in a phase. -/
def abt (m : MC) (t : TSt) (ph : Int) : Prop := t.b = m.b ∧ t.a = m.a ∧ t.nd = m.f ∧ t.ph = ph
instance (m : MC) (t : TSt) (ph : Int) : Decidable (abt m t ph) := by unfold abt; exact inferInstance
/-- A right triple. -/
def triOk (b : Int) (pr cu : List Int) : Prop := 0 ≤ b ∧ fwd pr cu ∧ (∀ x ∈ pr, 0 ≤ x) ∧ (0 < b ∨ ∀ x ∈ cu, x = 0)
instance (b : Int) (pr cu : List Int) : Decidable (triOk b pr cu) := by unfold triOk; exact inferInstance
def tstep (b : Int) (pr cu to : List Int) : Int × Int × List Int × List Int :=
  if ¬ triOk b pr cu ∨ ¬ fwd cu to then (70, 0, [], []) else if 1099511627776 ≤ b then (1, 0, [], []) else (0, b + 1, cu, to)
/-- The first of a list for which it is true. -/
def idxB {α : Type} (f : α → Bool) (l : List α) : Option Nat := l.findIdx? f
theorem idx_none {α : Type} {f : α → Bool} {l : List α} (h : ∀ i, (hi : i < l.length) → f l[i] = false) : idxB f l = none := by
  unfold idxB
  rw [List.findIdx?_eq_none_iff]
  intro x hx
  obtain ⟨i, hi, rfl⟩ := List.getElem_of_mem hx
  exact h i hi
theorem idx_some {α : Type} {f : α → Bool} {l : List α} {k : Nat} (hk : k < l.length) (h : f l[k] = true) (h2 : ∀ i, (hi : i < k) → f (l[i]'(by omega)) = false) : idxB f l = some k := by
  unfold idxB
  rw [List.findIdx?_eq_some_iff_getElem]
  exact ⟨hk, h, fun j hj => by rw [h2 j hj]; simp⟩
theorem getD_el {α : Type} {l : List α} {d : α} {i : Nat} (h : i < l.length) : l.getD i d = l[i] := by
  rw [List.getD_eq_getElem?_getD, List.getElem?_eq_getElem h]; rfl
end Go.Proofs.Ytcifdianinbkeaa.Lg
set_option linter.unusedVariables false
set_option linter.unusedSimpArgs false
namespace Go.Proofs.Ytcifdianinbkeaa.Lg
open Go Go.RowKit Go.Proofs.Ytcifdianinbkeaa.WirePure Go.Proofs.Ytcifdianinbkeaa.PlanPure
set_option maxRecDepth 100000 in
set_option maxHeartbeats 1000000 in
theorem rNeg_c (w : World) (x : Int) :
    Calls Try.prog 86 [.int .i64 x].toArray w (Ret (fun v' w' => w = w' ∧ v' = .bool (decide (x < 0)))) := by
  refine Zb Try.func86 rfl rfl rfl (Zs (Za rfl (Zt (Zm rfl (Zr (run_lss rfl rfl) rfl (Za rfl (Zj (St_ret (Jm_ret1 rfl rfl ?_)))))))))
  exact ⟨_, rfl, rfl, by first | rfl | simp⟩
set_option maxRecDepth 100000 in
set_option maxHeartbeats 1000000 in
theorem IndexNeg_c (w : World) (A : Option Addr) (n c : Nat) (l : List Int) (hr : Rd w A n c 1 (KI.flat l)) (hn : n ≤ 9223372036854775807) :
    Calls Try.prog 91 [.slice A n c, .func (.func 86) #[] #[]].toArray w (Ret (fun v' w' => ∃ k : Int, v' = .int .i64 k ∧ (0 ≤ k ↔ ∃ x ∈ l, x < 0) ∧ Sat w w' [])) := by
  have hs := Sat.start w
  have hl := lenKI hr
  refine Zb Try.func91 rfl rfl rfl (Zs (Za rfl (Zj (St_seq (Zs (Zm rfl (Zr (run_len un25 rfl) rfl (Zm rfl (Zj (St_block ?_))))))))))
  obtain ⟨En1, hEn1⟩ := ex1 fun (i : Nat) => ([(0, .slice A n c), (1, .func (.func 86) #[] #[]), (7, .int .i64 (n : Int)), (8, .int .i64 (i : Int))] : Env)
  obtain ⟨Iv2, hIv2⟩ := ew1 fun (i : Nat) (wr : World) => Sat w wr [] ∧ i ≤ n ∧ ∀ q, q < i → ¬ (l.getD q 0 < 0)
  obtain ⟨ms3, hms3⟩ := ex1 fun (i : Nat) => (n - i : Nat)
  refine St_loop En1 Iv2 ms3 (0) ?_ ?_ ?_
  · rw [hIv2]
    exact ⟨hs, by omega, fun q hq => by omega⟩
  · rw [hEn1]; exact sE ⟨rfl, rfl, rfl, rfl, trivial⟩
  rintro i wr hI4
  rw [hIv2] at hI4
  obtain ⟨hs, hi, hno⟩ := hI4
  refine St_eqE (hEn1 _) (Zs (Zr (run_lss rfl rfl) rfl (Zj (St_seq (St_ifP rfl (fun h5 => ?_) (fun h5 => ?_))))))
  · refine St_skip (Zq (St_seq (St_block (Zs (Zm rfl (Za rfl (Zt (Zm rfl (Zm rfl (Zm rfl (Ls_index (KI) (hr.inB hs) un25 inf3 rfl rfl (by omega) (by omega) (show _ = l.getD i 0 from rfl) rfl (fun b6 o7 hc8 => (Zl sc3 rfl (hc8 0 _ rfl) (Ls_callv (cap := []) Try.func86 nm86 rfl rfl rfl (rNeg_c wr (l.getD i 0)) rfl ?_))))))))))))))
    rintro v9 w10 ⟨rfl, rfl⟩
    refine Zj (St_ifP rfl (fun h11 => ?_) (fun h11 => ?_))
    · refine Zs (Zm rfl (Za rfl (Zj (St_ret (Jm_block_ret (Jm_then_ret (Jm_then_ret (Jm_block_ret (Jm_then_ret (Jm_ret1 rfl rfl ?_))))))))))
      exact ⟨_, rfl, _, rfl, ⟨fun _ => ⟨l.getD i 0, getD_mem3 (by omega), by assumption⟩, fun _ => by omega⟩, hs⟩
    refine St_skip (Jm_block_normal (Zq (St_region (Zr (run_add rfl rfl (w64 (by omega))) rfl (Zm rfl (Ls_nil (Jm_round (i + 1) ?_ ?_ ?_)))))))
    · rw [hEn1]; exact sE ⟨rfl, rfl, rfl, rfl, trivial⟩
    · rw [hIv2]
      refine ⟨hs, by omega, fun q hq => ?_⟩
      by_cases e : q = i
      · subst e; assumption
      · exact hno q (by omega)
    rw [hms3, hms3]
    omega
  refine St_exit (Jm_then_exit (Jm_then_exit (Jm_block_same (Zq (Zs (Za rfl (Zj (St_ret (Jm_ret1 rfl rfl (⟨_, rfl, _, rfl, ⟨fun q => by omega, fun ⟨x, hx, hp⟩ => ?_⟩, hs⟩))))))))))
  obtain ⟨q, hq, rfl⟩ := List.getElem_of_mem hx
  exact absurd (by rw [getD_el (by omega)]; exact hp) (hno q (by omega))
set_option maxRecDepth 100000 in
set_option maxHeartbeats 1000000 in
theorem ContainsNeg_c (w : World) (A : Option Addr) (n c : Nat) (l : List Int) (hr : Rd w A n c 1 (KI.flat l)) (hn : n ≤ 9223372036854775807) :
    Calls Try.prog 87 [.slice A n c, .func (.func 86) #[] #[]].toArray w (Ret (fun v' w' => v' = .bool (decide (∃ x ∈ l, x < 0)) ∧ Sat w w' [])) := by
  have hs := Sat.start w
  refine Zb Try.func87 rfl rfl rfl (Zs (Za rfl (Zt (Zm rfl (Zm rfl (Zc fn91 rfl (IndexNeg_c w A n c l (hr.inB hs) hn) rfl ?_))))))
  rintro v1 w2 ⟨k, rfl, hk, hsI⟩
  replace hs := hs.T hsI
  refine Zr (run_geq rfl rfl) rfl (Za rfl (Zj (St_ret (Jm_ret1 rfl rfl ?_))))
  exact ⟨_, rfl, congrArg Value.bool (decide_eq_decide.2 hk), hs⟩
set_option maxRecDepth 100000 in
set_option maxHeartbeats 1000000 in
theorem rNz_c (w : World) (x : Int) :
    Calls Try.prog 88 [.int .i64 x].toArray w (Ret (fun v' w' => w = w' ∧ v' = .bool (decide (x ≠ 0)))) := by
  refine Zb Try.func88 rfl rfl rfl (Zs (Za rfl (Zt (Zm rfl (Zr (run_neq rfl rfl) rfl (Za rfl (Zj (St_ret (Jm_ret1 rfl rfl ?_)))))))))
  exact ⟨_, rfl, rfl, by first | rfl | simp⟩
set_option maxRecDepth 100000 in
set_option maxHeartbeats 1000000 in
theorem IndexNz_c (w : World) (A : Option Addr) (n c : Nat) (l : List Int) (hr : Rd w A n c 1 (KI.flat l)) (hn : n ≤ 9223372036854775807) :
    Calls Try.prog 91 [.slice A n c, .func (.func 88) #[] #[]].toArray w (Ret (fun v' w' => ∃ k : Int, v' = .int .i64 k ∧ (0 ≤ k ↔ ∃ x ∈ l, x ≠ 0) ∧ Sat w w' [])) := by
  have hs := Sat.start w
  have hl := lenKI hr
  refine Zb Try.func91 rfl rfl rfl (Zs (Za rfl (Zj (St_seq (Zs (Zm rfl (Zr (run_len un25 rfl) rfl (Zm rfl (Zj (St_block ?_))))))))))
  obtain ⟨En1, hEn1⟩ := ex1 fun (i : Nat) => ([(0, .slice A n c), (1, .func (.func 88) #[] #[]), (7, .int .i64 (n : Int)), (8, .int .i64 (i : Int))] : Env)
  obtain ⟨Iv2, hIv2⟩ := ew1 fun (i : Nat) (wr : World) => Sat w wr [] ∧ i ≤ n ∧ ∀ q, q < i → ¬ (l.getD q 0 ≠ 0)
  obtain ⟨ms3, hms3⟩ := ex1 fun (i : Nat) => (n - i : Nat)
  refine St_loop En1 Iv2 ms3 (0) ?_ ?_ ?_
  · rw [hIv2]
    exact ⟨hs, by omega, fun q hq => by omega⟩
  · rw [hEn1]; exact sE ⟨rfl, rfl, rfl, rfl, trivial⟩
  rintro i wr hI4
  rw [hIv2] at hI4
  obtain ⟨hs, hi, hno⟩ := hI4
  refine St_eqE (hEn1 _) (Zs (Zr (run_lss rfl rfl) rfl (Zj (St_seq (St_ifP rfl (fun h5 => ?_) (fun h5 => ?_))))))
  · refine St_skip (Zq (St_seq (St_block (Zs (Zm rfl (Za rfl (Zt (Zm rfl (Zm rfl (Zm rfl (Ls_index (KI) (hr.inB hs) un25 inf3 rfl rfl (by omega) (by omega) (show _ = l.getD i 0 from rfl) rfl (fun b6 o7 hc8 => (Zl sc3 rfl (hc8 0 _ rfl) (Ls_callv (cap := []) Try.func88 nm88 rfl rfl rfl (rNz_c wr (l.getD i 0)) rfl ?_))))))))))))))
    rintro v9 w10 ⟨rfl, rfl⟩
    refine Zj (St_ifP rfl (fun h11 => ?_) (fun h11 => ?_))
    · refine Zs (Zm rfl (Za rfl (Zj (St_ret (Jm_block_ret (Jm_then_ret (Jm_then_ret (Jm_block_ret (Jm_then_ret (Jm_ret1 rfl rfl ?_))))))))))
      exact ⟨_, rfl, _, rfl, ⟨fun _ => ⟨l.getD i 0, getD_mem3 (by omega), by assumption⟩, fun _ => by omega⟩, hs⟩
    refine St_skip (Jm_block_normal (Zq (St_region (Zr (run_add rfl rfl (w64 (by omega))) rfl (Zm rfl (Ls_nil (Jm_round (i + 1) ?_ ?_ ?_)))))))
    · rw [hEn1]; exact sE ⟨rfl, rfl, rfl, rfl, trivial⟩
    · rw [hIv2]
      refine ⟨hs, by omega, fun q hq => ?_⟩
      by_cases e : q = i
      · subst e; assumption
      · exact hno q (by omega)
    rw [hms3, hms3]
    omega
  refine St_exit (Jm_then_exit (Jm_then_exit (Jm_block_same (Zq (Zs (Za rfl (Zj (St_ret (Jm_ret1 rfl rfl (⟨_, rfl, _, rfl, ⟨fun q => by omega, fun ⟨x, hx, hp⟩ => ?_⟩, hs⟩))))))))))
  obtain ⟨q, hq, rfl⟩ := List.getElem_of_mem hx
  exact absurd (by rw [getD_el (by omega)]; exact hp) (hno q (by omega))
set_option maxRecDepth 100000 in
set_option maxHeartbeats 1000000 in
theorem ContainsNz_c (w : World) (A : Option Addr) (n c : Nat) (l : List Int) (hr : Rd w A n c 1 (KI.flat l)) (hn : n ≤ 9223372036854775807) :
    Calls Try.prog 87 [.slice A n c, .func (.func 88) #[] #[]].toArray w (Ret (fun v' w' => v' = .bool (decide (∃ x ∈ l, x ≠ 0)) ∧ Sat w w' [])) := by
  have hs := Sat.start w
  refine Zb Try.func87 rfl rfl rfl (Zs (Za rfl (Zt (Zm rfl (Zm rfl (Zc fn91 rfl (IndexNz_c w A n c l (hr.inB hs) hn) rfl ?_))))))
  rintro v1 w2 ⟨k, rfl, hk, hsI⟩
  replace hs := hs.T hsI
  refine Zr (run_geq rfl rfl) rfl (Za rfl (Zj (St_ret (Jm_ret1 rfl rfl ?_))))
  exact ⟨_, rfl, congrArg Value.bool (decide_eq_decide.2 hk), hs⟩
set_option maxRecDepth 100000 in
set_option maxHeartbeats 1000000 in
theorem right_c (w : World) (b : Int) (Ap : Option Addr) (cp : Nat) (pr : List Int) (Ac : Option Addr) (cc : Nat) (cu : List Int) (hrp : Rd w Ap pr.length cp 1 (KI.flat pr)) (hrc : Rd w Ac cu.length cc 1 (KI.flat cu)) (hzp : pr.length ≤ 1073741824) (hzc : cu.length ≤ 1073741824) :
    Calls Try.prog 76 [.agg #[.int .i64 b, .slice Ap pr.length cp, .slice Ac cu.length cc]].toArray w (Ret (fun v' w' => v' = .bool (decide (triOk b pr cu)) ∧ Sat w w' [])) := by
  have hs := Sat.start w
  refine Zb Try.func76 rfl rfl rfl (Zs (Ls_box hs rfl rfl (fun b2 w1 hs => (Za rfl (Zt (Za rfl (Zj (St_seq (Zs (Zf un51 inf3 rfl 0 rfl (Zl sc3 rfl (hs.blk_at 0 rfl 0 rfl) (Zr (run_lss rfl rfl) rfl (Zm rfl (Ls_partP (t := 7) rfl (fun h3 => ?_) (fun h3 => ?_)))))))))))))))
  · refine Zx rfl (Zx rfl (Zx rfl (Zx rfl (Zx rfl (Zx rfl (Zr (run_pick_t rfl rfl) rfl (Zm rfl (Zx rfl (Zx rfl (Zx rfl (Zx rfl (Zr (run_pick_t rfl rfl) rfl (Zj (St_ift rfl (Zs (Za rfl (Zj (St_ret (Jm_then_ret (Jm_ret1 rfl rfl (⟨_, rfl, congrArg Value.bool ?_, hs.forget⟩)))))))))))))))))))))
    first
    | (refine (decide_eq_false (fun q => ?_)).symm; obtain ⟨q1, q2, q3, q4⟩ := q; first | omega | contradiction | (obtain ⟨x, hx, hx2⟩ := ‹∃ x ∈ pr, x < 0›; have := q3 x hx; omega))
    | (refine (decide_eq_true ?_).symm; exact ⟨by omega, by first | assumption | exact Decidable.not_not.1 (by assumption), fun x hx => by by_cases e : 0 ≤ x; exact e; exact absurd ⟨x, hx, by omega⟩ ‹¬ ∃ x ∈ pr, x < 0›, .inl (by omega)⟩)
    | (have hp : fwd pr cu := by first | assumption | exact Decidable.not_not.1 (by assumption)
       have hneg : ∀ x ∈ pr, 0 ≤ x := fun x hx => by by_cases e : 0 ≤ x; exact e; exact absurd ⟨x, hx, by omega⟩ ‹¬ ∃ x ∈ pr, x < 0›
       have hb0 : ¬ 0 < b := by omega
       rw [← decide_not]
       refine decide_eq_decide.2 ⟨fun q => ⟨by omega, hp, hneg, .inr fun x hx => Decidable.not_not.1 fun e => q ⟨x, hx, e⟩⟩, fun q ⟨x, hx, e⟩ => e ((q.2.2.2.resolve_left hb0) x hx)⟩)
  refine Zo rfl (Zf un51 inf25 rfl 1 rfl (Zo rfl (Zl sc25 rfl (hs.blk_at 0 rfl 1 rfl) (Zo rfl (Zf un51 inf25 rfl 2 rfl (Zo rfl (Zl sc25 rfl (hs.blk_at 0 rfl 2 rfl) (Zo rfl (Zc fn19 rfl (Forward_c w1 _ _ _ pr _ _ _ cu (hrp.inB hs) (hrc.inB hs) (by omega)) rfl ?_)))))))))
  rintro v5 w6 ⟨rfl, hsF⟩
  replace hs := hs.T hsF
  refine Zo rfl (Zr (run_not rfl) rfl (Zr (run_pick_f rfl rfl) rfl (Zm rfl (Ls_partN (t := 15) rfl (fun h7 => ?_) (fun h7 => ?_)))))
  · refine Zx rfl (Zx rfl (Zx rfl (Zx rfl (Zr (run_pick_t rfl rfl) rfl (Zj (St_ift rfl (Zs (Za rfl (Zj (St_ret (Jm_then_ret (Jm_ret1 rfl rfl (⟨_, rfl, congrArg Value.bool ?_, hs.forget⟩)))))))))))))
    first
    | (refine (decide_eq_false (fun q => ?_)).symm; obtain ⟨q1, q2, q3, q4⟩ := q; first | omega | contradiction | (obtain ⟨x, hx, hx2⟩ := ‹∃ x ∈ pr, x < 0›; have := q3 x hx; omega))
    | (refine (decide_eq_true ?_).symm; exact ⟨by omega, by first | assumption | exact Decidable.not_not.1 (by assumption), fun x hx => by by_cases e : 0 ≤ x; exact e; exact absurd ⟨x, hx, by omega⟩ ‹¬ ∃ x ∈ pr, x < 0›, .inl (by omega)⟩)
    | (have hp : fwd pr cu := by first | assumption | exact Decidable.not_not.1 (by assumption)
       have hneg : ∀ x ∈ pr, 0 ≤ x := fun x hx => by by_cases e : 0 ≤ x; exact e; exact absurd ⟨x, hx, by omega⟩ ‹¬ ∃ x ∈ pr, x < 0›
       have hb0 : ¬ 0 < b := by omega
       rw [← decide_not]
       refine decide_eq_decide.2 ⟨fun q => ⟨by omega, hp, hneg, .inr fun x hx => Decidable.not_not.1 fun e => q ⟨x, hx, e⟩⟩, fun q ⟨x, hx, e⟩ => e ((q.2.2.2.resolve_left hb0) x hx)⟩)
  refine Zo rfl (Zf un51 inf25 rfl 1 rfl (Zo rfl (Zl sc25 rfl (hs.blk_at 0 rfl 1 rfl) (Zo rfl (Zm rfl (Zo rfl (Zc fn87 rfl (ContainsNeg_c w6 _ _ _ pr (hrp.inB hs) (by omega)) rfl ?_)))))))
  rintro v9 w10 ⟨rfl, hsF⟩
  replace hs := hs.T hsF
  refine Zr (run_pick_f rfl rfl) rfl (Zj (St_ifP rfl (fun h11 => ?_) (fun h11 => ?_)))
  · refine Zs (Za rfl (Zj (St_ret (Jm_then_ret (Jm_ret1 rfl rfl (⟨_, rfl, congrArg Value.bool ?_, hs.forget⟩))))))
    first
    | (refine (decide_eq_false (fun q => ?_)).symm; obtain ⟨q1, q2, q3, q4⟩ := q; first | omega | contradiction | (obtain ⟨x, hx, hx2⟩ := ‹∃ x ∈ pr, x < 0›; have := q3 x hx; omega))
    | (refine (decide_eq_true ?_).symm; exact ⟨by omega, by first | assumption | exact Decidable.not_not.1 (by assumption), fun x hx => by by_cases e : 0 ≤ x; exact e; exact absurd ⟨x, hx, by omega⟩ ‹¬ ∃ x ∈ pr, x < 0›, .inl (by omega)⟩)
    | (have hp : fwd pr cu := by first | assumption | exact Decidable.not_not.1 (by assumption)
       have hneg : ∀ x ∈ pr, 0 ≤ x := fun x hx => by by_cases e : 0 ≤ x; exact e; exact absurd ⟨x, hx, by omega⟩ ‹¬ ∃ x ∈ pr, x < 0›
       have hb0 : ¬ 0 < b := by omega
       rw [← decide_not]
       refine decide_eq_decide.2 ⟨fun q => ⟨by omega, hp, hneg, .inr fun x hx => Decidable.not_not.1 fun e => q ⟨x, hx, e⟩⟩, fun q ⟨x, hx, e⟩ => e ((q.2.2.2.resolve_left hb0) x hx)⟩)
  refine St_skip (Zq (Zs (Zf un51 inf3 rfl 0 rfl (Zl sc3 rfl (hs.blk_at 0 rfl 0 rfl) (Zr (run_gtr rfl rfl) rfl (Zm rfl (Ls_partP (t := 24) rfl (fun h12 => ?_) (fun h12 => ?_))))))))
  · refine Zx rfl (Zx rfl (Zx rfl (Zx rfl (Zr (run_pick_t rfl rfl) rfl (Za rfl (Zj (St_ret (Jm_ret1 rfl rfl (⟨_, rfl, congrArg Value.bool ?_, hs.forget⟩)))))))))
    first
    | (refine (decide_eq_false (fun q => ?_)).symm; obtain ⟨q1, q2, q3, q4⟩ := q; first | omega | contradiction | (obtain ⟨x, hx, hx2⟩ := ‹∃ x ∈ pr, x < 0›; have := q3 x hx; omega))
    | (refine (decide_eq_true ?_).symm; exact ⟨by omega, by first | assumption | exact Decidable.not_not.1 (by assumption), fun x hx => by by_cases e : 0 ≤ x; exact e; exact absurd ⟨x, hx, by omega⟩ ‹¬ ∃ x ∈ pr, x < 0›, .inl (by omega)⟩)
    | (have hp : fwd pr cu := by first | assumption | exact Decidable.not_not.1 (by assumption)
       have hneg : ∀ x ∈ pr, 0 ≤ x := fun x hx => by by_cases e : 0 ≤ x; exact e; exact absurd ⟨x, hx, by omega⟩ ‹¬ ∃ x ∈ pr, x < 0›
       have hb0 : ¬ 0 < b := by omega
       rw [← decide_not]
       refine decide_eq_decide.2 ⟨fun q => ⟨by omega, hp, hneg, .inr fun x hx => Decidable.not_not.1 fun e => q ⟨x, hx, e⟩⟩, fun q ⟨x, hx, e⟩ => e ((q.2.2.2.resolve_left hb0) x hx)⟩)
  refine Zo rfl (Zf un51 inf25 rfl 2 rfl (Zo rfl (Zl sc25 rfl (hs.blk_at 0 rfl 2 rfl) (Zo rfl (Zc fn87 rfl (ContainsNz_c w10 _ _ _ cu (hrc.inB hs) (by omega)) rfl ?_)))))
  rintro v13 w14 ⟨rfl, hsF⟩
  replace hs := hs.T hsF
  refine Zo rfl (Zr (run_not rfl) rfl (Zr (run_pick_f rfl rfl) rfl (Za rfl (Zj (St_ret (Jm_ret1 rfl rfl (⟨_, rfl, congrArg Value.bool ?_, hs.forget⟩)))))))
  first
  | (refine (decide_eq_false (fun q => ?_)).symm; obtain ⟨q1, q2, q3, q4⟩ := q; first | omega | contradiction | (obtain ⟨x, hx, hx2⟩ := ‹∃ x ∈ pr, x < 0›; have := q3 x hx; omega))
  | (refine (decide_eq_true ?_).symm; exact ⟨by omega, by first | assumption | exact Decidable.not_not.1 (by assumption), fun x hx => by by_cases e : 0 ≤ x; exact e; exact absurd ⟨x, hx, by omega⟩ ‹¬ ∃ x ∈ pr, x < 0›, .inl (by omega)⟩)
  | (have hp : fwd pr cu := by first | assumption | exact Decidable.not_not.1 (by assumption)
     have hneg : ∀ x ∈ pr, 0 ≤ x := fun x hx => by by_cases e : 0 ≤ x; exact e; exact absurd ⟨x, hx, by omega⟩ ‹¬ ∃ x ∈ pr, x < 0›
     have hb0 : ¬ 0 < b := by omega
     rw [← decide_not]
     refine decide_eq_decide.2 ⟨fun q => ⟨by omega, hp, hneg, .inr fun x hx => Decidable.not_not.1 fun e => q ⟨x, hx, e⟩⟩, fun q ⟨x, hx, e⟩ => e ((q.2.2.2.resolve_left hb0) x hx)⟩)
set_option maxRecDepth 100000 in
set_option maxHeartbeats 1000000 in
theorem Step_c (w : World) (b : Int) (Ap : Option Addr) (cp : Nat) (pr : List Int) (Ac : Option Addr) (cc : Nat) (cu : List Int) (hrp : Rd w Ap pr.length cp 1 (KI.flat pr)) (hrc : Rd w Ac cu.length cc 1 (KI.flat cu)) (hzp : pr.length ≤ 1073741824) (hzc : cu.length ≤ 1073741824) (At : Option Addr) (ct : Nat) (to : List Int) (hrt : Rd w At to.length ct 1 (KI.flat to)) (hzt : to.length ≤ 1073741824) (hb : -9223372036854775808 ≤ b ∧ b ≤ 9223372036854775807) :
    Calls Try.prog 67 [.agg #[.int .i64 b, .slice Ap pr.length cp, .slice Ac cu.length cc], .slice At to.length ct].toArray w (Ret (fun v' w' => ∃ A1 c1 A2 c2, v' = .tuple #[.agg #[.int .i64 (tstep b pr cu to).2.1, .slice A1 (tstep b pr cu to).2.2.1.length c1, .slice A2 (tstep b pr cu to).2.2.2.length c2], .int .i64 (tstep b pr cu to).1] ∧ Sat w w' [Own 3 1 (.slice A1 (tstep b pr cu to).2.2.1.length c1) (tstep b pr cu to).2.2.1.length (KI.flat (tstep b pr cu to).2.2.1), Own 3 1 (.slice A2 (tstep b pr cu to).2.2.2.length c2) (tstep b pr cu to).2.2.2.length (KI.flat (tstep b pr cu to).2.2.2)])) := by
  have hs := Sat.start w
  refine Zb Try.func67 rfl rfl rfl (Zs (Ls_box hs rfl rfl (fun b2 w1 hs => (Ls_alloc hs inf51 rfl (fun b4 w3 hs => (Za rfl (Zj (St_seq (St_block (Zs (Zr (run_load_agg agg51 inf51 rfl rfl (hs.blk_cells 1 rfl 0 3)) rfl (Zc fn76 rfl (right_c w3 b _ _ pr _ _ cu (hrp.inB hs) (hrc.inB hs) hzp hzc) rfl ?_))))))))))))
  rintro v5 w6 ⟨rfl, hsF⟩
  replace hs := hs.T hsF
  refine Zr (run_not rfl) rfl (Zm rfl (Ls_partN (t := 10) rfl (fun h7 => ?_) (fun h7 => ?_)))
  · refine Zx rfl (Zx rfl (Zx rfl (Zx rfl (Zx rfl (Zr (run_pick_t rfl rfl) rfl (Za rfl (Zj (St_ift rfl (Zs (Zr (run_buildO (pv := []) rfl (bld51 )) rfl (Ls_storeAgg hs inf51 rfl rfl rfl rfl (by simp [Value.oneCell', Value.cells]) (fun w9 hs => (Za rfl (Zj (St_ret (Jm_block_ret (Jm_then_ret (Jm_retCT rfl agg51 inf51 rfl rfl rfl (hs.blk_cells 0 rfl 0 3) ?_))))))))))))))))))
    replace hs := hs.E0.E0
    first
    | (have e : tstep b pr cu to = (70, 0, [], []) := by unfold tstep; rw [if_pos (by first | exact .inl (by assumption) | exact .inr (by assumption))]
       rw [e]; exact ⟨_, rfl, none, 0, none, 0, rfl, (hs.own_nil 3 1).own_nil 3 1⟩)
    | (have e : tstep b pr cu to = (1, 0, [], []) := by unfold tstep; rw [if_neg (by intro q; rcases q with q | q <;> first | contradiction | simp_all), if_pos (by omega)]
       rw [e]; exact ⟨_, rfl, none, 0, none, 0, rfl, (hs.own_nil 3 1).own_nil 3 1⟩)
  refine Zo rfl (Zf un51 inf25 rfl 2 rfl (Zo rfl (Zl sc25 rfl (hs.blk_at 1 rfl 2 rfl) (Zo rfl (Zm rfl (Zo rfl (Zc fn19 rfl (Forward_c w6 _ _ _ cu _ _ _ to (hrc.inB hs) (hrt.inB hs) (by omega)) rfl ?_)))))))
  rintro v10 w11 ⟨rfl, hsF⟩
  replace hs := hs.T hsF
  refine Zo rfl (Zr (run_not rfl) rfl (Zr (run_pick_f rfl rfl) rfl (Za rfl (Zj (St_ifN rfl (fun h12 => ?_) (fun h12 => ?_))))))
  · refine Zs (Zr (run_buildO (pv := []) rfl (bld51 )) rfl (Ls_storeAgg hs inf51 rfl rfl rfl rfl (by simp [Value.oneCell', Value.cells]) (fun w13 hs => (Za rfl (Zj (St_ret (Jm_block_ret (Jm_then_ret (Jm_retCT rfl agg51 inf51 rfl rfl rfl (hs.blk_cells 0 rfl 0 3) ?_)))))))))
    replace hs := hs.E0.E0
    first
    | (have e : tstep b pr cu to = (70, 0, [], []) := by unfold tstep; rw [if_pos (by first | exact .inl (by assumption) | exact .inr (by assumption))]
       rw [e]; exact ⟨_, rfl, none, 0, none, 0, rfl, (hs.own_nil 3 1).own_nil 3 1⟩)
    | (have e : tstep b pr cu to = (1, 0, [], []) := by unfold tstep; rw [if_neg (by intro q; rcases q with q | q <;> first | contradiction | simp_all), if_pos (by omega)]
       rw [e]; exact ⟨_, rfl, none, 0, none, 0, rfl, (hs.own_nil 3 1).own_nil 3 1⟩)
  refine Zs (Zf un51 inf3 rfl 0 rfl (Zl sc3 rfl (hs.blk_at 1 rfl 0 rfl) (Zr (run_geq rfl rfl) rfl (Za rfl (Zj (St_ifP rfl (fun h14 => ?_) (fun h14 => ?_)))))))
  · refine Zs (Zr (run_buildO (pv := []) rfl (bld51 )) rfl (Ls_storeAgg hs inf51 rfl rfl rfl rfl (by simp [Value.oneCell', Value.cells]) (fun w15 hs => (Za rfl (Zj (St_ret (Jm_block_ret (Jm_then_ret (Jm_retCT rfl agg51 inf51 rfl rfl rfl (hs.blk_cells 0 rfl 0 3) ?_)))))))))
    replace hs := hs.E0.E0
    first
    | (have e : tstep b pr cu to = (70, 0, [], []) := by unfold tstep; rw [if_pos (by first | exact .inl (by assumption) | exact .inr (by assumption))]
       rw [e]; exact ⟨_, rfl, none, 0, none, 0, rfl, (hs.own_nil 3 1).own_nil 3 1⟩)
    | (have e : tstep b pr cu to = (1, 0, [], []) := by unfold tstep; rw [if_neg (by intro q; rcases q with q | q <;> first | contradiction | simp_all), if_pos (by omega)]
       rw [e]; exact ⟨_, rfl, none, 0, none, 0, rfl, (hs.own_nil 3 1).own_nil 3 1⟩)
  refine St_skip (Jm_block_normal (Zq (St_seq (St_drawC 9 (fun x => Below w11.heap.size w11 x) mixed (fun w16 q17 => ?_)))))
  have hH := q17.below
  replace hs := hs.quiet q17
  refine AnC_grow hH ?_
  replace hH := Below.refl w16.heap.size w16
  refine Yr (fun _ => hH) 0 rfl (by kernel_rfl) (fun x => run_fd un51 inf3 rfl 0 rfl) (Yd hH 1 [9, 1] rfl (by kernel_rfl) (fun x hx => run_load sc3 rfl ((hs.grow hx).blk_at 1 rfl 0 rfl)) (Yr (fun _ => hH) 2 rfl (by kernel_rfl) (fun x => run_add rfl rfl (w64 (by omega))) (Yr (fun _ => hH) 3 rfl (by kernel_rfl) (fun x => run_fd un51 inf25 rfl 2 rfl) (Yd hH 4 [9, 4] rfl (by kernel_rfl) (fun x hx => run_load sc25 rfl ((hs.grow hx).blk_at 1 rfl 2 rfl)) (Yr (fun _ => hH) 6 rfl (by kernel_rfl) (fun x => run_move rfl) (AnC_only 5 (by kernel_rfl) rfl (Zc fn36 rfl (CloneI_c w16 _ _ _ cu (hrc.inB hs) (by omega)) rfl ?_)))))))
  rintro v18 w19 ⟨Ap, cp, rfl, hsC⟩
  replace hs := hs.T hsC
  replace hH := (hsC.below : Below w16.heap.size w16 w19)
  refine Ls_nil (Jm_AnC (fun _ => hH) (AnC_grow hH ?_))
  replace hH := Below.refl w19.heap.size w19
  refine AnC_only 7 (by kernel_rfl) rfl (Zc fn36 rfl (CloneI_c w19 _ _ _ to (hrt.inB hs) (by omega)) rfl ?_)
  rintro v20 w21 ⟨Aq, cq, rfl, hsC⟩
  replace hs := hs.T hsC
  replace hH := (hsC.below : Below w19.heap.size w19 w21)
  refine Ls_nil (Jm_AnC (fun _ => hH) (AnC_grow hH ?_))
  replace hH := Below.refl w21.heap.size w21
  refine Yr (fun _ => hH) 8 rfl (by kernel_rfl) (fun x => run_buildO (pv := [(0, _), (1, _), (2, _)]) rfl (bld51_0_1_2 _ _ _ _ _ _ _)) (AnC_only 9 (by kernel_rfl) rfl ?_)
  replace hs := hs.F2
  refine Ls_storeAgg hs inf51 rfl rfl rfl rfl (by simp [Value.oneCell', Value.cells]) (fun w22 hs => (Ls_nil (Jm_AnC_closed (by kernel_rfl) (AnC_switch (H' := fun x => Below w22.heap.size w22 x) 11 (by kernel_rfl) ?_))))
  replace hH := Below.refl w22.heap.size w22
  refine Yr (fun _ => hH) 10 rfl (by kernel_rfl) (fun x => run_assign rfl) (AnC_done (by kernel_rfl) (Zq (St_ret (Jm_retCT rfl agg51 inf51 rfl rfl rfl (hs.blk_cells 0 rfl 0 3) ?_))))
  replace hs := hs.E0.E2.F1
  have e : tstep b pr cu to = (0, b + 1, cu, to) := by
    unfold tstep
    rw [if_neg (by intro q; rcases q with q | q <;> first | contradiction | simp_all), if_neg (by omega)]
  rw [e]
  exact ⟨_, rfl, _, _, _, _, rfl, hs⟩
set_option maxRecDepth 100000 in
set_option maxHeartbeats 1000000 in
theorem CloneT_c (w : World) (A : Option Addr) (n c : Nat) (l : List TT) (hr : Rd w A n c 7 (KT.flat l)) (hn : n ≤ 67108864) :
    Calls Try.prog 38 [.slice A n c].toArray w (Ret (fun v' w' => ∃ A' c', v' = .slice A' n c' ∧ Sat w w' [Own 43 7 v' n (KT.flat l)])) := by
  have hs := Sat.start w
  have hl := lenKT hr
  have hnc := hr.cap
  refine Zb Try.func38 rfl rfl rfl (Zs (Za rfl (Zj (St_seq (Zs (Zm rfl (Zr (run_eql_slice_nil un44 rfl rfl) rfl (Zj (St_if rfl (fun h1 => ?_) (fun h1 => ?_))))))))))
  · refine Zs (Za rfl (Zj (St_ret (Jm_then_ret (Jm_ret1 rfl rfl ?_)))))
    have hA : A = none := by simpa using h1
    have hc := hr.nil hA
    have hn0 : n = 0 := by omega
    have hl0 : l = [] := List.eq_nil_of_length_eq_zero (by omega)
    subst hA hn0 hl0
    exact ⟨_, rfl, _, _, rfl, hs.own_nil _ _⟩
  refine St_skip (Zq (Zs (Ls_literal [] hs un44 inf43 rfl rfl rfl rfl rfl rfl (fun b2 w3 hs => ?_))))
  simp only [List.flatMap_cons, List.flatMap_nil, Value.cells, List.cons_append, List.nil_append] at hs
  replace hs := Sat.own_block hs 7 0 rfl (by decide)
  refine Zm rfl (Ls_append hs un44 inf43 rfl (by decide) (by decide) rfl rfl (hr.inB hs) (flatKT_one _) (by omega) rfl (fun A4 c5 w6 hs => (Za rfl (Zj (St_ret (Jm_ret1 rfl rfl ?_))))))
  simp only [Nat.zero_add, List.nil_append] at hs ⊢
  exact ⟨_, rfl, _, _, rfl, hs⟩
set_option maxRecDepth 100000 in
set_option maxHeartbeats 1000000 in
theorem CloneO_c (w : World) (A : Option Addr) (n c : Nat) (l : List (Int × Int × Nat)) (hr : Rd w A n c 3 (KOp.flat l)) (hn : n ≤ 67108864) :
    Calls Try.prog 46 [.slice A n c].toArray w (Ret (fun v' w' => ∃ A' c', v' = .slice A' n c' ∧ Sat w w' [Own 94 3 v' n (KOp.flat l)])) := by
  have hs := Sat.start w
  have hl := lenKOp hr
  have hnc := hr.cap
  refine Zb Try.func46 rfl rfl rfl (Zs (Za rfl (Zj (St_seq (Zs (Zm rfl (Zr (run_eql_slice_nil un22 rfl rfl) rfl (Zj (St_if rfl (fun h1 => ?_) (fun h1 => ?_))))))))))
  · refine Zs (Za rfl (Zj (St_ret (Jm_then_ret (Jm_ret1 rfl rfl ?_)))))
    have hA : A = none := by simpa using h1
    have hc := hr.nil hA
    have hn0 : n = 0 := by omega
    have hl0 : l = [] := List.eq_nil_of_length_eq_zero (by omega)
    subst hA hn0 hl0
    exact ⟨_, rfl, _, _, rfl, hs.own_nil _ _⟩
  refine St_skip (Zq (Zs (Ls_literal [] hs un22 inf94 rfl rfl rfl rfl rfl rfl (fun b2 w3 hs => ?_))))
  simp only [List.flatMap_cons, List.flatMap_nil, Value.cells, List.cons_append, List.nil_append] at hs
  replace hs := Sat.own_block hs 3 0 rfl (by decide)
  refine Zm rfl (Ls_append hs un22 inf94 rfl (by decide) (by decide) rfl rfl (hr.inB hs) (flatKOp_one _) (by omega) rfl (fun A4 c5 w6 hs => (Za rfl (Zj (St_ret (Jm_ret1 rfl rfl ?_))))))
  simp only [Nat.zero_add, List.nil_append] at hs ⊢
  exact ⟨_, rfl, _, _, rfl, hs⟩
set_option maxRecDepth 100000 in
set_option maxHeartbeats 1000000 in
theorem cabout_c (w : World) (x : MC) (p : MP) (t : TT) (ph : Int) :
    Calls Try.prog 64 [.agg #[.int .i64 x.k, .int .i64 x.f, .int .i64 x.t, .int .i64 x.b, .int .i64 x.a, .int .i64 x.c, .slice p.eA p.en p.ec, .slice p.kA p.kn p.kc, .slice p.pA p.pn p.pc], .agg #[.int .i64 t.1.b, .int .i64 t.1.a, .int .i64 t.1.nd, .int .i64 t.1.ph, .int .i64 t.1.ti, .slice t.2.fA t.1.fr.length t.2.fc, .slice t.2.tA t.1.to.length t.2.tc], .int .i64 ph].toArray w (Ret (fun v' w' => v' = .bool (decide (abt x t.1 ph)) ∧ Sat w w' [])) := by
  have hs := Sat.start w
  refine Zb Try.func64 rfl rfl rfl (Zs (Ls_box hs rfl rfl (fun b2 w1 hs => (Ls_box hs rfl rfl (fun b4 w3 hs => (Za rfl (Zt (Zf un43 inf3 rfl 0 rfl (Zl sc3 rfl (hs.blk_at 0 rfl 0 rfl) (Zf un41 inf3 rfl 3 rfl (Zl sc3 rfl (hs.blk_at 1 rfl 3 rfl) (Zr (run_eql rfl rfl) rfl (Zm rfl (Ls_partP (t := 12) rfl (fun h5 => ?_) (fun h5 => ?_)))))))))))))))
  · refine Zo rfl (Zf un43 inf3 rfl 1 rfl (Zo rfl (Zl sc3 rfl (hs.blk_at 0 rfl 1 rfl) (Zo rfl (Zf un41 inf3 rfl 4 rfl (Zo rfl (Zl sc3 rfl (hs.blk_at 1 rfl 4 rfl) (Zo rfl (Zr (run_eql rfl rfl) rfl (Zr (run_pick_t rfl rfl) rfl (Zm rfl (Ls_partP (t := 19) rfl (fun h6 => ?_) (fun h6 => ?_)))))))))))))
    · refine Zo rfl (Zf un43 inf3 rfl 2 rfl (Zo rfl (Zl sc3 rfl (hs.blk_at 0 rfl 2 rfl) (Zo rfl (Zf un41 inf3 rfl 1 rfl (Zo rfl (Zl sc3 rfl (hs.blk_at 1 rfl 1 rfl) (Zo rfl (Zr (run_eql rfl rfl) rfl (Zr (run_pick_t rfl rfl) rfl (Zm rfl (Ls_partP (t := 26) rfl (fun h7 => ?_) (fun h7 => ?_)))))))))))))
      · refine Zo rfl (Zf un43 inf3 rfl 3 rfl (Zo rfl (Zl sc3 rfl (hs.blk_at 0 rfl 3 rfl) (Zo rfl (Zm rfl (Zo rfl (Zr (run_eql rfl rfl) rfl (Zr (run_pick_t rfl rfl) rfl (Za rfl (Zj (St_ret (Jm_ret1 rfl rfl (⟨_, rfl, congrArg Value.bool ?_, hs.forget⟩)))))))))))))
        unfold abt
        first | (refine (decide_eq_false (fun q => ?_)).symm; omega) | (refine decide_eq_decide.2 ?_; constructor <;> intro q <;> omega)
      refine Zx rfl (Zx rfl (Zx rfl (Zx rfl (Zr (run_pick_f rfl rfl) rfl (Za rfl (Zj (St_ret (Jm_ret1 rfl rfl (⟨_, rfl, congrArg Value.bool ?_, hs.forget⟩)))))))))
      unfold abt
      first | (refine (decide_eq_false (fun q => ?_)).symm; omega) | (refine decide_eq_decide.2 ?_; constructor <;> intro q <;> omega)
    refine Zx rfl (Zx rfl (Zx rfl (Zx rfl (Zx rfl (Zr (run_pick_f rfl rfl) rfl (Zm rfl (Zx rfl (Zx rfl (Zx rfl (Zx rfl (Zr (run_pick_f rfl rfl) rfl (Za rfl (Zj (St_ret (Jm_ret1 rfl rfl (⟨_, rfl, congrArg Value.bool ?_, hs.forget⟩))))))))))))))))
    unfold abt
    first | (refine (decide_eq_false (fun q => ?_)).symm; omega) | (refine decide_eq_decide.2 ?_; constructor <;> intro q <;> omega)
  refine Zx rfl (Zx rfl (Zx rfl (Zx rfl (Zx rfl (Zr (run_pick_f rfl rfl) rfl (Zm rfl (Zx rfl (Zx rfl (Zx rfl (Zx rfl (Zx rfl (Zr (run_pick_f rfl rfl) rfl (Zm rfl (Zx rfl (Zx rfl (Zx rfl (Zx rfl (Zr (run_pick_f rfl rfl) rfl (Za rfl (Zj (St_ret (Jm_ret1 rfl rfl (⟨_, rfl, congrArg Value.bool ?_, hs.forget⟩)))))))))))))))))))))))
  unfold abt
  first | (refine (decide_eq_false (fun q => ?_)).symm; omega) | (refine decide_eq_decide.2 ?_; constructor <;> intro q <;> omega)
set_option maxRecDepth 100000 in
set_option maxHeartbeats 1000000 in
theorem say_c (w : World) (k : Int) (t : TT) (A : Option Addr) (c : Nat) (es : List Int) (hre : Rd w A es.length c 1 (KI.flat es)) (hz : es.length ≤ 1073741824) :
    Calls Try.prog 37 [.int .i64 k, .agg #[.int .i64 t.1.b, .int .i64 t.1.a, .int .i64 t.1.nd, .int .i64 t.1.ph, .int .i64 t.1.ti, .slice t.2.fA t.1.fr.length t.2.fc, .slice t.2.tA t.1.to.length t.2.tc], .slice A es.length c].toArray w (Ret (fun v' w' => ∃ g Ae ce, v' = .slice (some ⟨g, 0, none⟩) 1 1 ∧ Sat w w' [Blk g [.int .i64 k, .int .i64 0, .int .i64 t.1.nd, .int .i64 t.1.b, .int .i64 t.1.a, .int .i64 0, .slice Ae es.length ce, .slice none 0 0, .slice none 0 0] 41, Own 3 1 (.slice Ae es.length ce) es.length (KI.flat es)])) := by
  have hs := Sat.start w
  refine Zb Try.func37 rfl rfl rfl (Zs (Ls_box hs rfl rfl (fun b2 w1 hs => (Za rfl (Zj (St_seq (St_draw (fun x => Below w1.heap.size w1 x) mixed (fun w3 q4 => ?_))))))))
  have hH := q4.below
  replace hs := hs.quiet q4
  refine An_grow hH ?_
  replace hH := Below.refl w3.heap.size w3
  refine Ym hH 0 rfl (by kernel_rfl) rfl (Ya hH 1 rfl (by kernel_rfl) (fun x hx => run_fd un43 inf3 rfl 2 rfl) (Ya hH 2 rfl (by kernel_rfl) (fun x hx => run_load sc3 rfl ((hs.grow hx).blk_at 0 rfl 2 rfl)) (Ya hH 3 rfl (by kernel_rfl) (fun x hx => run_fd un43 inf3 rfl 0 rfl) (Ya hH 4 rfl (by kernel_rfl) (fun x hx => run_load sc3 rfl ((hs.grow hx).blk_at 0 rfl 0 rfl)) (Ya hH 5 rfl (by kernel_rfl) (fun x hx => run_fd un43 inf3 rfl 1 rfl) (Ya hH 6 rfl (by kernel_rfl) (fun x hx => run_load sc3 rfl ((hs.grow hx).blk_at 0 rfl 1 rfl)) (Ym hH 7 rfl (by kernel_rfl) rfl (An_only 8 (by kernel_rfl) rfl (Zc fn36 rfl (CloneI_c w3 _ _ _ es (hre.inB hs) hz) rfl ?_)))))))))
  rintro v5 w6 ⟨Ae, ce, rfl, hsC⟩
  replace hs := hs.T hsC
  replace hH := (hsC.below : Below w3.heap.size w3 w6)
  refine Ls_nil (Jm_An hH (An_grow hH ?_))
  replace hH := Below.refl w6.heap.size w6
  refine Ya hH 9 rfl (by kernel_rfl) (fun x hx => run_buildO (pv := [(0, _), (2, _), (3, _), (4, _), (6, _)]) rfl (bld41_0_2_3_4_6 _ _ _ _ _ _ _)) (An_only 10 (by kernel_rfl) rfl (Ls_literal [_] (Sat.start w6) un29 inf41 rfl rfl rfl rfl rfl rfl (fun b7 w9 hsN10 => ?_)))
  replace hs := hs.T hsN10
  simp only [List.flatMap_cons, List.flatMap_nil, Value.cells, List.cons_append, List.nil_append] at hs
  replace hH := (hsN10.below : Below w6.heap.size w6 w9)
  refine Ls_nil (Jm_An hH (An_grow hH ?_))
  replace hH := Below.refl w9.heap.size w9
  refine Ya hH 11 rfl (by kernel_rfl) (fun x hx => run_assign rfl) (An_done (by kernel_rfl) (Zq (St_ret (Jm_ret1 rfl rfl ?_))))
  replace hs := hs.E2
  exact ⟨_, rfl, _, _, _, rfl, hs⟩
end Go.Proofs.Ytcifdianinbkeaa.Lg
set_option linter.unusedVariables false
set_option linter.unusedSimpArgs false
namespace Go.Proofs.Ytcifdianinbkeaa.Lg
open Go Go.RowKit Go.Proofs.Ytcifdianinbkeaa.WirePure Go.Proofs.Ytcifdianinbkeaa.PlanPure
def ccells (p : PlanA) (bd bj : Nat) (A : Option Addr) (m c : Nat) (e : Bool) : List Value :=
  [.int .i64 p.pa, .int .i64 p.st, .int .i64 p.wo, .slice p.oA p.on p.oc, .int .i64 p.ag, .int .i64 p.ba, .int .i64 p.wi, .int .i64 p.gu, .pointer (some ⟨bd, 0, none⟩), .pointer (some ⟨bj, 0, none⟩), .slice A m c, .bool e]
abbrev OpL := List (Int × Int × Nat)
def CKeep (p : PlanA) (ops : OpL) (vt : List TT) : World → Prop := fun w => (∀ x ∈ vt, TRd w x) ∧ Rd w p.oA p.on p.oc 3 (KOp.flat ops)
/-- A coordinator at block bc: its tries, whether it has ended. -/
def CA (TC TY bc bd bj : Nat) (p : PlanA) (ops : OpL) (tr : List TSt) (e : Bool) : Assn := Thing (fun q : List TT × Option Addr × Nat => q.1.map Prod.fst = tr)
  (fun q => [Blk bc (ccells p bd bj q.2.1 q.1.length q.2.2 e) TC, Own TY 7 (.slice q.2.1 q.1.length q.2.2) q.1.length (KT.flat q.1), Keep (CKeep p ops q.1)])
section
variable {B w : World} {TC TY bc bd bj : Nat} {p : PlanA} {ops : OpL} {tr : List TSt} {e : Bool} {L : List Assn}
theorem Sat.copen (hs : Sat B w (CA TC TY bc bd bj p ops tr e :: L)) : ∃ (vt : List TT) (A : Option Addr) (c : Nat), vt.map Prod.fst = tr ∧
    Sat B w (Blk bc (ccells p bd bj A vt.length c e) TC :: Own TY 7 (.slice A vt.length c) vt.length (KT.flat vt) :: Keep (CKeep p ops vt) :: L) := by
  obtain ⟨⟨vt, A, c⟩, h1, h2⟩ := Sat.openObj hs
  exact ⟨vt, A, c, h1, h2⟩
theorem Sat.cshut {vt : List TT} {A : Option Addr} {c : Nat} (hv : vt.map Prod.fst = tr)
    (hs : Sat B w (Blk bc (ccells p bd bj A vt.length c e) TC :: Own TY 7 (.slice A vt.length c) vt.length (KT.flat vt) :: Keep (CKeep p ops vt) :: L)) : Sat B w (CA TC TY bc bd bj p ops tr e :: L) :=
  Sat.shutObj (M := fun q : List TT × Option Addr × Nat => [Blk bc (ccells p bd bj q.2.1 q.1.length q.2.2 e) TC, Own TY 7 (.slice q.2.1 q.1.length q.2.2) q.1.length (KT.flat q.1), Keep (CKeep p ops q.1)]) (vt, A, c) hv hs
theorem Sat.keepMono {F G : World → Prop} (hs : Sat B w (Keep F :: L)) (h : ∀ w, F w → G w) : Sat B w (Keep G :: L) :=
  Sat.toKeep (L1 := [Keep F]) (fun B w z => h w (z.kept 0 rfl)) hs
theorem Sat.kt_cell {T g n c : Nat} {vt : List TT} {M : List Assn} (hs : Sat B w M) (k : Nat) (hk : M[k]? = some (Own T 7 (.slice (some ⟨g, 0, none⟩) n c) n (KT.flat vt))) {i : Nat} (hi : i < n) {x : TT} (hx : vt.getD i T0 = x) (j : Nat) (u : Value) (hj : (tcells x)[j]? = some u) : w.cell? ⟨g, i * 7 + j, none⟩ = some u := by
  have hr := hs.rd_at k hk
  obtain ⟨b, off, e1, _, hc⟩ := hr.cells (by omega)
  cases e1
  have hl := lenKT hr
  have h := hc (i * 7 + j) u (El.flat_get KT vt i (by omega) j u (by
    have e2 : vt[i] = x := by rw [← hx, getD_el (by omega)]
    rw [e2]; exact hj))
  simpa using h
end
theorem heap_cells {w w' : World} {b T : Nat} {cs : List Value} {fr : Nat × Nat} (hd : w.heap[b]? = some (.cells cs.toArray T fr)) (hb : Below w.heap.size w w') (hl : 0 < cs.length) : ∀ j u, cs[j]? = some u → w'.cell? ⟨b, 0 + j, none⟩ = some u := by
  have h := (rd_block hd 1 cs.length (by omega)).grow hb
  obtain ⟨b', off, e, _, hc⟩ := h.cells hl
  cases e
  exact hc
theorem flatKT_set {l : List TT} {i k : Nat} {v : Value} {y : TT} (hi : i < l.length) (hk : k < 7) (hy : (tcells (l.getD i T0)).set k v = tcells y) : (KT.flat l).set (i * 7 + k) v = KT.flat (l.set i y) := by
  induction l generalizing i with
  | nil => simp at hi
  | cons x l ih =>
    have e : KT.flat (x :: l) = tcells x ++ KT.flat l := by simp [El.flat, KT]
    have hx : (tcells x).length = 7 := rfl
    cases i with
    | zero =>
      simp only [List.getD_cons_zero] at hy
      rw [e, List.set_append_left _ _ (by omega), Nat.zero_mul, Nat.zero_add, hy]
      simp [El.flat, KT]
    | succ i =>
      rw [e, show (i + 1) * 7 + k = (tcells x).length + (i * 7 + k) by omega, List.set_append_right _ _ (by omega), Nat.add_sub_cancel_left, ih (by simpa using hi) (by simpa using hy)]
      simp [El.flat, KT]
def bump (t : TSt) : TSt := if t.ph ≠ 2 then { t with ti := t.ti + 1 } else t
def bumpT (x : TT) : TT := (bump x.1, x.2)
theorem TRd_bump {w : World} {x : TT} (h : TRd w x) : TRd w (bumpT x) := by
  unfold TRd bumpT bump at *
  split <;> exact h
/-- Turned up to the i-th. -/
def uptoF {α : Type} (f : α → α) (l : List α) (i : Nat) : List α := (l.take i).map f ++ l.drop i
section
variable {α : Type} {f : α → α} {l : List α} {i : Nat} {d : α}
theorem uptoF_len : (uptoF f l i).length = l.length := by simp only [uptoF, List.length_append, List.length_map, List.length_take, List.length_drop]; omega
theorem uptoF_0 : uptoF f l 0 = l := by simp [uptoF]
theorem uptoF_all (h : l.length ≤ i) : uptoF f l i = l.map f := by unfold uptoF; rw [List.take_of_length_le h, List.drop_of_length_le h, List.append_nil]
theorem uptoF_getD (h : i < l.length) : (uptoF f l i).getD i d = l.getD i d := by
  unfold uptoF
  rw [List.getD_eq_getElem?_getD, List.getElem?_append_right (by rw [List.length_map, List.length_take]; omega), List.length_map, List.length_take, Nat.min_eq_left (by omega), Nat.sub_self, List.getElem?_drop, Nat.add_zero, ← List.getD_eq_getElem?_getD]
theorem uptoF_set (h : i < l.length) : (uptoF f l i).set i (f (l.getD i d)) = uptoF f l (i + 1) := by
  have e1 : l.drop i = l.getD i d :: l.drop (i + 1) := by rw [List.drop_eq_getElem_cons h, getD_el h]
  have e2 : l.take (i + 1) = l.take i ++ [l.getD i d] := by rw [List.take_succ_eq_append_getElem h, getD_el h]
  unfold uptoF
  rw [e1, e2, List.set_append_right _ _ (by rw [List.length_map, List.length_take]; omega), List.length_map, List.length_take, Nat.min_eq_left (by omega), Nat.sub_self, List.set_cons_zero]
  simp
theorem uptoF_same (h : i < l.length) (e : f (l.getD i d) = l.getD i d) : uptoF f l (i + 1) = uptoF f l i := by
  rw [← uptoF_set (d := d) h, e, ← uptoF_getD (f := f) (d := d) h]
  exact set_getD_same (by rw [uptoF_len]; exact h)
end
def ageT (g : Int) (tr : List TSt) : List TSt := match idxB (fun t => decide (g ≤ t.ti)) (tr.map bump) with | none => tr.map bump | some k => (tr.map bump).take k
theorem idx_map {α β : Type} {f : α → β} {g : β → Bool} {l : List α} : idxB g (l.map f) = idxB (fun x => g (f x)) l := by
  unfold idxB; rw [List.findIdx?_map]; rfl
theorem idx_lt {α : Type} {f : α → Bool} {l : List α} {k : Nat} (h : idxB f l = some k) : k < l.length := by
  unfold idxB at h
  rw [List.findIdx?_eq_some_iff_getElem] at h
  exact h.1
/-- What a coordinator sends: nothing, or one message. -/
def MO (TM TI : TypeId) (v : Value) : Option MC → Assn
  | none => fun h => v = .slice none 0 0 ∧ ∀ b, h b = none
  | some m => Thing (fun q : Nat × Option Addr × Nat => v = .slice (some ⟨q.1, 0, none⟩) 1 1) (fun q => [Blk q.1 (mcells m ⟨q.2.1, m.es.length, q.2.2, none, 0, 0, none, 0, 0⟩) TM, Own TI 1 (.slice q.2.1 m.es.length q.2.2) m.es.length (KI.flat m.es)])
section
variable {B w : World} {TM TI : Nat} {v : Value} {m : MC} {L : List Assn}
theorem Sat.toMoNone (hs : Sat B w L) : Sat B w (MO TM TI (.slice none 0 0) none :: L) := hs.addNone ⟨rfl, fun _ => rfl⟩
theorem Sat.moNone (hs : Sat B w (MO TM TI v none :: L)) : v = .slice none 0 0 ∧ Sat B w L := by
  obtain ⟨h, h2⟩ := Sat.pure (p := v = .slice none 0 0) (A := fun h => ∀ b, h b = none) hs
  exact ⟨h, h2.tail⟩
theorem Sat.moSome (hs : Sat B w (MO TM TI v (some m) :: L)) : ∃ (g : Nat) (A : Option Addr) (c : Nat), v = .slice (some ⟨g, 0, none⟩) 1 1 ∧
    Sat B w (Blk g (mcells m ⟨A, m.es.length, c, none, 0, 0, none, 0, 0⟩) TM :: Own TI 1 (.slice A m.es.length c) m.es.length (KI.flat m.es) :: L) := by
  obtain ⟨⟨g, A, c⟩, h1, h2⟩ := Sat.openObj hs
  exact ⟨g, A, c, h1, h2⟩
theorem Sat.toMoSome {g : Nat} {A : Option Addr} {c : Nat} (hs : Sat B w (Blk g (mcells m ⟨A, m.es.length, c, none, 0, 0, none, 0, 0⟩) TM :: Own TI 1 (.slice A m.es.length c) m.es.length (KI.flat m.es) :: L)) : Sat B w (MO TM TI (.slice (some ⟨g, 0, none⟩) 1 1) (some m) :: L) :=
  Sat.shutObj (M := fun q : Nat × Option Addr × Nat => [Blk q.1 (mcells m ⟨q.2.1, m.es.length, q.2.2, none, 0, 0, none, 0, 0⟩) TM, Own TI 1 (.slice q.2.1 m.es.length q.2.2) m.es.length (KI.flat m.es)]) (g, A, c) rfl hs
end
/-- A message about a try, from the coordinator. -/
def sayM (k : Int) (t : TSt) (es : List Int) : MC := ⟨k, 0, t.nd, t.b, t.a, 0, es, [], []⟩
def going (t : TSt) : TSt := { t with ph := 3, ti := 0 }
def nextN (j : JSt) : NSt := { j.n with att := j.n.att + 1 }
def newT (p : PlanA) (ops : OpL) (j : JSt) (tr : List TSt) : TSt := ⟨j.n.batch + tr.length + 1, j.n.att + 1, workerOf p ops (j.n.att + 1), 1, 0, if 0 < tr.length then (tr.getD (tr.length - 1) T0.1).to else j.n.cur, []⟩
/-- Tick: what is sent, the error, the tries, whether it has ended, the journal, the disk. -/
def ctick (p : PlanA) (ops : OpL) (tr : List TSt) (e : Bool) (j : JSt) (d : DSt) : Option MC × Int × List TSt × Bool × JSt × DSt :=
  if (e || j.ended || d.down) = true then (none, 80, tr, (e || j.ended || d.down), j, d)
  else if p.wi ≤ ((ageT p.gu tr).length : Int) ∨ (0 < (ageT p.gu tr).length ∧ ((ageT p.gu tr).getD ((ageT p.gu tr).length - 1) T0.1).ph = 1) then (none, 0, ageT p.gu tr, (e || j.ended || d.down), j, d)
  else if (jsave j d (nextN j)).1 = 0 then (some (sayM 1 (newT p ops j (ageT p.gu tr)) (newT p ops j (ageT p.gu tr)).fr), 0, ageT p.gu tr ++ [newT p ops j (ageT p.gu tr)], ((e || j.ended || d.down) || decide ((jsave j d (nextN j)).1 = 80)), (jsave j d (nextN j)).2.1, (jsave j d (nextN j)).2.2)
  else if (jsave j d (nextN j)).1 = 80 then (none, 80, ageT p.gu tr, ((e || j.ended || d.down) || decide ((jsave j d (nextN j)).1 = 80)), (jsave j d (nextN j)).2.1, (jsave j d (nextN j)).2.2)
  else (none, 0, ageT p.gu tr, ((e || j.ended || d.down) || decide ((jsave j d (nextN j)).1 = 80)), (jsave j d (nextN j)).2.1, (jsave j d (nextN j)).2.2)
theorem ageT_len (g : Int) (tr : List TSt) : (ageT g tr).length ≤ tr.length := by
  unfold ageT
  split
  · rw [List.length_map]; exact Nat.le_refl _
  · rw [List.length_take, List.length_map]; omega
theorem ageT_mem {g : Int} {tr : List TSt} {t : TSt} (h : t ∈ ageT g tr) : ∃ s ∈ tr, t = bump s := by
  unfold ageT at h
  have : t ∈ tr.map bump := by
    split at h
    · exact h
    · exact List.mem_of_mem_take h
  obtain ⟨s, h1, h2⟩ := List.mem_map.1 this
  exact ⟨s, h1, h2.symm⟩
theorem bump_to (s : TSt) : (bump s).to = s.to ∧ (bump s).fr = s.fr := by unfold bump; split <;> exact ⟨rfl, rfl⟩
/-- Whether an end lies too far. -/
def far (ba : Int) (fr es : List Int) : Prop := ∃ k, k < es.length ∧ ba < es.getD k 0 - fr.getD k 0
instance (ba : Int) (fr es : List Int) : Decidable (far ba fr es) := by unfold far; exact inferInstance
def readied (t : TSt) (es : List Int) : TSt := { t with to := es, ph := 2, ti := 0 }
def cready (p : PlanA) (tr : List TSt) (m : MC) : Option MC × List TSt :=
  match idxB (fun t => decide (abt m t 1)) tr with
  | none => (none, tr)
  | some i =>
    if ¬ fwd (tr.getD i T0.1).fr m.es then (none, tr)
    else if far p.ba (tr.getD i T0.1).fr m.es then (none, tr)
    else if (tr.getD i T0.1).fr = m.es then (none, tr.take i)
    else if 0 < i then (none, tr.set i (readied (tr.getD i T0.1) m.es))
    else (some (sayM 3 (going (readied (tr.getD i T0.1) m.es)) m.es), tr.set i (going (readied (tr.getD i T0.1) m.es)))
def doneN (j : JSt) (to : List Int) : NSt := ⟨(tstep j.n.batch j.n.prev j.n.cur to).2.1, (tstep j.n.batch j.n.prev j.n.cur to).2.2.1, (tstep j.n.batch j.n.prev j.n.cur to).2.2.2, j.n.att⟩
def cdone (tr : List TSt) (e : Bool) (j : JSt) (d : DSt) (m : MC) : Option MC × Int × List TSt × Bool × JSt × DSt :=
  if tr = [] ∨ ¬ abt m (tr.getD 0 T0.1) 3 ∨ (tr.getD 0 T0.1).to ≠ m.es then (none, 0, tr, e, j, d)
  else if (tstep j.n.batch j.n.prev j.n.cur (tr.getD 0 T0.1).to).1 ≠ 0 then (none, 0, tr, e, j, d)
  else if (jsave j d (doneN j (tr.getD 0 T0.1).to)).1 = 0 then
    (if 0 < (tr.drop 1).length ∧ ((tr.drop 1).getD 0 T0.1).ph = 2 then (some (sayM 3 (going ((tr.drop 1).getD 0 T0.1)) ((tr.drop 1).getD 0 T0.1).to), 0, (tr.drop 1).set 0 (going ((tr.drop 1).getD 0 T0.1)), (e || decide ((jsave j d (doneN j (tr.getD 0 T0.1).to)).1 = 80)), (jsave j d (doneN j (tr.getD 0 T0.1).to)).2.1, (jsave j d (doneN j (tr.getD 0 T0.1).to)).2.2)
     else (none, 0, tr.drop 1, (e || decide ((jsave j d (doneN j (tr.getD 0 T0.1).to)).1 = 80)), (jsave j d (doneN j (tr.getD 0 T0.1).to)).2.1, (jsave j d (doneN j (tr.getD 0 T0.1).to)).2.2))
  else if (jsave j d (doneN j (tr.getD 0 T0.1).to)).1 = 80 then (none, 80, tr, (e || decide ((jsave j d (doneN j (tr.getD 0 T0.1).to)).1 = 80)), (jsave j d (doneN j (tr.getD 0 T0.1).to)).2.1, (jsave j d (doneN j (tr.getD 0 T0.1).to)).2.2)
  else (none, 0, tr, (e || decide ((jsave j d (doneN j (tr.getD 0 T0.1).to)).1 = 80)), (jsave j d (doneN j (tr.getD 0 T0.1).to)).2.1, (jsave j d (doneN j (tr.getD 0 T0.1).to)).2.2)
def ctake (p : PlanA) (tr : List TSt) (e : Bool) (j : JSt) (d : DSt) (m : MC) : Option MC × Int × List TSt × Bool × JSt × DSt :=
  if (e || j.ended || d.down) = true then (none, 80, tr, (e || j.ended || d.down), j, d)
  else if ¬ Msound m then (none, 150, tr, (e || j.ended || d.down), j, d)
  else if m.t ≠ 0 then (none, 170, tr, (e || j.ended || d.down), j, d)
  else if m.k = 2 then ((cready p tr m).1, 0, (cready p tr m).2, (e || j.ended || d.down), j, d)
  else if m.k = 8 then cdone tr (e || j.ended || d.down) j d m
  else (none, 0, tr, (e || j.ended || d.down), j, d)
end Go.Proofs.Ytcifdianinbkeaa.Lg
set_option linter.unusedVariables false
set_option linter.unusedSimpArgs false
namespace Go.Proofs.Ytcifdianinbkeaa.Lg
open Go Go.RowKit Go.Proofs.Ytcifdianinbkeaa.WirePure Go.Proofs.Ytcifdianinbkeaa.PlanPure
theorem bchain {a b c : World} (h : Below a.heap.size a b) (k : Below b.heap.size b c) : Below a.heap.size a c := h.trans (k.mono h.size)
theorem flatKT_take (l : List TT) (i : Nat) : (KT.flat l).take (i * 7) = KT.flat (l.take i) := by
  induction l generalizing i with
  | nil => simp [El.flat]
  | cons x l ih =>
    have e : ∀ m : List TT, KT.flat (x :: m) = tcells x ++ KT.flat m := fun m => by simp [El.flat, KT]
    cases i with
    | zero => simp [El.flat]
    | succ i =>
      rw [List.take_succ_cons, e, e, show (i + 1) * 7 = (tcells x).length + i * 7 by simp [tcells]; omega, List.take_length_add_append, ih]
set_option maxRecDepth 100000 in
set_option maxHeartbeats 1000000 in
theorem age1_c (w0 w : World) (x : TT) (b1 bc bd bj : Nat) (p : PlanA) (A : Option Addr) (m c : Nat) (e : Bool) (hb0 : Below w0.heap.size w0 w) (hd1 : w0.heap[b1]? = some (.cells ([.pointer (some ⟨bc, 0, none⟩)] : List Value).toArray 28 (0, 0))) (hd2 : w0.heap[bc]? = some (.cells (ccells p bd bj A m c e).toArray 79 (0, 0))) :
    Calls Try.prog 54 [.agg #[.int .i64 x.1.b, .int .i64 x.1.a, .int .i64 x.1.nd, .int .i64 x.1.ph, .int .i64 x.1.ti, .slice x.2.fA x.1.fr.length x.2.fc, .slice x.2.tA x.1.to.length x.2.tc], .pointer (some ⟨b1, 0, none⟩)].toArray w (Ret (fun v' w' => v' = .bool (decide (p.gu ≤ x.1.ti)) ∧ Sat w w' [])) := by
  have hs := Sat.start w
  refine Zb Try.func54 rfl rfl rfl (Zs (Ls_box hs rfl rfl (fun b2 w1 hs => (Za rfl (Zj (St_seq (St_draw (fun x => Below w1.heap.size w1 x) mixed (fun w3 q4 => ?_))))))))
  have hH := q4.below
  replace hs := hs.quiet q4
  refine An_grow hH ?_
  replace hH := Below.refl w3.heap.size w3
  refine Ya hH 0 rfl (by kernel_rfl) (fun x hx => run_fd un43 inf3 rfl 4 rfl) (Ya hH 1 rfl (by kernel_rfl) (fun x hx => run_load sc3 rfl ((hs.grow hx).blk_at 0 rfl 4 rfl)) (Ya hH 2 rfl (by kernel_rfl) (fun x hx => run_load sc28 rfl (heap_cells hd1 (bchain hb0 (bchain hs.below hx)) (Nat.succ_pos _) 0 _ rfl)) (Ya hH 3 rfl (by kernel_rfl) (fun x hx => run_nilCheck rfl) (Ya hH 4 rfl (by kernel_rfl) (fun x hx => run_fd un79 inf24 rfl 0 rfl) (Ya hH 5 rfl (by kernel_rfl) (fun x hx => run_fd un24 inf3 rfl 7 rfl) (Ya hH 6 rfl (by kernel_rfl) (fun x hx => run_load sc3 rfl (heap_cells hd2 (bchain hb0 (bchain hs.below hx)) (Nat.succ_pos _) 7 _ rfl)) (Ya hH 7 rfl (by kernel_rfl) (fun x hx => run_geq rfl rfl) (Ya hH 8 rfl (by kernel_rfl) (fun x hx => run_assign rfl) (An_done (by kernel_rfl) (Zq (St_ret (Jm_ret1 rfl rfl ?_))))))))))))
  exact ⟨_, rfl, by first | rfl | simp, hs.forget⟩
set_option maxRecDepth 100000 in
set_option maxHeartbeats 1000000 in
theorem IndexAge_c (w : World) (A : Option Addr) (n c : Nat) (vt : List TT) (hr : Rd w A n c 7 (KT.flat vt)) (hn : n ≤ 9223372036854775807) (cp : Value) (f : TSt → Bool) (hcl : ∀ (w' : World) (x : TT), Below w.heap.size w w' → Calls Try.prog 54 [.agg #[.int .i64 x.1.b, .int .i64 x.1.a, .int .i64 x.1.nd, .int .i64 x.1.ph, .int .i64 x.1.ti, .slice x.2.fA x.1.fr.length x.2.fc, .slice x.2.tA x.1.to.length x.2.tc], cp].toArray w' (Ret fun v w'' => v = .bool (f x.1) ∧ Sat w' w'' [])) :
    Calls Try.prog 55 [.slice A n c, .func (.func 54) #[] [cp].toArray].toArray w (Ret (fun v' w' => ∃ k : Int, v' = .int .i64 k ∧ ((k < 0 ∧ idxB (fun x : TT => f x.1) vt = none) ∨ ∃ q : Nat, k = (q : Int) ∧ q < n ∧ idxB (fun x : TT => f x.1) vt = some q) ∧ Sat w w' [])) := by
  have hs := Sat.start w
  have hl := lenKT hr
  refine Zb Try.func55 rfl rfl rfl (Zs (Za rfl (Zj (St_seq (Zs (Zm rfl (Zr (run_len un44 rfl) rfl (Zm rfl (Zj (St_block ?_))))))))))
  obtain ⟨En1, hEn1⟩ := ex1 fun (i : Nat) => ([(0, .slice A n c), (1, .func (.func 54) #[] [cp].toArray), (7, .int .i64 (n : Int)), (8, .int .i64 (i : Int))] : Env)
  obtain ⟨Iv2, hIv2⟩ := ew1 fun (i : Nat) (wr : World) => Sat w wr [] ∧ i ≤ n ∧ ∀ q, q < i → f (vt.getD q T0).1 = false
  obtain ⟨ms3, hms3⟩ := ex1 fun (i : Nat) => (n - i : Nat)
  refine St_loop En1 Iv2 ms3 (0) ?_ ?_ ?_
  · rw [hIv2]
    exact ⟨hs, by omega, fun q hq => by omega⟩
  · rw [hEn1]; exact sE ⟨rfl, rfl, rfl, rfl, trivial⟩
  rintro i wr hI4
  rw [hIv2] at hI4
  obtain ⟨hs, hi, hno⟩ := hI4
  refine St_eqE (hEn1 _) (Zs (Zr (run_lss rfl rfl) rfl (Zj (St_seq (St_ifP rfl (fun h5 => ?_) (fun h5 => ?_))))))
  · refine St_skip (Zq (St_seq (St_block (Zs (Zm rfl (Za rfl (Zt (Zm rfl (Zm rfl (Zm rfl (Ls_index (KT) (hr.inB hs) un44 inf43 rfl rfl (by omega) (by omega) (show _ = vt.getD i T0 from rfl) rfl (fun b6 o7 hc8 => (Zr (run_as (run_load_agg agg43 inf43 rfl rfl hc8) (show _ = Value.agg #[.int .i64 (vt.getD i T0).1.b, .int .i64 (vt.getD i T0).1.a, .int .i64 (vt.getD i T0).1.nd, .int .i64 (vt.getD i T0).1.ph, .int .i64 (vt.getD i T0).1.ti, .slice (vt.getD i T0).2.fA (vt.getD i T0).1.fr.length (vt.getD i T0).2.fc, .slice (vt.getD i T0).2.tA (vt.getD i T0).1.to.length (vt.getD i T0).2.tc] from rfl)) rfl (Ls_callv (cap := [cp]) Try.func54 nm54 rfl rfl rfl (hcl wr (vt.getD i T0) hs.below) rfl ?_))))))))))))))
    rintro v9 w10 ⟨rfl, hsQ⟩
    replace hs := hs.T hsQ
    refine Zj (St_if rfl (fun h11 => ?_) (fun h11 => ?_))
    · refine Zs (Zm rfl (Za rfl (Zj (St_ret (Jm_block_ret (Jm_then_ret (Jm_then_ret (Jm_block_ret (Jm_then_ret (Jm_ret1 rfl rfl ?_))))))))))
      exact ⟨_, rfl, _, rfl, .inr ⟨i, rfl, by omega, idx_some (by omega) (by rw [← getD_el (d := T0)]; assumption) (fun q hq => by rw [← getD_el (d := T0)]; exact hno q hq)⟩, hs⟩
    refine St_skip (Jm_block_normal (Zq (St_region (Zr (run_add rfl rfl (w64 (by omega))) rfl (Zm rfl (Ls_nil (Jm_round (i + 1) ?_ ?_ ?_)))))))
    · rw [hEn1]; exact sE ⟨rfl, rfl, rfl, rfl, trivial⟩
    · rw [hIv2]
      refine ⟨hs, by omega, fun q hq => ?_⟩
      by_cases e : q = i
      · subst e; assumption
      · exact hno q (by omega)
    rw [hms3, hms3]
    omega
  refine St_exit (Jm_then_exit (Jm_then_exit (Jm_block_same (Zq (Zs (Za rfl (Zj (St_ret (Jm_ret1 rfl rfl ?_)))))))))
  exact ⟨_, rfl, _, rfl, .inl ⟨by omega, idx_none (fun q hq => by rw [← getD_el (d := T0)]; exact hno q (by omega))⟩, hs⟩
set_option maxRecDepth 100000 in
set_option maxHeartbeats 1000000 in
theorem IndexReady_c (w : World) (A : Option Addr) (n c : Nat) (vt : List TT) (hr : Rd w A n c 7 (KT.flat vt)) (hn : n ≤ 9223372036854775807) (cp : Value) (f : TSt → Bool) (hcl : ∀ (w' : World) (x : TT), Below w.heap.size w w' → Calls Try.prog 63 [.agg #[.int .i64 x.1.b, .int .i64 x.1.a, .int .i64 x.1.nd, .int .i64 x.1.ph, .int .i64 x.1.ti, .slice x.2.fA x.1.fr.length x.2.fc, .slice x.2.tA x.1.to.length x.2.tc], cp].toArray w' (Ret fun v w'' => v = .bool (f x.1) ∧ Sat w' w'' [])) :
    Calls Try.prog 55 [.slice A n c, .func (.func 63) #[] [cp].toArray].toArray w (Ret (fun v' w' => ∃ k : Int, v' = .int .i64 k ∧ ((k < 0 ∧ idxB (fun x : TT => f x.1) vt = none) ∨ ∃ q : Nat, k = (q : Int) ∧ q < n ∧ idxB (fun x : TT => f x.1) vt = some q) ∧ Sat w w' [])) := by
  have hs := Sat.start w
  have hl := lenKT hr
  refine Zb Try.func55 rfl rfl rfl (Zs (Za rfl (Zj (St_seq (Zs (Zm rfl (Zr (run_len un44 rfl) rfl (Zm rfl (Zj (St_block ?_))))))))))
  obtain ⟨En1, hEn1⟩ := ex1 fun (i : Nat) => ([(0, .slice A n c), (1, .func (.func 63) #[] [cp].toArray), (7, .int .i64 (n : Int)), (8, .int .i64 (i : Int))] : Env)
  obtain ⟨Iv2, hIv2⟩ := ew1 fun (i : Nat) (wr : World) => Sat w wr [] ∧ i ≤ n ∧ ∀ q, q < i → f (vt.getD q T0).1 = false
  obtain ⟨ms3, hms3⟩ := ex1 fun (i : Nat) => (n - i : Nat)
  refine St_loop En1 Iv2 ms3 (0) ?_ ?_ ?_
  · rw [hIv2]
    exact ⟨hs, by omega, fun q hq => by omega⟩
  · rw [hEn1]; exact sE ⟨rfl, rfl, rfl, rfl, trivial⟩
  rintro i wr hI4
  rw [hIv2] at hI4
  obtain ⟨hs, hi, hno⟩ := hI4
  refine St_eqE (hEn1 _) (Zs (Zr (run_lss rfl rfl) rfl (Zj (St_seq (St_ifP rfl (fun h5 => ?_) (fun h5 => ?_))))))
  · refine St_skip (Zq (St_seq (St_block (Zs (Zm rfl (Za rfl (Zt (Zm rfl (Zm rfl (Zm rfl (Ls_index (KT) (hr.inB hs) un44 inf43 rfl rfl (by omega) (by omega) (show _ = vt.getD i T0 from rfl) rfl (fun b6 o7 hc8 => (Zr (run_as (run_load_agg agg43 inf43 rfl rfl hc8) (show _ = Value.agg #[.int .i64 (vt.getD i T0).1.b, .int .i64 (vt.getD i T0).1.a, .int .i64 (vt.getD i T0).1.nd, .int .i64 (vt.getD i T0).1.ph, .int .i64 (vt.getD i T0).1.ti, .slice (vt.getD i T0).2.fA (vt.getD i T0).1.fr.length (vt.getD i T0).2.fc, .slice (vt.getD i T0).2.tA (vt.getD i T0).1.to.length (vt.getD i T0).2.tc] from rfl)) rfl (Ls_callv (cap := [cp]) Try.func63 nm63 rfl rfl rfl (hcl wr (vt.getD i T0) hs.below) rfl ?_))))))))))))))
    rintro v9 w10 ⟨rfl, hsQ⟩
    replace hs := hs.T hsQ
    refine Zj (St_if rfl (fun h11 => ?_) (fun h11 => ?_))
    · refine Zs (Zm rfl (Za rfl (Zj (St_ret (Jm_block_ret (Jm_then_ret (Jm_then_ret (Jm_block_ret (Jm_then_ret (Jm_ret1 rfl rfl ?_))))))))))
      exact ⟨_, rfl, _, rfl, .inr ⟨i, rfl, by omega, idx_some (by omega) (by rw [← getD_el (d := T0)]; assumption) (fun q hq => by rw [← getD_el (d := T0)]; exact hno q hq)⟩, hs⟩
    refine St_skip (Jm_block_normal (Zq (St_region (Zr (run_add rfl rfl (w64 (by omega))) rfl (Zm rfl (Ls_nil (Jm_round (i + 1) ?_ ?_ ?_)))))))
    · rw [hEn1]; exact sE ⟨rfl, rfl, rfl, rfl, trivial⟩
    · rw [hIv2]
      refine ⟨hs, by omega, fun q hq => ?_⟩
      by_cases e : q = i
      · subst e; assumption
      · exact hno q (by omega)
    rw [hms3, hms3]
    omega
  refine St_exit (Jm_then_exit (Jm_then_exit (Jm_block_same (Zq (Zs (Za rfl (Zj (St_ret (Jm_ret1 rfl rfl ?_)))))))))
  exact ⟨_, rfl, _, rfl, .inl ⟨by omega, idx_none (fun q hq => by rw [← getD_el (d := T0)]; exact hno q (by omega))⟩, hs⟩
set_option maxRecDepth 100000 in
set_option maxHeartbeats 1000000 in
theorem age_c (B w : World) (L : List Assn) (bc bd bj : Nat) (p : PlanA) (ops : OpL) (tr : List TSt) (e : Bool) (hs : Sat B w (CA 79 43 bc bd bj p ops tr e :: L)) (hti : ∀ t ∈ tr, -4611686018427387904 ≤ t.ti ∧ t.ti ≤ 4611686018427387904) (hwn : tr.length ≤ 1024) :
    Calls Try.prog 33 [.pointer (some ⟨bc, 0, none⟩)].toArray w (Ret (fun v' w' => v' = .tuple #[] ∧ Sat B w' (CA 79 43 bc bd bj p ops (ageT p.gu tr) e :: L))) := by
  obtain ⟨vt, A, c, hvt, hs⟩ := hs.copen
  have hvl : vt.length = tr.length := by rw [← hvt, List.length_map]
  refine Zb Try.func33 rfl rfl rfl (Zs (Ls_box hs rfl rfl (fun b2 w1 hs => (Zj (St_seq (Zs (Zl sc28 rfl (hs.blk_at 0 rfl 0 rfl) (Zk rfl (Zf un79 inf44 rfl 10 rfl (Zl sc44 rfl (hs.blk_at 1 rfl 10 rfl) (Zr (run_len un44 rfl) rfl (Zm rfl (Zj (St_block ?_))))))))))))))
  obtain ⟨En3, hEn3⟩ := ex1 fun (i : Nat) => ([(1, .pointer (some ⟨b2, 0, none⟩)), (9, .int .i64 (vt.length : Int)), (10, .int .i64 (i : Int))] : Env)
  obtain ⟨Iv4, hIv4⟩ := ew1 fun (i : Nat) (wr : World) => Sat B wr (Blk b2 [.pointer (some ⟨bc, 0, none⟩)] 28 :: Blk bc (ccells p bd bj A vt.length c e) 79 :: Own 43 7 (.slice A vt.length c) vt.length (KT.flat (uptoF bumpT vt i)) :: Keep (CKeep p ops vt) :: L) ∧ i ≤ vt.length
  obtain ⟨ms5, hms5⟩ := ex1 fun (i : Nat) => (vt.length - i : Nat)
  refine St_loop En3 Iv4 ms5 (0) ?_ ?_ ?_
  · rw [hIv4]
    exact ⟨by rw [uptoF_0]; exact hs, by omega⟩
  · rw [hEn3]; exact sE ⟨rfl, rfl, rfl, trivial⟩
  rintro i wr hI6
  rw [hIv4] at hI6
  obtain ⟨hs, hi⟩ := hI6
  refine St_eqE (hEn3 _) (Zs (Zr (run_lss rfl rfl) rfl (Zj (St_seq (St_ifP rfl (fun h7 => ?_) (fun h7 => ?_))))))
  · refine St_skip (Zq (St_seq (St_block (Zs (Zm rfl (Za rfl (Zt ?_)))))))
    obtain ⟨x, hx0⟩ : ∃ q, vt.getD i T0 = q := ⟨_, rfl⟩
    have hxu : (uptoF bumpT vt i).getD i T0 = x := by rw [uptoF_getD (by omega)]; exact hx0
    have hxm : x ∈ vt := by rw [← hx0]; exact getD_mem3 (by omega)
    have hxt := hti x.1 (by rw [← hvt]; exact List.mem_map_of_mem hxm)
    refine Zl sc28 rfl (hs.blk_at 0 rfl 0 rfl) (Zk rfl (Zf un79 inf44 rfl 10 rfl (Zl sc44 rfl (hs.blk_at 1 rfl 10 rfl) (Zm rfl (Ls_index (KT) (hs.rd_at 2 rfl) un44 inf43 rfl rfl (by omega) (by omega) hxu rfl (fun b8 o9 hc10 => (Zr (run_field un43 rfl inf3 (by decide) rfl) rfl (Zl sc3 rfl (hc10 3 _ rfl) (Zr (run_neq rfl rfl) rfl (Zj (St_ifP rfl (fun h11 => ?_) (fun h11 => ?_))))))))))))
    · have hph : ¬ x.1.ph = 2 := h11
      refine St_region (Zl sc28 rfl (hs.blk_at 0 rfl 0 rfl) (Zk rfl (Zf un79 inf44 rfl 10 rfl (Zl sc44 rfl (hs.blk_at 1 rfl 10 rfl) (Zm rfl (Ls_index (KT) (hs.rd_at 2 rfl) un44 inf43 rfl rfl (by omega) (by omega) hxu rfl (fun b12 o13 hc14 => (Zr (run_field un43 rfl inf3 (by decide) rfl) rfl (Zl sc3 rfl (hc14 4 _ rfl) (Zr (run_add rfl rfl (w64 (by omega))) rfl ?_))))))))))
      obtain ⟨gt, hgt⟩ := (hs.front 2 rfl).own_addr (by omega)
      subst hgt
      refine Zr (run_as (run_index un44 inf43 rfl rfl rfl (by omega) (by omega)) (show _ = Value.pointer (some ⟨gt, i * 7, none⟩) from by simp)) rfl (Zr (run_as (run_field un43 rfl inf3 (by decide) rfl) (show _ = Value.pointer (some ⟨gt, i * 7 + 4, none⟩) from by first | rfl | simp)) rfl ?_)
      replace hs := hs.F2
      refine Ls_storeOwnC hs inf3 rfl rfl rfl (by omega) (fun w15 hs => ?_)
      rw [flatKT_set (i := i) (k := 4) (y := bumpT x) (by rw [uptoF_len]; omega) (by decide) (by rw [hxu]; simp [tcells, bumpT, bump, hph])] at hs
      rw [← hx0, uptoF_set (by omega)] at hs
      refine Ls_nil (Jm_block_normal (Zq (St_region (Zr (run_add rfl rfl (w64 (by omega))) rfl (Zm rfl (Ls_nil ?_))))))
      replace hs := hs.F3.F1.F3.F3
      refine Jm_round (i + 1) ?_ ?_ ?_
      · rw [hEn3]; exact sE ⟨rfl, rfl, rfl, trivial⟩
      · rw [hIv4]
        first | exact ⟨hs, by omega⟩ | (rw [uptoF_same (d := T0) (by omega) (by rw [hx0]; simp [bumpT, bump, hph])]; exact ⟨hs, by omega⟩)
      rw [hms5, hms5]
      omega
    have hph : x.1.ph = 2 := by omega
    refine St_skip (Jm_block_normal (Zq (St_region (Zr (run_add rfl rfl (w64 (by omega))) rfl (Zm rfl (Ls_nil (Jm_round (i + 1) ?_ ?_ ?_)))))))
    · rw [hEn3]; exact sE ⟨rfl, rfl, rfl, trivial⟩
    · rw [hIv4]
      first | exact ⟨hs, by omega⟩ | (rw [uptoF_same (d := T0) (by omega) (by rw [hx0]; simp [bumpT, bump, hph])]; exact ⟨hs, by omega⟩)
    rw [hms5, hms5]
    omega
  refine St_exit (Jm_then_exit (Jm_then_exit (Jm_block_same (Zq (Zs ?_)))))
  have hi9 : i = vt.length := by omega
  rw [uptoF_all (by omega)] at hs
  obtain ⟨v2, hv2⟩ : ∃ q, vt.map bumpT = q := ⟨_, rfl⟩
  have hl2 : vt.length = v2.length := by rw [← hv2, List.length_map]
  rw [hv2, hl2] at hs
  refine Zr (run_func (cap := [_]) rfl) rfl (Za rfl (Zt (Zl sc28 rfl (hs.blk_at 0 rfl 0 rfl) (Zk rfl (Zf un79 inf44 rfl 10 rfl (Zl sc44 rfl (hs.blk_at 1 rfl 10 rfl) (Zm rfl ?_)))))))
  replace hs := hs.F3
  replace hs := hs.keepMono (G := CKeep p ops v2) (fun w h => ⟨fun y hy => by rw [← hv2] at hy; obtain ⟨z, hz, rfl⟩ := List.mem_map.1 hy; exact TRd_bump (h.1 z hz), h.2⟩)
  refine Zc fn55 rfl (IndexAge_c wr A v2.length c v2 (hs.rd_at 3 rfl) (by omega) (.pointer (some ⟨b2, 0, none⟩)) (fun t => decide (p.gu ≤ t.ti)) (fun w' x hb => age1_c wr w' x b2 bc bd bj p A v2.length c e hb (hs.is_at 1 rfl).2 (hs.is_at 2 rfl).2)) rfl ?_
  rintro v16 w17 ⟨k, rfl, hk, hsI⟩
  replace hs := hs.T hsI
  refine Za rfl (Zt (Zm rfl (Zr (run_geq rfl rfl) rfl (Zj (St_ifP rfl (fun h18 => ?_) (fun h18 => ?_))))))
  · obtain ⟨q, hkq0, hqn, hkq⟩ := hk.resolve_left (fun h9 => by omega)
    subst hkq0
    have hcpt := (hs.rd_at 3 rfl).cap
    refine St_drawC 9 (fun x => Below w17.heap.size w17 x) mixed (fun w19 q20 => ?_)
    have hH := q20.below
    replace hs := hs.quiet q20
    refine AnC_grow hH ?_
    replace hH := Below.refl w19.heap.size w19
    refine Yd hH 0 [9, 0] rfl (by kernel_rfl) (fun x hx => run_load sc28 rfl ((hs.grow hx).blk_at 1 rfl 0 rfl)) (Yd hH 1 [9, 1] rfl (by kernel_rfl) (fun x hx => run_load sc28 rfl ((hs.grow hx).blk_at 1 rfl 0 rfl)) (Yr (fun _ => hH) 2 rfl (by kernel_rfl) (fun x => run_nilCheck rfl) (Yr (fun _ => hH) 3 rfl (by kernel_rfl) (fun x => run_fd un79 inf44 rfl 10 rfl) (Yd hH 4 [9, 4] rfl (by kernel_rfl) (fun x hx => run_load sc44 rfl ((hs.grow hx).blk_at 2 rfl 10 rfl)) (Yr (fun _ => hH) 5 rfl (by kernel_rfl) (fun x => run_move rfl) (Yr (fun _ => hH) 6 rfl (by kernel_rfl) (fun x => run_slice_h un44 inf43 rfl rfl (by omega) (by omega)) (Yr (fun _ => hH) 7 rfl (by kernel_rfl) (fun x => run_nilCheck rfl) (Yr (fun _ => hH) 8 rfl (by kernel_rfl) (fun x => run_fd un79 inf44 rfl 10 rfl) (AnC_only 9 (by kernel_rfl) rfl ?_)))))))))
    replace hs := hs.F2
    refine Ls_store hs inf44 rfl rfl rfl rfl (fun w21 hs => ?_)
    try simp only [List.set_cons_zero, List.set_cons_succ] at hs
    refine Ls_nil (Jm_AnC_closed (by kernel_rfl) (AnC_switch (H' := fun x => Below w21.heap.size w21 x) 10 (by kernel_rfl) ?_))
    replace hH := Below.refl w21.heap.size w21
    refine AnC_done (by kernel_rfl) (Jm_end0 rfl ?_)
    replace hs := hs.E2.F1.F1.F2
    have hvb : v2.map Prod.fst = tr.map bump := by rw [← hv2, ← hvt, List.map_map, List.map_map]; rfl
    have h9 := hs.own_shrink q (by omega)
    rw [flatKT_take] at h9
    replace hs := h9
    replace hs := hs.F1.F2
    replace hs := hs.keepMono (G := CKeep p ops (v2.take q)) (fun w h => ⟨fun y hy => h.1 y (List.mem_of_mem_take hy), h.2⟩)
    replace hs := hs.F2.F2
    have hql : (v2.take q).length = q := by rw [List.length_take]; omega
    have eA : ageT p.gu tr = (tr.map bump).take q := by unfold ageT; rw [← hvb, idx_map, hkq]
    refine ⟨_, rfl, rfl, (Sat.cshut (vt := v2.take q) (A := A) (c := c) (by rw [eA, ← hvb, List.map_take]) ?_)⟩
    rw [hql]
    exact hs
  have hkn := (hk.resolve_right (fun ⟨q, h9, _⟩ => by omega)).2
  refine St_skip (Jm_end0 rfl ?_)
  replace hs := hs.E1.F1.F2.F2.F1.F2
  have hvb : v2.map Prod.fst = tr.map bump := by rw [← hv2, ← hvt, List.map_map, List.map_map]; rfl
  have eA : ageT p.gu tr = tr.map bump := by unfold ageT; rw [← hvb, idx_map, hkn]
  exact ⟨_, rfl, rfl, Sat.cshut (by rw [eA]; exact hvb) hs⟩
end Go.Proofs.Ytcifdianinbkeaa.Lg
set_option linter.unusedVariables false
set_option linter.unusedSimpArgs false
namespace Go.Proofs.Ytcifdianinbkeaa.Lg
open Go Go.RowKit Go.Proofs.Ytcifdianinbkeaa.WirePure Go.Proofs.Ytcifdianinbkeaa.PlanPure
set_option maxRecDepth 100000 in
set_option maxHeartbeats 1000000 in
theorem ccheck_c (B w : World) (L : List Assn) (bc bd bj : Nat) (p : PlanA) (ops : OpL) (tr : List TSt) (e : Bool) (j : JSt) (d : DSt) (hs : Sat B w (CA 79 43 bc bd bj p ops tr e :: JA 108 3 bj (some ⟨bd, 0, none⟩) j :: DiskA 122 125 5 bd d :: L)) :
    Calls Try.prog 32 [.pointer (some ⟨bc, 0, none⟩)].toArray w (Ret (fun v' w' => v' = .int .i64 (if (e || j.ended || d.down) = true then 80 else 0) ∧ Sat B w' (CA 79 43 bc bd bj p ops tr (e || j.ended || d.down) :: JA 108 3 bj (some ⟨bd, 0, none⟩) j :: DiskA 122 125 5 bd d :: L))) := by
  obtain ⟨vt, A, c, hvt, hs⟩ := hs.copen
  refine Zb Try.func32 rfl rfl rfl (Zs (Za rfl (Zj (St_seq (Zs (Zm rfl (Zr (run_asB (c := false) (run_eql_ptr_nil un28 rfl rfl) rfl) rfl (Zj (St_iff rfl (St_skip (Zq (Zs (Zm rfl (Zm rfl (Zk rfl (Zf un79 inf4 rfl 11 rfl (Zl sc4 rfl (hs.blk_at 0 rfl 11 rfl) (Zm rfl (Ls_part (t := 10) rfl (fun h2 => ?_) (fun h2 => ?_))))))))))))))))))))
  · have he1 : e = true := h2
    refine Zx rfl (Zx rfl (Zx rfl (Zx rfl (Zx rfl (Zr (run_pick_t rfl rfl) rfl (Zm rfl (Zx rfl (Zx rfl (Zx rfl (Zx rfl (Zx rfl (Zr (run_as (run_pick_t rfl rfl) (show _ = Value.bool (e || j.ended || d.down) by first | (rw [he1]; rfl) | (rw [he1, he2]; rfl))) rfl (Zk rfl (Zf un79 inf4 rfl 11 rfl (Ls_store hs inf4 rfl rfl rfl rfl (fun w3 hs => ?_))))))))))))))))
    try simp only [List.set_cons_zero, List.set_cons_succ] at hs
    refine Zj (St_seq (Zs (Zm rfl (Zk rfl (Zf un79 inf4 rfl 11 rfl (Zl sc4 rfl (hs.blk_at 0 rfl 11 rfl) (Zj (St_if rfl (fun h4 => ?_) (fun h4 => ?_)))))))))
    · refine Zs (Za rfl (Zj (St_ret (Jm_then_ret (Jm_ret1 rfl rfl ?_)))))
      replace hs := hs.F4.F4.F4.F4.F4
      exact ⟨_, rfl, by first | (rw [if_pos (by assumption)]; done) | (rw [if_neg (by rw [‹(e || j.ended || d.down) = false›]; decide)]; done), Sat.cshut hvt hs⟩
    refine St_skip (Zq (Zs (Za rfl (Zj (St_ret (Jm_ret1 rfl rfl ?_))))))
    replace hs := hs.F4.F4.F4.F4.F4
    exact ⟨_, rfl, by first | (rw [if_pos (by assumption)]; done) | (rw [if_neg (by rw [‹(e || j.ended || d.down) = false›]; decide)]; done), Sat.cshut hvt hs⟩
  have he1 : e = false := by simpa using h2
  refine Zo rfl (Zm rfl (Zo rfl (Zk rfl (Zo rfl (Zf un79 inf77 rfl 9 rfl (Zo rfl (Zl sc77 rfl (hs.blk_at 0 rfl 9 rfl) (Zo rfl ?_))))))))
  obtain ⟨Jp, jp, Jc, jc, hjq⟩ := (hs.front 3 rfl).jopen
  refine Zc fn53 rfl (Ended_c w bj _ j Jp jp Jc jc (hjq.is_at 0 rfl).2) rfl ?_
  rintro v5 w6 ⟨rfl, rfl⟩
  refine Zr (run_pick_f rfl rfl) rfl (Zm rfl (Ls_part (t := 17) rfl (fun h7 => ?_) (fun h7 => ?_)))
  · have he2 : j.ended = true := h7
    refine Zx rfl (Zx rfl (Zx rfl (Zx rfl (Zx rfl (Zr (run_as (run_pick_t rfl rfl) (show _ = Value.bool (e || j.ended || d.down) by first | (rw [he1]; rfl) | (rw [he1, he2]; rfl))) rfl (Zk rfl (Zf un79 inf4 rfl 11 rfl (Ls_store hs inf4 rfl rfl rfl rfl (fun w9 hs => ?_)))))))))
    try simp only [List.set_cons_zero, List.set_cons_succ] at hs
    refine Zj (St_seq (Zs (Zm rfl (Zk rfl (Zf un79 inf4 rfl 11 rfl (Zl sc4 rfl (hs.blk_at 0 rfl 11 rfl) (Zj (St_if rfl (fun h10 => ?_) (fun h10 => ?_)))))))))
    · refine Zs (Za rfl (Zj (St_ret (Jm_then_ret (Jm_ret1 rfl rfl ?_)))))
      replace hs := hs.F4.F4.F4.F4.F4
      exact ⟨_, rfl, by first | (rw [if_pos (by assumption)]; done) | (rw [if_neg (by rw [‹(e || j.ended || d.down) = false›]; decide)]; done), Sat.cshut hvt hs⟩
    refine St_skip (Zq (Zs (Za rfl (Zj (St_ret (Jm_ret1 rfl rfl ?_))))))
    replace hs := hs.F4.F4.F4.F4.F4
    exact ⟨_, rfl, by first | (rw [if_pos (by assumption)]; done) | (rw [if_neg (by rw [‹(e || j.ended || d.down) = false›]; decide)]; done), Sat.cshut hvt hs⟩
  have he2 : j.ended = false := by simpa using h7
  refine Zo rfl (Zm rfl (Zo rfl (Zk rfl (Zo rfl (Zf un79 inf27 rfl 8 rfl (Zo rfl (Zl sc27 rfl (hs.blk_at 0 rfl 8 rfl) (Zo rfl ?_))))))))
  obtain ⟨A0, c0, hd0⟩ := (hs.front 4 rfl).dhd
  refine Zc fn43 rfl (Down_c w bd d A0 c0 hd0) rfl ?_
  rintro v11 w12 ⟨rfl, rfl⟩
  refine Zr (run_as (run_pick_f rfl rfl) (show _ = Value.bool (e || j.ended || d.down) by first | (rw [he1]; rfl) | (rw [he1, he2]; rfl))) rfl (Zk rfl (Zf un79 inf4 rfl 11 rfl (Ls_store hs inf4 rfl rfl rfl rfl (fun w13 hs => ?_))))
  try simp only [List.set_cons_zero, List.set_cons_succ] at hs
  refine Zj (St_seq (Zs (Zm rfl (Zk rfl (Zf un79 inf4 rfl 11 rfl (Zl sc4 rfl (hs.blk_at 0 rfl 11 rfl) (Zj (St_if rfl (fun h14 => ?_) (fun h14 => ?_)))))))))
  · refine Zs (Za rfl (Zj (St_ret (Jm_then_ret (Jm_ret1 rfl rfl ?_)))))
    replace hs := hs.F4.F4.F4.F4.F4
    exact ⟨_, rfl, by first | (rw [if_pos (by assumption)]; done) | (rw [if_neg (by rw [‹(e || j.ended || d.down) = false›]; decide)]; done), Sat.cshut hvt hs⟩
  refine St_skip (Zq (Zs (Za rfl (Zj (St_ret (Jm_ret1 rfl rfl ?_))))))
  replace hs := hs.F4.F4.F4.F4.F4
  exact ⟨_, rfl, by first | (rw [if_pos (by assumption)]; done) | (rw [if_neg (by rw [‹(e || j.ended || d.down) = false›]; decide)]; done), Sat.cshut hvt hs⟩
set_option maxRecDepth 100000 in
set_option maxHeartbeats 1000000 in
theorem csave_c (B w : World) (L : List Assn) (bc bd bj : Nat) (p : PlanA) (ops : OpL) (tr : List TSt) (e : Bool) (j : JSt) (d : DSt) (hs : Sat B w (CA 79 43 bc bd bj p ops tr e :: JA 108 3 bj (some ⟨bd, 0, none⟩) j :: DiskA 122 125 5 bd d :: L)) (hjo : JOk j) (hdok : ∀ x ∈ d.bl, IsBytes x ∧ x.length ≤ 1024) (n : NSt) (Np : Option Addr) (np : Nat) (Nc : Option Addr) (nc : Nat) (hrp : ∀ w' X, Sat B w' (X :: L) → Rd w' Np n.prev.length np 1 (KI.flat n.prev)) (hrc : ∀ w' X, Sat B w' (X :: L) → Rd w' Nc n.cur.length nc 1 (KI.flat n.cur)) (hzn : n.prev.length ≤ 9223372036854775807 ∧ n.cur.length ≤ 9223372036854775807) :
    Calls Try.prog 35 [.pointer (some ⟨bc, 0, none⟩), .agg #[.int .i64 n.batch, .slice Np n.prev.length np, .slice Nc n.cur.length nc, .int .i64 n.att]].toArray w (Ret (fun v' w' => v' = .int .i64 (jsave j d n).1 ∧ Sat B w' (CA 79 43 bc bd bj p ops tr (e || decide ((jsave j d n).1 = 80)) :: JA 108 3 bj (some ⟨bd, 0, none⟩) (jsave j d n).2.1 :: DiskA 122 125 5 bd (jsave j d n).2.2 :: L))) := by
  obtain ⟨vt, A, c, hvt, hs⟩ := hs.copen
  refine Zb Try.func35 rfl rfl rfl (Zs (Ls_box hs rfl rfl (fun b2 w1 hs => (Za rfl (Zj (St_seq ?_))))))
  replace hs := hs.F1
  refine St_hold (Hold.of (Ls := [_, _]) hs) mixed (fun w3 q4 => ?_)
  replace hs := hs.quiet q4
  have hH := Hold.of (Ls := [_, _]) hs
  refine Ym hH 0 rfl (by kernel_rfl) rfl (Ya hH 1 rfl (by kernel_rfl) (fun x hx => run_nilCheck rfl) (Ya hH 2 rfl (by kernel_rfl) (fun x hx => run_fd un79 inf77 rfl 9 rfl) (Ya hH 3 rfl (by kernel_rfl) (fun x hx => run_load sc77 rfl (hx.choose_spec.blk_at 0 rfl 9 rfl)) (Ya hH 4 rfl (by kernel_rfl) (fun x hx => run_load_agg agg53 inf53 rfl rfl (hx.choose_spec.blk_cells 1 rfl 0 4)) (An_only 5 (by kernel_rfl) rfl ?_)))))
  replace hs := hs.F5.F5
  refine Zc fn57 rfl (Save_c B w3 _ bj bd j d hs hjo hdok n Np np Nc nc (fun w' X q => Sat.rdL0 (pre := [_, _, _, _, _]) hrp q) (fun w' X q => Sat.rdL0 (pre := [_, _, _, _, _]) hrc q) hzn) rfl ?_
  rintro v5 w6 ⟨rfl, hs⟩
  obtain ⟨⟨e2, j2, d2⟩, hj2⟩ : ∃ q, jsave j d n = q := ⟨_, rfl⟩
  simp only [hj2] at hs ⊢
  replace hs := hs.F3.F3
  replace hH := Hold.of (Ls := [_, _]) hs
  refine Ls_nil (Jm_An hH (Ya hH 6 rfl (by kernel_rfl) (fun x hx => run_assign rfl) (An_done (by kernel_rfl) (Zq (Zs (Zm rfl (Zm rfl (Zk rfl (Zf un79 inf4 rfl 11 rfl (Zl sc4 rfl (hs.blk_at 0 rfl 11 rfl) (Zm rfl (Ls_part (t := 17) rfl (fun h7 => ?_) (fun h7 => ?_)))))))))))))
  · have he1 : e = true := h7
    refine Zx rfl (Zx rfl (Zr (run_as (run_pick_t rfl rfl) (show _ = Value.bool (e || decide (e2 = 80)) by rw [he1]; rfl)) rfl (Zk rfl (Zf un79 inf4 rfl 11 rfl (Ls_store hs inf4 rfl rfl rfl rfl (fun w9 hs => ?_))))))
    try simp only [List.set_cons_zero, List.set_cons_succ] at hs
    refine Zt (Zm rfl (Za rfl (Zj (St_ret (Jm_ret1 rfl rfl ?_)))))
    replace hs := hs.E1.F2.F2.F4.F4.F4
    exact ⟨_, rfl, rfl, Sat.cshut hvt hs⟩
  have he1 : e = false := by simpa using h7
  refine Zo rfl (Zm rfl (Zo rfl (Zr (run_eql rfl rfl) rfl (Zr (run_as (run_pick_f rfl rfl) (show _ = Value.bool (e || decide (e2 = 80)) by rw [he1]; rfl)) rfl (Zk rfl (Zf un79 inf4 rfl 11 rfl (Ls_store hs inf4 rfl rfl rfl rfl (fun w10 hs => ?_))))))))
  try simp only [List.set_cons_zero, List.set_cons_succ] at hs
  refine Zt (Zm rfl (Za rfl (Zj (St_ret (Jm_ret1 rfl rfl ?_)))))
  replace hs := hs.E1.F2.F2.F4.F4.F4
  exact ⟨_, rfl, rfl, Sat.cshut hvt hs⟩
theorem getD_set_sameT {l : List TT} {i : Nat} {y : TT} (h : i < l.length) : (l.set i y).getD i T0 = y := by simp [List.getD_eq_getElem?_getD, h]
set_option maxRecDepth 100000 in
set_option maxHeartbeats 1000000 in
theorem cstart_c (B w : World) (L : List Assn) (bc bd bj : Nat) (p : PlanA) (ops : OpL) (tr : List TSt) (e : Bool) (hs : Sat B w (CA 79 43 bc bd bj p ops tr e :: L)) (htr : 0 < tr.length) (hzt : (tr.getD 0 T0.1).to.length ≤ 1073741824) :
    Calls Try.prog 66 [.pointer (some ⟨bc, 0, none⟩)].toArray w (Ret (fun v' w' => Sat B w' (MO 41 3 v' (some (sayM 3 (going (tr.getD 0 T0.1)) (tr.getD 0 T0.1).to)) :: CA 79 43 bc bd bj p ops (tr.set 0 (going (tr.getD 0 T0.1))) e :: L))) := by
  obtain ⟨vt, A, c, hvt, hs⟩ := hs.copen
  have hvl : vt.length = tr.length := by rw [← hvt, List.length_map]
  obtain ⟨x, hxc⟩ : ∃ q, vt.getD 0 T0 = q := ⟨_, rfl⟩
  have hxm : x ∈ vt := by rw [← hxc]; exact getD_mem3 (by omega)
  have hx1 : tr.getD 0 T0.1 = x.1 := by rw [← hvt, ← hxc, getD_el (by rw [List.length_map]; omega), getD_el (by omega), List.getElem_map]
  rw [hx1] at hzt
  refine Zb Try.func66 rfl rfl rfl (Zs (Za rfl (Zt (Zm rfl (Zk rfl (Zf un79 inf44 rfl 10 rfl (Zl sc44 rfl (hs.blk_at 0 rfl 10 rfl) ?_)))))))
  obtain ⟨gt, hgt⟩ := (hs.front 1 rfl).own_addr (by omega)
  subst hgt
  refine Zr (run_as (run_index un44 inf43 rfl rfl rfl (by omega) (by omega)) (show _ = Value.pointer (some ⟨gt, 0 * 7, none⟩) from by simp)) rfl (Za rfl (Zt (Zm rfl (Zm rfl (Zk rfl (Zr (run_as (run_field un43 rfl inf3 (by decide) rfl) (show _ = Value.pointer (some ⟨gt, 0 * 7 + 3, none⟩) from by first | rfl | simp)) rfl ?_))))))
  replace hs := hs.F1
  refine Ls_storeOwnC hs inf3 rfl rfl rfl (by omega) (fun w1 hs => ?_)
  rw [flatKT_set (i := 0) (k := 3) (y := ({ x.1 with ph := 3 }, x.2)) (by omega) (by decide) (by rw [hxc]; simp [tcells, going])] at hs
  obtain ⟨v1, hv1⟩ : ∃ q, vt.set 0 ({ x.1 with ph := 3 }, x.2) = q := ⟨_, rfl⟩
  rw [hv1] at hs
  have hlv1 : v1.length = vt.length := by rw [← hv1, List.length_set]
  replace hxc : v1.getD 0 T0 = ({ x.1 with ph := 3 }, x.2) := by rw [← hv1]; exact getD_set_sameT (by omega)
  refine Zk rfl (Zr (run_as (run_field un43 rfl inf3 (by decide) rfl) (show _ = Value.pointer (some ⟨gt, 0 * 7 + 4, none⟩) from by first | rfl | simp)) rfl (Ls_storeOwnC hs inf3 rfl rfl rfl (by omega) (fun w2 hs => ?_)))
  rw [flatKT_set (i := 0) (k := 4) (y := (going x.1, x.2)) (by omega) (by decide) (by rw [hxc]; simp [tcells, going])] at hs
  obtain ⟨v2, hv2⟩ : ∃ q, v1.set 0 (going x.1, x.2) = q := ⟨_, rfl⟩
  rw [hv2] at hs
  have hlv2 : v2.length = vt.length := by rw [← hv2, List.length_set]; exact hlv1
  replace hxc : v2.getD 0 T0 = (going x.1, x.2) := by rw [← hv2]; exact getD_set_sameT (by omega)
  refine Zj (St_seq (St_draw (fun x => Below w2.heap.size w2 x) mixed (fun w3 q4 => ?_)))
  have hH := q4.below
  replace hs := hs.quiet q4
  refine An_grow hH ?_
  replace hH := Below.refl w3.heap.size w3
  refine Ym hH 0 rfl (by kernel_rfl) rfl (Ya hH 1 rfl (by kernel_rfl) (fun x hx => run_nilCheck rfl) (Ya hH 2 rfl (by kernel_rfl) (fun x hx => run_load_agg agg43 inf43 rfl rfl (fun j u hj => (hs.grow hx).kt_cell 0 rfl (by omega) hxc j u hj)) (Ym hH 3 rfl (by kernel_rfl) rfl (Ya hH 4 rfl (by kernel_rfl) (fun x hx => run_nilCheck rfl) (Ya hH 5 rfl (by kernel_rfl) (fun x hx => run_as (run_field un43 rfl inf25 (by decide) rfl) (show _ = Value.pointer (some ⟨gt, 0 * 7 + 6, none⟩) from by first | rfl | simp)) (Ya hH 6 rfl (by kernel_rfl) (fun x hx => run_load sc25 rfl ((hs.grow hx).kt_cell 0 rfl (by omega) hxc 6 _ rfl)) (An_only 7 (by kernel_rfl) rfl (Zc fn37 rfl (say_c w3 3 (going x.1, x.2) x.2.tA x.2.tc x.1.to ((hs.kept 2 rfl).1 x hxm).2 hzt) rfl ?_))))))))
  rintro v5 w6 ⟨g, Ae, ce, rfl, hsS⟩
  replace hs := hs.T hsS
  replace hH := (hsS.below : Below w3.heap.size w3 w6)
  refine Ls_nil (Jm_An hH (An_grow hH ?_))
  replace hH := Below.refl w6.heap.size w6
  refine Ya hH 8 rfl (by kernel_rfl) (fun x hx => run_assign rfl) (An_done (by kernel_rfl) (Zq (St_ret (Jm_ret1 rfl rfl ?_))))
  replace hs := hs.F4
  replace hs := hs.keepMono (G := CKeep p ops v2) (fun w h => ⟨fun y hy => by
    rw [← hv2] at hy
    rcases List.mem_or_eq_of_mem_set hy with h1 | rfl
    · rw [← hv1] at h1
      rcases List.mem_or_eq_of_mem_set h1 with h1 | rfl
      · exact h.1 y h1
      · exact h.1 x hxm
    · exact h.1 x hxm, h.2⟩)
  replace hs := hs.F2.F2.F2.F3.F4
  rw [← hlv2] at hs
  have h9 := Sat.cshut (tr := tr.set 0 (going x.1)) (by rw [← hv2, ← hv1, List.set_set, List.map_set, hvt]) hs
  refine ⟨_, rfl, ?_⟩
  rw [hx1]
  exact Sat.toMoSome (m := sayM 3 (going x.1) x.1.to) (h9.perm ((List.perm_append_comm (l₁ := [_]) (l₂ := [_, _])).append_right L))
set_option maxRecDepth 100000 in
set_option maxHeartbeats 1000000 in
theorem ready1_c (w0 w : World) (x : TT) (b3 : Nat) (m : MC) (q : MP) (hb0 : Below w0.heap.size w0 w) (hd1 : w0.heap[b3]? = some (.cells (mcells m q).toArray 41 (0, 0))) :
    Calls Try.prog 63 [.agg #[.int .i64 x.1.b, .int .i64 x.1.a, .int .i64 x.1.nd, .int .i64 x.1.ph, .int .i64 x.1.ti, .slice x.2.fA x.1.fr.length x.2.fc, .slice x.2.tA x.1.to.length x.2.tc], .pointer (some ⟨b3, 0, none⟩)].toArray w (Ret (fun v' w' => v' = .bool (decide (abt m x.1 1)) ∧ Sat w w' [])) := by
  have hs := Sat.start w
  refine Zb Try.func63 rfl rfl rfl (Zs (Ls_box hs rfl rfl (fun b2 w1 hs => (Za rfl (Zt (Zr (run_load_agg agg41 inf41 rfl rfl (heap_cells hd1 (bchain hb0 hs.below) (Nat.succ_pos _))) rfl (Zr (run_load_agg agg43 inf43 rfl rfl (hs.blk_cells 0 rfl 0 7)) rfl (Zc fn64 rfl (cabout_c w1 m q x 1) rfl ?_))))))))
  rintro v3 w4 ⟨rfl, hsQ⟩
  replace hs := hs.T hsQ
  refine Za rfl (Zj (St_ret (Jm_ret1 rfl rfl ?_)))
  exact ⟨_, rfl, rfl, hs.forget⟩
end Go.Proofs.Ytcifdianinbkeaa.Lg
set_option linter.unusedVariables false
set_option linter.unusedSimpArgs false
namespace Go.Proofs.Ytcifdianinbkeaa.Lg
open Go Go.RowKit Go.Proofs.Ytcifdianinbkeaa.WirePure Go.Proofs.Ytcifdianinbkeaa.PlanPure
set_option maxRecDepth 100000 in
set_option maxHeartbeats 1000000 in
theorem cNote_c (B w : World) (L : List Assn) (bc bd bj : Nat) (p : PlanA) (ops : OpL) (tr : List TSt) (e : Bool) (j : JSt) (hs : Sat B w (CA 79 43 bc bd bj p ops tr e :: JA 108 3 bj (some ⟨bd, 0, none⟩) j :: L)) (hz : j.n.prev.length ≤ 1073741824 ∧ j.n.cur.length ≤ 1073741824) :
    Calls Try.prog 17 [.pointer (some ⟨bc, 0, none⟩)].toArray w (Ret (fun v' w' => ∃ Ap cp Ac cc, v' = .agg #[.int .i64 j.n.batch, .slice Ap j.n.prev.length cp, .slice Ac j.n.cur.length cc, .int .i64 j.n.att] ∧ Sat B w' (Own 3 1 (.slice Ap j.n.prev.length cp) j.n.prev.length (KI.flat j.n.prev) :: Own 3 1 (.slice Ac j.n.cur.length cc) j.n.cur.length (KI.flat j.n.cur) :: CA 79 43 bc bd bj p ops tr e :: JA 108 3 bj (some ⟨bd, 0, none⟩) j :: L))) := by
  obtain ⟨vt, A, c, hvt, hs⟩ := hs.copen
  refine Zb Try.func17 rfl rfl rfl (Zs (Ls_alloc hs inf53 rfl (fun b2 w1 hs => (Zj (St_seq (Zs (Zm rfl (Zr (run_asB (c := false) (run_eql_ptr_nil un28 rfl rfl) rfl) rfl (Zj (St_iff rfl (St_skip (Zq (Zs (Zm rfl (Zk rfl (Zf un79 inf77 rfl 9 rfl (Zl sc77 rfl (hs.blk_at 1 rfl 9 rfl) ?_)))))))))))))))))
  replace hs := hs.F4
  refine Zc fn34 rfl (Note_c B w1 _ bj _ j hs hz) rfl ?_
  rintro v4 w5 ⟨Ap2, cp2, Ac2, cc2, rfl, hs⟩
  replace hs := hs.F3
  refine Ls_storeAgg hs inf53 rfl rfl rfl rfl (by simp [Value.oneCell', Value.cells, nval, ncells]) (fun w6 hs => (Zj (St_ret (Jm_retC rfl agg53 inf53 rfl rfl (hs.blk_cells 0 rfl 0 4) ?_))))
  replace hs := hs.E0.F2.F2.F2.F5.F5.F5
  have h9 := Sat.cshut hvt hs
  exact ⟨_, rfl, Ap2, cp2, Ac2, cc2, rfl, h9.perm ((List.perm_append_comm (l₁ := [_]) (l₂ := [_, _])).append_right (_ :: L))⟩
set_option maxRecDepth 100000 in
set_option maxHeartbeats 1000000 in
theorem cEnded_c (B w : World) (L : List Assn) (bc bd bj : Nat) (p : PlanA) (ops : OpL) (tr : List TSt) (e : Bool) (hs : Sat B w (CA 79 43 bc bd bj p ops tr e :: L)) :
    Calls Try.prog 29 [.pointer (some ⟨bc, 0, none⟩)].toArray w (Ret (fun v' w' => w = w' ∧ v' = .bool e)) := by
  obtain ⟨vt, A, c, hvt, hs⟩ := hs.copen
  refine Zb Try.func29 rfl rfl rfl (Zs (Za rfl (Zt (Zm rfl (Zr (run_asB (c := true) (run_neq_ptr_nil un28 rfl rfl) rfl) rfl (Zm rfl (Zo rfl (Zm rfl (Zo rfl (Zk rfl (Zo rfl (Zf un79 inf4 rfl 11 rfl (Zo rfl (Zl sc4 rfl (hs.blk_at 0 rfl 11 rfl) (Zr (run_pick_t rfl rfl) rfl (Za rfl (Zj (St_ret (Jm_ret1 rfl rfl ?_)))))))))))))))))))
  exact ⟨_, rfl, rfl, rfl⟩
set_option maxRecDepth 100000 in
set_option maxHeartbeats 1000000 in
theorem cOpen_c (B w : World) (L : List Assn) (bd : Nat) (p : PlanA) (ops : OpL) (d d1 : DSt) (j : JSt) (hs : Sat B w (DiskA 122 125 5 bd d :: L)) (hr : Rd B p.oA p.on p.oc 3 (KOp.flat ops)) (hn : p.on ≤ 67108864) (hck : chk p ops = 0) (hdok : ∀ x ∈ d.bl, IsBytes x ∧ x.length ≤ 1024) (hdl : 1 ≤ d.bl.length) (hjo : jopen d p.pa = (0, some j, d1)) :
    Calls Try.prog 21 [.agg #[.int .i64 p.pa, .int .i64 p.st, .int .i64 p.wo, .slice p.oA p.on p.oc, .int .i64 p.ag, .int .i64 p.ba, .int .i64 p.wi, .int .i64 p.gu], .pointer (some ⟨bd, 0, none⟩)].toArray w (Ret (fun v' w' => ∃ bc bj Ao co, v' = .tuple #[.pointer (some ⟨bc, 0, none⟩), .int .i64 0] ∧ Sat B w' (CA 79 43 bc bd bj { p with oA := Ao, oc := co } ops [] false :: JA 108 3 bj (some ⟨bd, 0, none⟩) j :: DiskA 122 125 5 bd d1 :: L))) := by
  have hk2 := chk_ok hck
  unfold numsOk at hk2
  refine Zb Try.func21 rfl rfl rfl (Zs (Ls_box hs rfl rfl (fun b2 w1 hs => (Za rfl (Za rfl (Zj (St_seq (Zs (Zr (run_load_agg agg24 inf24 rfl rfl (hs.blk_cells 0 rfl 0 8)) rfl (Zc fn10 rfl (Check_c w1 p ops (hr.inB hs) (by omega)) rfl ?_))))))))))
  rintro v3 w4 ⟨rfl, hsQ⟩
  replace hs := hs.T hsQ
  rw [hck]
  refine Za rfl (Zt (Zm rfl (Zr (run_asB (c := false) (run_neq rfl rfl) (by decide)) rfl (Zj (St_iff rfl (St_skip (Zq (Zs (Zm rfl (Zf un24 inf3 rfl 0 rfl (Zl sc3 rfl (hs.blk_at 0 rfl 0 rfl) ?_)))))))))))
  replace hs := hs.F1
  obtain ⟨m, hm⟩ : ∃ m : Nat, p.pa = (m : Int) := ⟨p.pa.toNat, by omega⟩
  rw [hm]
  refine Zc fn45 rfl (Open_g B w4 _ bd d hs hdok hdl m (by omega) (by omega)) rfl ?_
  rintro v6 w7 ⟨q, rfl, hs⟩
  rw [← hm] at hs ⊢
  rw [hjo] at hs ⊢
  simp only at hs ⊢
  refine Zm rfl (Zr (run_extract rfl rfl) rfl (Zr (run_extract rfl rfl) rfl (Za rfl (Za rfl (Zj (St_seq (Zs (Zm rfl (Zr (run_asB (c := false) (run_neq rfl rfl) (by decide)) rfl (Zj (St_iff rfl (St_skip (Zq (Zs ?_))))))))))))))
  obtain ⟨bj, hq5, h5⟩ := hs.joSome
  subst hq5
  replace hs := h5
  refine Zf un24 inf22 rfl 3 rfl (Zl sc22 rfl (hs.blk_at 2 rfl 3 rfl) (Zc fn46 rfl (CloneO_c w7 p.oA p.on p.oc ops (hr.inB hs) (by omega)) rfl ?_))
  rintro v9 w10 ⟨Ao, co, rfl, hsC⟩
  replace hs := hs.T hsC
  refine Zf un24 inf22 rfl 3 rfl ?_
  replace hs := hs.F3
  refine Ls_store hs inf22 rfl rfl rfl rfl (fun w11 hs => ?_)
  try simp only [List.set_cons_zero, List.set_cons_succ] at hs
  refine Zt (Zr (run_load_agg agg24 inf24 rfl rfl (hs.blk_cells 0 rfl 0 8)) rfl (Zm rfl (Zm rfl (Zr (run_buildO (pv := [(0, _), (1, _), (2, _)]) rfl (bld79_0_1_2 _ _ _ _ _ _ _ _ _ _ _ _)) rfl (Ls_box hs rfl rfl (fun b13 w12 hs => (Za rfl (Za rfl (Zj (St_ret (Jm_ret2 rfl rfl rfl ?_)))))))))))
  replace hs := hs.E1.F1
  have h8 := Sat.toKeep (L1 := [_]) (F := CKeep { p with oA := Ao, oc := co } ops []) (fun B w z => ⟨fun y hy => by simp at hy, z.rd⟩) hs
  replace hs := h8
  replace hs := hs.F1
  have h7 := (hs.own_nil 43 7)
  replace hs := h7
  replace hs := hs.F4.F4.F4.F3.F4
  have h9 := Sat.cshut (p := { p with oA := Ao, oc := co }) (ops := ops) (vt := []) (tr := []) (A := none) (c := 0) (bd := bd) (bj := bj) (e := false) rfl hs
  exact ⟨_, rfl, b13, bj, Ao, co, rfl, h9⟩
end Go.Proofs.Ytcifdianinbkeaa.Lg
