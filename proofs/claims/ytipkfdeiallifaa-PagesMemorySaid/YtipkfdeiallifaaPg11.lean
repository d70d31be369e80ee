/-
  Pages: the laws' room, fit, with and holds. By program (gen/pg11.py).
-/
import Derived.Test.YtipkfdeiallifaaPgSem
set_option linter.unusedVariables false
set_option linter.unusedSimpArgs false
namespace Go.Proofs.Ytipkfdeiallifaa.Lg
open Go Go.RowKit Go.Proofs.Ytipkfdeiallifaa.WirePure
theorem u64_nat' (x : Int) : ∃ u : Nat, IntKind.u64.wrap x = (u : Int) ∧ u < 18446744073709551616 := by
  have h : IntKind.u64.wrap x = x % 18446744073709551616 := by simp [IntKind.wrap, IntKind.bits, IntKind.signed]
  exact ⟨(x % 18446744073709551616).toNat, by rw [h]; omega, by omega⟩
theorem rem_nn' (u k : Nat) : Int.tmod (u : Int) (k : Int) = ((u % k : Nat) : Int) := by exact_mod_cast (Int.ofNat_tmod u k).symm
/-- Writes that fit: pages brought within eight, one of a page, bytes cut. -/
def pm (p : Int) : Nat := (IntKind.u64.wrap p).toNat % 8
theorem pm_of {p : Int} {u : Nat} (h : IntKind.u64.wrap p = (u : Int)) : pm p = u % 8 := by unfold pm; rw [h]; rfl
theorem pm_lt (p : Int) : pm p < 8 := Nat.mod_lt _ (by decide)
def fitF : List Wr → List Wr → List Wr
  | acc, [] => acc
  | acc, (p, x) :: r => if ((pm p : Nat) : Int) ∈ acc.map Prod.fst then fitF acc r else fitF (acc ++ [(((pm p : Nat) : Int), x.take 1024)]) r
def fitL (l : List Wr) : List Wr := fitF [] (l.take 64)
def GoodA (acc : List Wr) : Prop := (acc.map Prod.fst).Nodup ∧ ∀ x ∈ acc, (0 ≤ x.1 ∧ x.1 < 8) ∧ IsBytes x.2 ∧ x.2.length ≤ 1024
theorem GoodA.nil : GoodA [] := ⟨by simp, by simp⟩
theorem GoodA.snoc {acc : List Wr} {p : Int} {x : List Int} (h : GoodA acc) (hp : ((pm p : Nat) : Int) ∉ acc.map Prod.fst) (hb : IsBytes x) : GoodA (acc ++ [(((pm p : Nat) : Int), x.take 1024)]) := by
  have := pm_lt p
  refine ⟨?_, fun y hy => ?_⟩
  · rw [List.map_append]
    exact List.nodup_append.2 ⟨h.1, by simp, fun a ha b hb e => by simp only [List.map_cons, List.map_nil, List.mem_singleton] at hb; subst hb; exact hp (e ▸ ha)⟩
  · rcases List.mem_append.1 hy with hy | hy
    · exact h.2 y hy
    · simp only [List.mem_singleton] at hy; subst hy
      exact ⟨⟨by simp only; omega, by simp only; omega⟩, fun q hq => hb q (List.mem_of_mem_take hq), by simp only [List.length_take]; omega⟩
theorem bfault_zero {n : Nat} : ∀ (l : List Wr) (seen : List Int), (∀ x ∈ l, (0 ≤ x.1 ∧ x.1 < (n : Int)) ∧ x.2.length ≤ 1024 ∧ x.1 ∉ seen) → (l.map Prod.fst).Nodup → bfaultF n seen l = 0
  | [], _, _, _ => rfl
  | (p, x) :: r, seen, h, hn => by
    obtain ⟨h1, h2, h3⟩ := h (p, x) (by simp)
    simp only at h1 h2 h3
    rw [bf_go (by omega) h3 (by omega)]
    rw [List.map_cons, List.nodup_cons] at hn
    refine bfault_zero r _ (fun y hy => ?_) hn.2
    obtain ⟨a, b, c⟩ := h y (List.mem_cons_of_mem _ hy)
    refine ⟨a, b, fun q => ?_⟩
    rcases List.mem_append.1 q with q | q
    · exact c q
    · simp only [List.mem_singleton] at q
      exact hn.1 (q ▸ List.mem_map.2 ⟨y, hy, rfl⟩)
theorem GoodA.fit {acc : List Wr} (h : GoodA acc) : FitW acc := ⟨bfault_zero acc [] (fun x hx => ⟨(h.2 x hx).1, (h.2 x hx).2.2, by simp⟩) h.1, fun x hx => (h.2 x hx).2.1⟩
theorem GoodA.ok {acc : List Wr} (h : GoodA acc) : PWok acc := fun x hx => ⟨by have := (h.2 x hx).1; omega, (h.2 x hx).2.1, by have := (h.2 x hx).2.2; omega⟩
theorem GoodA.len {acc : List Wr} (h : GoodA acc) : acc.length ≤ 8 := by
  have := nodup_len 8 _ h.1 (fun y hy => by obtain ⟨x, hx, rfl⟩ := List.mem_map.1 hy; exact (h.2 x hx).1)
  simpa using this
theorem fitF_good : ∀ (l acc : List Wr), GoodA acc → (∀ x ∈ l, IsBytes x.2) → GoodA (fitF acc l)
  | [], _, h, _ => h
  | (p, x) :: r, acc, h, hb => by
    unfold fitF
    split
    · exact fitF_good r acc h (fun y hy => hb y (List.mem_cons_of_mem _ hy))
    · rename_i q
      exact fitF_good r _ (h.snoc q (hb (p, x) (by simp))) (fun y hy => hb y (List.mem_cons_of_mem _ hy))
theorem fitL_good {l : List Wr} (h : PWok l) : GoodA (fitL l) := fitF_good _ _ GoodA.nil (fun x hx => (h x (List.mem_of_mem_take hx)).2.1)
theorem fitF_in {acc r : List Wr} {p : Int} {x : List Int} (h : ((pm p : Nat) : Int) ∈ acc.map Prod.fst) : fitF acc ((p, x) :: r) = fitF acc r := by conv => lhs; unfold fitF; rw [if_pos h]
theorem fitF_out {acc r : List Wr} {p : Int} {x : List Int} (h : ((pm p : Nat) : Int) ∉ acc.map Prod.fst) : fitF acc ((p, x) :: r) = fitF (acc ++ [(((pm p : Nat) : Int), x.take 1024)]) r := by conv => lhs; unfold fitF; rw [if_neg h]
theorem wdrop64 {ws : List Wr} {i : Nat} {p : Int} {x : List Int} (h : i < ws.length) (h2 : i < 64) (e : ws.getD i (0, []) = (p, x)) : (ws.take 64).drop i = (p, x) :: (ws.take 64).drop (i + 1) := by
  refine wdrop (by rw [List.length_take]; omega) ?_
  rw [← e, List.getD_eq_getElem?_getD, List.getD_eq_getElem?_getD, List.getElem?_take, if_pos h2]
/-- The parts of a list of writes. -/
def PWp (w : World) (vs : List KWt) (ws : List Wr) : Prop := vs.length = ws.length ∧ ∀ i, i < ws.length → (vs.getD i (0, none, 0, 0)).1 = (ws.getD i (0, [])).1 ∧ Rd w (vs.getD i (0, none, 0, 0)).2.1 (vs.getD i (0, none, 0, 0)).2.2.1 (vs.getD i (0, none, 0, 0)).2.2.2 1 (bytesV (ws.getD i (0, [])).2)
theorem PWp.nil (w : World) : PWp w [] [] := ⟨rfl, fun i hi => by simp at hi⟩
theorem PWp.inB {w w' : World} {vs : List KWt} {ws : List Wr} {L : List Assn} (h : PWp w vs ws) (hs : Sat w w' L) : PWp w' vs ws := ⟨h.1, fun i hi => ⟨(h.2 i hi).1, (h.2 i hi).2.inB hs⟩⟩
theorem PWp.with_ {w : World} {A : Option Addr} {n c : Nat} {vs : List KWt} {ws : List Wr} (h : PWp w vs ws) (hr : Rd w A n c 2 (KW.flat vs)) : PWs w A n c vs ws := ⟨hr, h.1, h.2⟩
theorem PWp.snoc {w : World} {vs : List KWt} {ws : List Wr} {p : Int} {A : Option Addr} {n c : Nat} {x : List Int} (h : PWp w vs ws) (hr : Rd w A n c 1 (bytesV x)) : PWp w (vs ++ [(p, A, n, c)]) (ws ++ [(p, x)]) := by
  refine ⟨by simp [h.1], fun i hi => ?_⟩
  rw [List.length_append] at hi
  simp only [List.length_cons, List.length_nil] at hi
  rw [List.getD_eq_getElem?_getD, List.getD_eq_getElem?_getD, List.getElem?_append, List.getElem?_append]
  by_cases e : i < ws.length
  · rw [if_pos (by rw [h.1]; exact e), if_pos e, ← List.getD_eq_getElem?_getD, ← List.getD_eq_getElem?_getD]; exact h.2 i e
  · have e2 : i = ws.length := by omega
    subst e2
    rw [if_neg (by rw [h.1]; omega), if_neg (by omega), h.1]
    simp
    exact hr
theorem flatKW_snoc (l : List KWt) (p : Int) (A : Option Addr) (n c : Nat) : KW.flat (l ++ [(p, A, n, c)]) = KW.flat l ++ [Value.int .i64 p, .slice A n c] := by simp [El.flat, KW]
/-- Which pages were there. -/
def sc (acc : List Wr) : List Value := (List.range 8).map fun (q : Nat) => Value.bool (decide ((q : Int) ∈ acc.map Prod.fst))
theorem sc_len (acc : List Wr) : (sc acc).length = 8 := by simp [sc]
theorem sc_at {acc : List Wr} {p : Nat} (h : p < 8) : (sc acc)[p]? = some (.bool (decide ((p : Int) ∈ acc.map Prod.fst))) := by simp [sc, h]
theorem sc_set {acc : List Wr} {p : Nat} {x : List Int} : (sc acc).set p (.bool true) = sc (acc ++ [((p : Int), x)]) := by
  apply List.ext_getElem?
  intro i
  rw [List.getElem?_set]
  by_cases hi : i < 8
  · rw [sc_at hi, sc_at hi, sc_len]
    by_cases e : p = i
    · subst e; simp [hi]
    · rw [if_neg e]; simp; intro q; omega
  · rw [List.getElem?_eq_none (by rw [sc_len]; omega), List.getElem?_eq_none (by rw [sc_len]; omega)]
    split <;> first | rfl | (rw [if_neg (by rw [sc_len]; omega)])
/-- Strings of bytes. -/
def SW (W : List (List Int)) : List Value := W.map fun l => Value.string (strOfNums l)
theorem SW_len (W : List (List Int)) : (SW W).length = W.length := by simp [SW]
theorem SW_set (W : List (List Int)) (p : Nat) (x : List Int) : (SW W).set p (.string (strOfNums x)) = SW (W.set p x) := by unfold SW; rw [List.map_set]
theorem SW_at {W : List (List Int)} {p : Nat} (h : p < W.length) : (SW W)[p]? = some (.string (strOfNums (W.getD p []))) := by
  unfold SW
  rw [List.getElem?_map, List.getD_eq_getElem?_getD, List.getElem?_eq_getElem h]; rfl
theorem SW_one (W : List (List Int)) : ∀ u ∈ SW W, u.oneCell' = true := fun u hu => by obtain ⟨l, _, rfl⟩ := List.mem_map.1 hu; rfl
theorem SW_take {W : List (List Int)} (h : W.length = 8) : ((SW W).drop 0).take 8 = SW W := List.take_of_length_le (by rw [List.drop_zero, SW_len]; omega)
theorem str_nil : strOfNums [] = ByteArray.empty := rfl
theorem wused_take {W : List (List Int)} {i : Nat} (h : i < W.length) : wused (W.take (i + 1)) = wused (W.take i) + if W.getD i [] ≠ [] then 1 else 0 := by
  rw [take_snoc4 (d := []) h]
  unfold wused
  rw [List.filter_append, List.length_append]; congr 1
  by_cases h0 : W.getD i [] = []
  · rw [h0]; simp
  · simp only [List.filter_cons, List.filter_nil]; rw [if_pos h0, if_pos (decide_eq_true h0)]; rfl
theorem wused_len (W : List (List Int)) : wused W ≤ W.length := List.length_filter_le _ _
theorem withL_take {W : List (List Int)} {ws : List Wr} {i : Nat} {p : Int} {x : List Int} (h : i < ws.length) (e : ws.getD i (0, []) = (p, x)) : withL W (ws.take (i + 1)) = (withL W (ws.take i)).set p.toNat x := by
  have e1 : ws[i] = (p, x) := by rw [← e, List.getD_eq_getElem?_getD, List.getElem?_eq_getElem h]; rfl
  rw [List.take_succ_eq_append_getElem h, e1]
  have key : ∀ (l : List Wr) (W : List (List Int)), withL W (l ++ [(p, x)]) = (withL W l).set p.toNat x := by
    intro l
    induction l with
    | nil => intro W; rfl
    | cons y l ih => intro W; obtain ⟨a, b⟩ := y; exact ih _
  exact key _ _
set_option maxRecDepth 100000 in
set_option maxHeartbeats 1000000 in
theorem room_c (w : World) :
    Calls Try.prog 24 [].toArray w (Ret (fun v' w' => ∃ b0 bj d0, v' = .tuple #[.pointer (some ⟨b0, 0, none⟩), .pointer (some ⟨bj, 0, none⟩)] ∧ Sat w w' [BA 122 3 bj (some ⟨b0, 0, none⟩) (bnew 8), DiskA 129 28 5 b0 d0] ∧ PGb d0.bl (bnew 8) (List.replicate 8 []) ∧ d0.down = false ∧ d0.armed = false)) := by
  have hs := Sat.start w
  refine Calls_body Try.func24 rfl rfl rfl envE_nil ?_
  refine St_seq ?_
  refine St_region ?_
  refine Ls_run (run_assign rfl) rfl ?_
  refine Ls_run (run_assign rfl) rfl ?_
  refine Ls_nil ?_
  refine Jm_seq ?_
  refine St_seq ?_
  refine St_region ?_
  refine Ls_call Try.func38 nm38 rfl rfl (New_c w 18 (by decide) (by decide)) rfl ?_
  rintro v1 w2 ⟨b0, rfl, hsD⟩
  replace hs := hs.trans hsD
  simp only [List.cons_append, List.nil_append] at hs
  refine Ls_run (run_move rfl) rfl ?_
  refine Ls_run (run_extract rfl rfl) rfl ?_
  refine Ls_run (run_extract rfl rfl) rfl ?_
  refine Ls_run (run_assign rfl) rfl ?_
  refine Ls_run (run_assign rfl) rfl ?_
  refine Ls_nil ?_
  refine Jm_seq ?_
  refine St_seq ?_
  refine St_seq ?_
  refine St_region ?_
  refine Ls_run (run_move rfl) rfl ?_
  refine Ls_run (run_asB (c := false) (run_neq rfl rfl) (by decide)) rfl ?_
  refine Ls_run (run_move rfl) rfl ?_
  refine Ls_on rfl rfl ?_
  refine Ls_run (run_move rfl) rfl ?_
  refine Ls_on rfl rfl ?_
  refine Ls_run (run_asB (c := false) (run_eql_ptr_nil Try.underlying46 rfl rfl) rfl) rfl ?_
  refine Ls_run (run_pick_f rfl rfl) rfl ?_
  refine Ls_nil ?_
  refine Jm_seq ?_
  refine St_iff rfl ?_
  refine St_skip ?_
  refine Jm_seq ?_
  refine St_seq ?_
  refine St_region ?_
  refine Ls_run (run_move rfl) rfl ?_
  obtain ⟨d0, hf0, hpg, hdn, har⟩ := room_ok
  refine Ls_call Try.func37 nm37 rfl rfl (BFormat_g w w2 _ b0 (dnew 18) hs ⟨by simp [dnew, IsBytes], by simp [dnew]⟩ 8 (by decide) (by decide)) rfl ?_
  rintro v4 w5 ⟨pj, rfl, hs⟩
  simp only [show bformat dO (dnew 18) ((8 : Nat) : Int) = (0, some (bnew 8), d0) from hf0] at hs ⊢
  obtain ⟨bj, hpj, h9⟩ := hs.boSome
  subst hpj
  replace hs := h9
  refine Ls_run (run_move rfl) rfl ?_
  refine Ls_run (run_extract rfl rfl) rfl ?_
  refine Ls_run (run_extract rfl rfl) rfl ?_
  refine Ls_run (run_assign rfl) rfl ?_
  refine Ls_run (run_assign rfl) rfl ?_
  refine Ls_nil ?_
  refine Jm_seq ?_
  refine St_seq ?_
  refine St_seq ?_
  refine St_region ?_
  refine Ls_run (run_move rfl) rfl ?_
  refine Ls_run (run_asB (c := false) (run_neq rfl rfl) (by decide)) rfl ?_
  refine Ls_run (run_move rfl) rfl ?_
  refine Ls_on rfl rfl ?_
  refine Ls_run (run_move rfl) rfl ?_
  refine Ls_on rfl rfl ?_
  refine Ls_run (run_asB (c := false) (run_eql_ptr_nil Try.underlying47 rfl rfl) rfl) rfl ?_
  refine Ls_run (run_pick_f rfl rfl) rfl ?_
  refine Ls_nil ?_
  refine Jm_seq ?_
  refine St_iff rfl ?_
  refine St_skip ?_
  refine Jm_seq ?_
  refine St_seq ?_
  refine St_region ?_
  refine Ls_run (run_move rfl) rfl ?_
  refine Ls_run (run_move rfl) rfl ?_
  refine Ls_run (run_assign rfl) rfl ?_
  refine Ls_run (run_assign rfl) rfl ?_
  refine Ls_nil ?_
  refine Jm_seq ?_
  refine St_ret ?_
  refine Jm_ret2 rfl rfl rfl ?_
  exact ⟨_, rfl, b0, bj, d0, rfl, hs, hpg, hdn, har⟩
set_option maxRecDepth 100000 in
set_option maxHeartbeats 1000000 in
theorem fit_c (B w : World) (hBw : Sat B w []) (A : Option Addr) (n c : Nat) (vs : List KWt) (ws : List Wr) (hw : PWs B A n c vs ws) (hok : PWok ws) (hn : n ≤ 9223372036854775806) :
    Calls Try.prog 25 [.slice A n c].toArray w (Ret (fun v' w' => ∃ A' c' vo, v' = .slice A' (fitL ws).length c' ∧ Sat w w' [Own 45 2 (.slice A' (fitL ws).length c') (fitL ws).length (KW.flat vo)] ∧ PWp B vo (fitL ws))) := by
  have hs := Sat.start w
  have hwn := hw.n
  refine Calls_body Try.func25 rfl rfl rfl (envE_cons (i := 0) (v := .slice A n c) rfl envE_nil) ?_
  refine St_seq ?_
  refine St_region ?_
  refine Ls_run (run_assign rfl) rfl ?_
  refine Ls_nil ?_
  refine Jm_seq ?_
  refine St_seq ?_
  refine St_region ?_
  refine Ls_run (run_assign rfl) rfl ?_
  refine Ls_nil ?_
  refine Jm_seq ?_
  refine St_seq ?_
  refine St_region ?_
  refine Ls_alloc hs inf117 rfl ?_
  intro b2 w1 hs
  refine Ls_nil ?_
  refine Jm_seq ?_
  refine St_seq ?_
  refine St_seq ?_
  refine St_region ?_
  refine Ls_run (run_assign rfl) rfl ?_
  refine Ls_nil ?_
  refine Jm_seq ?_
  refine St_block ?_
  replace hs := hs.own_nil 45 2
  replace hs := hs.front 1 rfl
  simp only [List.eraseIdx_cons_zero, List.eraseIdx_cons_succ] at hs
  obtain ⟨En3, hEn3⟩ : ∃ F : Nat × Value × Nat × List KWt × List Wr → Env, ∀ (i : Nat) (ov : Value) (k : Nat) (vo : List KWt) (acc : List Wr), F (i, ov, k, vo, acc) = [(0, .slice A n c), (4, .pointer (some ⟨b2, 0, none⟩)), (3, ov), (5, .int .i64 (i : Int))] := ⟨(fun (sx0 : Nat × Value × Nat × List KWt × List Wr) => match sx0 with | (i, ov, k, vo, acc) => [(0, .slice A n c), (4, .pointer (some ⟨b2, 0, none⟩)), (3, ov), (5, .int .i64 (i : Int))]), fun _ _ _ _ _ => rfl⟩
  obtain ⟨Iv4, hIv4⟩ : ∃ F : Nat × Value × Nat × List KWt × List Wr → World → Prop, ∀ (i : Nat) (ov : Value) (k : Nat) (vo : List KWt) (acc : List Wr) (wr : World), F (i, ov, k, vo, acc) wr = (Sat w wr [Blk b2 (sc acc) 117, Own 45 2 ov k (KW.flat vo)] ∧ i ≤ n ∧ i ≤ 64 ∧ fitF acc ((ws.take 64).drop i) = fitL ws ∧ PWp B vo acc ∧ GoodA acc ∧ acc.length = k ∧ ∃ A3 c3, ov = .slice A3 k c3) := ⟨(fun (sx0 : Nat × Value × Nat × List KWt × List Wr) => match sx0 with | (i, ov, k, vo, acc) => fun (wr : World) => Sat w wr [Blk b2 (sc acc) 117, Own 45 2 ov k (KW.flat vo)] ∧ i ≤ n ∧ i ≤ 64 ∧ fitF acc ((ws.take 64).drop i) = fitL ws ∧ PWp B vo acc ∧ GoodA acc ∧ acc.length = k ∧ ∃ A3 c3, ov = .slice A3 k c3), fun _ _ _ _ _ _ => rfl⟩
  obtain ⟨ms5, hms5⟩ : ∃ F : Nat × Value × Nat × List KWt × List Wr → Nat, ∀ (i : Nat) (ov : Value) (k : Nat) (vo : List KWt) (acc : List Wr), F (i, ov, k, vo, acc) = (n - i) := ⟨(fun (sx0 : Nat × Value × Nat × List KWt × List Wr) => match sx0 with | (i, ov, k, vo, acc) => n - i), fun _ _ _ _ _ => rfl⟩
  refine St_loop En3 Iv4 ms5 (0, (Value.slice none 0 0), 0, [], []) ?_ ?_ ?_
  · skip
    rw [hIv4]
    exact ⟨hs, by omega, by omega, rfl, PWp.nil B, GoodA.nil, rfl, _, _, rfl⟩
  · rw [hEn3]; exact (subE_cons rfl (subE_cons rfl (subE_cons rfl (subE_cons rfl subE_nil))))
  rintro ⟨i, ov, k, vo, acc⟩ wr hI6
  rw [hIv4] at hI6
  obtain ⟨hs, hi, hi6, hft, hpp, hga, hal, A3, c3, hov⟩ := hI6
  refine St_eqE (hEn3 _ _ _ _ _) ?_
  have hln := hga.len
  subst hov
  refine St_seq ?_
  refine St_seq ?_
  refine St_region ?_
  refine Ls_run (run_move rfl) rfl ?_
  refine Ls_run (run_move rfl) rfl ?_
  refine Ls_run (run_len Try.underlying51 rfl) rfl ?_
  refine Ls_run (run_lss rfl rfl) rfl ?_
  refine Ls_run (run_move rfl) rfl ?_
  refine Ls_partP (t := 12) rfl (fun h7 => ?_) (fun h7 => ?_)
  · skip
    refine Ls_on rfl rfl ?_
    refine Ls_run (run_move rfl) rfl ?_
    refine Ls_on rfl rfl ?_
    refine Ls_run (run_lss rfl rfl) rfl ?_
    refine Ls_run (run_pick_t rfl rfl) rfl ?_
    refine Ls_nil ?_
    refine Jm_seq ?_
    refine St_ifP rfl (fun h8 => ?_) (fun h8 => ?_)
    · skip
      refine St_skip ?_
      refine Jm_seq ?_
      refine St_seq ?_
      refine St_block ?_
      refine St_seq ?_
      refine St_region ?_
      refine Ls_run (run_move rfl) rfl ?_
      refine Ls_run (run_move rfl) rfl ?_
      obtain ⟨⟨pg, Aw, nw, cw⟩, ho⟩ : ∃ o, vs.getD i (0, none, 0, 0) = o := ⟨_, rfl⟩
      obtain ⟨⟨q, x⟩, hq⟩ : ∃ o, ws.getD i (0, []) = o := ⟨_, rfl⟩
      obtain ⟨hpg, hrw⟩ := hw.at_ i (by omega)
      rw [ho, hq] at hpg
      rw [ho, hq] at hrw
      simp only at hpg hrw
      subst hpg
      have hxl := rdB_len hrw
      have hwq := hok _ (wmem (ws := ws) (i := i) (by omega))
      rw [hq] at hwq
      simp only at hwq
      obtain ⟨u, hu, hu2⟩ := u64_nat' pg
      have hwc := hrw.cap
      have hpm := pm_of hu
      have hplt := pm_lt pg
      rw [wdrop64 (by omega) (by omega) hq] at hft
      refine Ls_index (KW) ((hw.inB hBw).rd.inB hs) Try.underlying51 inf45 rfl rfl (by omega) (by omega) ho rfl ?_
      intro b9 o10 hc11
      refine Ls_run (run_field Try.underlying45 rfl inf3 (by decide) rfl) rfl ?_
      refine Ls_run (run_as (run_load sc3 rfl (hc11 0 _ rfl)) (show _ = Value.int .i64 pg from rfl)) rfl ?_
      refine Ls_run (run_as (run_conv_int Try.underlying57 us3 rfl rfl) (show _ = Value.int .u64 (u : Int) by rw [← hu])) rfl ?_
      refine Ls_run (run_as (run_rem rfl rfl (by decide) rfl) (show _ = Value.int .u64 ((u % 8 : Nat) : Int) by rw [← rem_nn' u 8]; rfl)) rfl ?_
      refine Ls_run (run_as (run_conv_int Try.underlying3 us57 rfl (w64 (by omega))) (show _ = Value.int .i64 ((pm pg : Nat) : Int) by rw [hpm])) rfl ?_
      refine Ls_run (run_assign rfl) rfl ?_
      refine Ls_nil ?_
      refine Jm_seq ?_
      refine St_seq ?_
      refine St_region ?_
      refine Ls_run (run_move rfl) rfl ?_
      refine Ls_run (run_move rfl) rfl ?_
      refine Ls_index (KW) ((hw.inB hBw).rd.inB hs) Try.underlying51 inf45 rfl rfl (by omega) (by omega) ho rfl ?_
      intro b12 o13 hc14
      refine Ls_run (run_field Try.underlying45 rfl inf28 (by decide) rfl) rfl ?_
      refine Ls_run (run_as (run_load sc28 rfl (hc14 1 _ rfl)) (show _ = Value.slice Aw nw cw from rfl)) rfl ?_
      refine Ls_run (run_assign rfl) rfl ?_
      refine Ls_nil ?_
      refine Jm_seq ?_
      refine St_seq ?_
      refine St_seq ?_
      refine St_region ?_
      refine Ls_run (run_move rfl) rfl ?_
      refine Ls_run (run_len Try.underlying28 rfl) rfl ?_
      refine Ls_run (run_gtr rfl rfl) rfl ?_
      refine Ls_nil ?_
      refine Jm_seq ?_
      refine St_ifP rfl (fun h15 => ?_) (fun h15 => ?_)
      · skip
        refine St_region ?_
        refine Ls_run (run_move rfl) rfl ?_
        refine Ls_run (run_slice_h Try.underlying28 inf5 rfl rfl (by omega) (by omega)) rfl ?_
        refine Ls_run (run_assign rfl) rfl ?_
        refine Ls_nil ?_
        refine Jm_seq ?_
        refine St_seq ?_
        refine St_region ?_
        refine Ls_run (run_move rfl) rfl ?_
        refine Ls_run (run_as (run_index_arr Try.underlying117 inf4 rfl rfl (by omega) (by omega)) (show _ = Value.pointer (some ⟨b2, pm pg, none⟩) by simp)) rfl ?_
        refine Ls_run (run_load sc4 rfl (hs.blk_at 0 rfl (pm pg) (sc_at hplt))) rfl ?_
        refine Ls_run (run_not rfl) rfl ?_
        refine Ls_nil ?_
        refine Jm_seq ?_
        refine St_ifN rfl (fun h16 => ?_) (fun h16 => ?_)
        · skip
          refine St_seq ?_
          refine St_region ?_
          refine Ls_run (run_move rfl) rfl ?_
          refine Ls_run (run_as (run_index_arr Try.underlying117 inf4 rfl rfl (by omega) (by omega)) (show _ = Value.pointer (some ⟨b2, pm pg, none⟩) by simp)) rfl ?_
          refine Ls_store hs inf4 rfl rfl rfl (Nat.ble_eq_true_of_le (by rw [sc_len]; omega)) ?_
          intro w17 hs
          rw [sc_set (x := x.take 1024)] at hs
          refine Ls_nil ?_
          refine Jm_seq ?_
          refine St_region ?_
          refine Ls_run (run_move rfl) rfl ?_
          refine Ls_run (run_move rfl) rfl ?_
          refine Ls_run (run_move rfl) rfl ?_
          refine Ls_run (run_buildO (pv := [(0, _), (1, _)]) rfl (bld45_0_1 _ _ _ _)) rfl ?_
          refine Ls_literal [_] hs Try.underlying51 inf45 rfl rfl rfl rfl rfl rfl ?_
          intro b18 w19 hs
          simp only [List.flatMap_cons, List.flatMap_nil, Value.cells, List.cons_append, List.nil_append] at hs
          replace hs := hs.front 2 rfl
          simp only [List.cons_append, List.nil_append, List.eraseIdx_cons_zero, List.eraseIdx_cons_succ] at hs
          refine Ls_append hs Try.underlying51 inf45 rfl (by decide) (by decide) rfl rfl (rd_block (hs.is_at 1 rfl).2 2 1 rfl) (by simp [KW, Value.oneCell']) (by omega) rfl ?_
          intro A20 c21 w22 hs
          replace hs := hs.erase 1
          simp only [List.cons_append, List.nil_append, List.eraseIdx_cons_zero, List.eraseIdx_cons_succ] at hs
          refine Ls_run (run_assign rfl) rfl ?_
          refine Ls_nil ?_
          refine Jm_block_normal (Jm_seq ?_)
          refine St_region ?_
          refine Ls_run (run_move rfl) rfl ?_
          refine Ls_run (run_add rfl rfl (w64 (by omega))) rfl ?_
          refine Ls_run (run_assign rfl) rfl ?_
          refine Ls_nil ?_
          replace hs := hs.front 1 rfl
          simp only [List.cons_append, List.nil_append, List.eraseIdx_cons_zero, List.eraseIdx_cons_succ] at hs
          refine Jm_round (i + 1, (Value.slice A20 (k + 1) c21), (k + 1), (vo ++ [(((pm pg : Nat) : Int), Aw, 1024, cw)]), (acc ++ [(((pm pg : Nat) : Int), x.take 1024)])) ?_ ?_ ?_
          · rw [hEn3]; exact (subE_cons rfl (subE_cons rfl (subE_cons rfl (subE_cons rfl subE_nil))))
          · skip
            rw [hIv4]
            rw [fitF_out (by assumption)] at hft
            refine ⟨by rw [flatKW_snoc]; exact hs, by omega, by omega, hft, hpp.snoc (rdB_take hrw 1024 (by omega)), hga.snoc (by assumption) hwq.2.1, by simp; omega, _, _, rfl⟩
          · skip
            rw [hms5, hms5]
            omega
        · skip
          refine St_skip ?_
          refine Jm_block_normal (Jm_seq ?_)
          refine St_region ?_
          refine Ls_run (run_move rfl) rfl ?_
          refine Ls_run (run_add rfl rfl (w64 (by omega))) rfl ?_
          refine Ls_run (run_assign rfl) rfl ?_
          refine Ls_nil ?_
          refine Jm_round (i + 1, (Value.slice A3 k c3), k, vo, acc) ?_ ?_ ?_
          · rw [hEn3]; exact (subE_cons rfl (subE_cons rfl (subE_cons rfl (subE_cons rfl subE_nil))))
          · skip
            rw [hIv4]
            rw [fitF_in (by assumption)] at hft
            exact ⟨hs, by omega, by omega, hft, hpp, hga, hal, A3, c3, rfl⟩
          · skip
            rw [hms5, hms5]
            omega
      · skip
        refine St_skip ?_
        refine Jm_seq ?_
        refine St_seq ?_
        refine St_region ?_
        refine Ls_run (run_move rfl) rfl ?_
        refine Ls_run (run_as (run_index_arr Try.underlying117 inf4 rfl rfl (by omega) (by omega)) (show _ = Value.pointer (some ⟨b2, pm pg, none⟩) by simp)) rfl ?_
        refine Ls_run (run_load sc4 rfl (hs.blk_at 0 rfl (pm pg) (sc_at hplt))) rfl ?_
        refine Ls_run (run_not rfl) rfl ?_
        refine Ls_nil ?_
        refine Jm_seq ?_
        refine St_ifN rfl (fun h23 => ?_) (fun h23 => ?_)
        · skip
          refine St_seq ?_
          refine St_region ?_
          refine Ls_run (run_move rfl) rfl ?_
          refine Ls_run (run_as (run_index_arr Try.underlying117 inf4 rfl rfl (by omega) (by omega)) (show _ = Value.pointer (some ⟨b2, pm pg, none⟩) by simp)) rfl ?_
          refine Ls_store hs inf4 rfl rfl rfl (Nat.ble_eq_true_of_le (by rw [sc_len]; omega)) ?_
          intro w24 hs
          rw [sc_set (x := x.take 1024)] at hs
          refine Ls_nil ?_
          refine Jm_seq ?_
          refine St_region ?_
          refine Ls_run (run_move rfl) rfl ?_
          refine Ls_run (run_move rfl) rfl ?_
          refine Ls_run (run_move rfl) rfl ?_
          refine Ls_run (run_buildO (pv := [(0, _), (1, _)]) rfl (bld45_0_1 _ _ _ _)) rfl ?_
          refine Ls_literal [_] hs Try.underlying51 inf45 rfl rfl rfl rfl rfl rfl ?_
          intro b25 w26 hs
          simp only [List.flatMap_cons, List.flatMap_nil, Value.cells, List.cons_append, List.nil_append] at hs
          replace hs := hs.front 2 rfl
          simp only [List.cons_append, List.nil_append, List.eraseIdx_cons_zero, List.eraseIdx_cons_succ] at hs
          refine Ls_append hs Try.underlying51 inf45 rfl (by decide) (by decide) rfl rfl (rd_block (hs.is_at 1 rfl).2 2 1 rfl) (by simp [KW, Value.oneCell']) (by omega) rfl ?_
          intro A27 c28 w29 hs
          replace hs := hs.erase 1
          simp only [List.cons_append, List.nil_append, List.eraseIdx_cons_zero, List.eraseIdx_cons_succ] at hs
          refine Ls_run (run_assign rfl) rfl ?_
          refine Ls_nil ?_
          refine Jm_block_normal (Jm_seq ?_)
          refine St_region ?_
          refine Ls_run (run_move rfl) rfl ?_
          refine Ls_run (run_add rfl rfl (w64 (by omega))) rfl ?_
          refine Ls_run (run_assign rfl) rfl ?_
          refine Ls_nil ?_
          replace hs := hs.front 1 rfl
          simp only [List.cons_append, List.nil_append, List.eraseIdx_cons_zero, List.eraseIdx_cons_succ] at hs
          have htx : x.take 1024 = x := List.take_of_length_le (by omega)
          refine Jm_round (i + 1, (Value.slice A27 (k + 1) c28), (k + 1), (vo ++ [(((pm pg : Nat) : Int), Aw, nw, cw)]), (acc ++ [(((pm pg : Nat) : Int), x.take 1024)])) ?_ ?_ ?_
          · rw [hEn3]; exact (subE_cons rfl (subE_cons rfl (subE_cons rfl (subE_cons rfl subE_nil))))
          · skip
            rw [hIv4]
            rw [fitF_out (by assumption)] at hft
            refine ⟨by rw [flatKW_snoc]; exact hs, by omega, by omega, hft, hpp.snoc (by rw [htx]; exact hrw), hga.snoc (by assumption) hwq.2.1, by simp; omega, _, _, rfl⟩
          · skip
            rw [hms5, hms5]
            omega
        · skip
          refine St_skip ?_
          refine Jm_block_normal (Jm_seq ?_)
          refine St_region ?_
          refine Ls_run (run_move rfl) rfl ?_
          refine Ls_run (run_add rfl rfl (w64 (by omega))) rfl ?_
          refine Ls_run (run_assign rfl) rfl ?_
          refine Ls_nil ?_
          refine Jm_round (i + 1, (Value.slice A3 k c3), k, vo, acc) ?_ ?_ ?_
          · rw [hEn3]; exact (subE_cons rfl (subE_cons rfl (subE_cons rfl (subE_cons rfl subE_nil))))
          · skip
            rw [hIv4]
            rw [fitF_in (by assumption)] at hft
            exact ⟨hs, by omega, by omega, hft, hpp, hga, hal, A3, c3, rfl⟩
          · skip
            rw [hms5, hms5]
            omega
    · skip
      refine St_exit ?_
      refine Jm_then_exit (Jm_then_exit (Jm_block_same (Jm_seq ?_)))
      refine St_seq ?_
      refine St_region ?_
      refine Ls_run (run_move rfl) rfl ?_
      refine Ls_run (run_assign rfl) rfl ?_
      refine Ls_nil ?_
      refine Jm_seq ?_
      refine St_ret ?_
      refine Jm_ret1 rfl rfl ?_
      have hz : (ws.take 64).drop i = [] := List.drop_of_length_le (by rw [List.length_take]; omega)
      rw [hz] at hft
      have hft2 : acc = fitL ws := hft
      rw [← hft2]
      subst hal
      replace hs := hs.erase 0
      simp only [List.eraseIdx_cons_zero] at hs
      exact ⟨_, rfl, A3, c3, vo, rfl, hs, hpp⟩
  · skip
    refine Ls_off rfl rfl rfl rfl ?_
    refine Ls_off rfl rfl rfl rfl ?_
    refine Ls_run (run_pick_f rfl rfl) rfl ?_
    refine Ls_nil ?_
    refine Jm_seq ?_
    refine St_iff rfl ?_
    refine St_exit ?_
    refine Jm_then_exit (Jm_then_exit (Jm_block_same (Jm_seq ?_)))
    refine St_seq ?_
    refine St_region ?_
    refine Ls_run (run_move rfl) rfl ?_
    refine Ls_run (run_assign rfl) rfl ?_
    refine Ls_nil ?_
    refine Jm_seq ?_
    refine St_ret ?_
    refine Jm_ret1 rfl rfl ?_
    have hz : (ws.take 64).drop i = [] := List.drop_of_length_le (by rw [List.length_take]; omega)
    rw [hz] at hft
    have hft2 : acc = fitL ws := hft
    rw [← hft2]
    subst hal
    replace hs := hs.erase 0
    simp only [List.eraseIdx_cons_zero] at hs
    exact ⟨_, rfl, A3, c3, vo, rfl, hs, hpp⟩
set_option maxRecDepth 100000 in
set_option maxHeartbeats 1000000 in
theorem with_c (w : World) (W : List (List Int)) (hW0 : W.length = 8) (A : Option Addr) (n c : Nat) (vs : List KWt) (ws : List Wr) (hw : PWs w A n c vs ws) (hok : PWok ws) (hpl : ∀ x ∈ ws, 0 ≤ x.1 ∧ x.1 < 8) (hn : n ≤ 9223372036854775806) :
    Calls Try.prog 27 [.agg (SW W).toArray, .slice A n c].toArray w (Ret (fun v' w' => v' = .agg (SW (withL W ws)).toArray ∧ Sat w w' [])) := by
  have hs := Sat.start w
  have hwn := hw.n
  refine Calls_body Try.func27 rfl rfl rfl (envE_cons (i := 0) (v := .agg (SW W).toArray) rfl (envE_cons (i := 1) (v := .slice A n c) rfl envE_nil)) ?_
  refine St_seq ?_
  refine St_region ?_
  refine Ls_box hs rfl rfl ?_
  intro b2 w1 hs
  refine Ls_alloc hs inf50 rfl ?_
  intro b4 w3 hs
  refine Ls_nil ?_
  refine Jm_seq ?_
  refine St_seq ?_
  refine St_seq ?_
  refine St_region ?_
  refine Ls_run (run_assign rfl) rfl ?_
  refine Ls_nil ?_
  refine Jm_seq ?_
  refine St_block ?_
  replace hs := hs.front 1 rfl
  simp only [List.cons_append, List.nil_append, List.eraseIdx_cons_zero, List.eraseIdx_cons_succ] at hs
  obtain ⟨En5, hEn5⟩ : ∃ F : Nat × List (List Int) → Env, ∀ (i : Nat) (W2 : List (List Int)), F (i, W2) = [(1, .slice A n c), (2, .pointer (some ⟨b2, 0, none⟩)), (4, .pointer (some ⟨b4, 0, none⟩)), (5, .int .i64 (i : Int))] := ⟨(fun (sx0 : Nat × List (List Int)) => match sx0 with | (i, W2) => [(1, .slice A n c), (2, .pointer (some ⟨b2, 0, none⟩)), (4, .pointer (some ⟨b4, 0, none⟩)), (5, .int .i64 (i : Int))]), fun _ _ => rfl⟩
  obtain ⟨Iv6, hIv6⟩ : ∃ F : Nat × List (List Int) → World → Prop, ∀ (i : Nat) (W2 : List (List Int)) (wr : World), F (i, W2) wr = (Sat w wr [Blk b2 (SW W2) 50, Blk b4 [.string ByteArray.empty, .string ByteArray.empty, .string ByteArray.empty, .string ByteArray.empty, .string ByteArray.empty, .string ByteArray.empty, .string ByteArray.empty, .string ByteArray.empty] 50] ∧ i ≤ n ∧ W2 = withL W (ws.take i)) := ⟨(fun (sx0 : Nat × List (List Int)) => match sx0 with | (i, W2) => fun (wr : World) => Sat w wr [Blk b2 (SW W2) 50, Blk b4 [.string ByteArray.empty, .string ByteArray.empty, .string ByteArray.empty, .string ByteArray.empty, .string ByteArray.empty, .string ByteArray.empty, .string ByteArray.empty, .string ByteArray.empty] 50] ∧ i ≤ n ∧ W2 = withL W (ws.take i)), fun _ _ _ => rfl⟩
  obtain ⟨ms7, hms7⟩ : ∃ F : Nat × List (List Int) → Nat, ∀ (i : Nat) (W2 : List (List Int)), F (i, W2) = (n - i) := ⟨(fun (sx0 : Nat × List (List Int)) => match sx0 with | (i, W2) => n - i), fun _ _ => rfl⟩
  refine St_loop En5 Iv6 ms7 (0, W) ?_ ?_ ?_
  · skip
    rw [hIv6]
    exact ⟨hs, by omega, rfl⟩
  · rw [hEn5]; exact (subE_cons rfl (subE_cons rfl (subE_cons rfl (subE_cons rfl subE_nil))))
  rintro ⟨i, W2⟩ wr hI8
  rw [hIv6] at hI8
  obtain ⟨hs, hi, hW2⟩ := hI8
  refine St_eqE (hEn5 _ _) ?_
  have hW : W2.length = 8 := by rw [hW2, withL_len]; exact hW0
  refine St_seq ?_
  refine St_seq ?_
  refine St_region ?_
  refine Ls_run (run_move rfl) rfl ?_
  refine Ls_run (run_move rfl) rfl ?_
  refine Ls_run (run_len Try.underlying51 rfl) rfl ?_
  refine Ls_run (run_lss rfl rfl) rfl ?_
  refine Ls_nil ?_
  refine Jm_seq ?_
  refine St_ifP rfl (fun h9 => ?_) (fun h9 => ?_)
  · skip
    refine St_skip ?_
    refine Jm_seq ?_
    refine St_seq ?_
    refine St_block ?_
    refine St_drawC 12 (fun x => Below wr.heap.size wr x) mixed ?_
    intro w10 q11
    have hH := q11.below
    replace hs := hs.quiet q11
    refine AnC_grow hH ?_
    replace hH := Below.refl w10.heap.size w10
    refine AnC_takeP 0 (by kernel_rfl) rfl (by kernel_rfl) (by kernel_rfl) (by kernel_rfl) (fun _ _ _ h => h) (fun _ => hH) (fun x => run_move rfl) rfl ?_
    refine AnC_takeP 1 (by kernel_rfl) rfl (by kernel_rfl) (by kernel_rfl) (by kernel_rfl) (fun _ _ _ h => h) (fun _ => hH) (fun x => run_move rfl) rfl ?_
    obtain ⟨⟨pg, Aw, nw, cw⟩, ho⟩ : ∃ o, vs.getD i (0, none, 0, 0) = o := ⟨_, rfl⟩
    obtain ⟨⟨q, x⟩, hq⟩ : ∃ o, ws.getD i (0, []) = o := ⟨_, rfl⟩
    obtain ⟨hpg, hrw⟩ := hw.at_ i (by omega)
    rw [ho, hq] at hpg
    rw [ho, hq] at hrw
    simp only at hpg hrw
    subst hpg
    have hxl := rdB_len hrw
    have hwq := hok _ (wmem (ws := ws) (i := i) (by omega))
    rw [hq] at hwq
    simp only at hwq
    have hfp := hpl _ (wmem (ws := ws) (i := i) (by omega))
    rw [hq] at hfp
    simp only at hfp
    obtain ⟨k, rfl⟩ : ∃ k : Nat, pg = (k : Int) := ⟨pg.toNat, by omega⟩
    refine AnC_index 2 [12, 2] (KW) rfl (by kernel_rfl) (by kernel_rfl) (by kernel_rfl) (by kernel_rfl) (fun _ _ _ _ h => h) hH (fun x hx => ((hw.rd.inB hs).grow hx)) Try.underlying51 inf45 rfl rfl (by omega) (by omega) ho rfl ?_
    intro b12 o13 hc14
    refine AnC_takeP 3 (by kernel_rfl) rfl (by kernel_rfl) (by kernel_rfl) (by kernel_rfl) (fun _ _ _ h => h) (fun _ => hH) (fun x => run_field Try.underlying45 rfl inf3 (by decide) rfl) rfl ?_
    refine AnC_take 4 [12, 4] rfl (by kernel_rfl) (by kernel_rfl) (by kernel_rfl) (by kernel_rfl) (fun _ _ _ h => h) hH (fun x hx => run_as (run_load sc3 rfl ((hc14 x hx) 0 _ rfl)) (show _ = Value.int .i64 (k : Int) from rfl)) rfl ?_
    refine AnC_takeP 5 (by kernel_rfl) rfl (by kernel_rfl) (by kernel_rfl) (by kernel_rfl) (fun _ _ _ h => h) (fun _ => hH) (fun x => run_move rfl) rfl ?_
    refine AnC_takeP 6 (by kernel_rfl) rfl (by kernel_rfl) (by kernel_rfl) (by kernel_rfl) (fun _ _ _ h => h) (fun _ => hH) (fun x => run_move rfl) rfl ?_
    refine AnC_index 7 [12, 7] (KW) rfl (by kernel_rfl) (by kernel_rfl) (by kernel_rfl) (by kernel_rfl) (fun _ _ _ _ h => h) hH (fun x hx => ((hw.rd.inB hs).grow hx)) Try.underlying51 inf45 rfl rfl (by omega) (by omega) ho rfl ?_
    intro b15 o16 hc17
    refine AnC_takeP 8 (by kernel_rfl) rfl (by kernel_rfl) (by kernel_rfl) (by kernel_rfl) (fun _ _ _ h => h) (fun _ => hH) (fun x => run_field Try.underlying45 rfl inf28 (by decide) rfl) rfl ?_
    refine AnC_take 9 [12, 9] rfl (by kernel_rfl) (by kernel_rfl) (by kernel_rfl) (by kernel_rfl) (fun _ _ _ h => h) hH (fun x hx => run_as (run_load sc28 rfl ((hc17 x hx) 1 _ rfl)) (show _ = Value.slice Aw nw cw from rfl)) rfl ?_
    refine AnC_take 10 [12, 10] rfl (by kernel_rfl) (by kernel_rfl) (by kernel_rfl) (by kernel_rfl) (fun _ _ _ h => h) hH (fun x hx => run_string Try.underlying28 Try.underlying5 Try.underlying9 rfl ((hrw.inB hs).grow hx)) rfl ?_
    refine AnC_takeP 11 (by kernel_rfl) rfl (by kernel_rfl) (by kernel_rfl) (by kernel_rfl) (fun _ _ _ h => h) (fun _ => hH) (fun x => run_as (run_index_arr Try.underlying50 inf9 rfl rfl (by omega) (by omega)) (show _ = Value.pointer (some ⟨b2, k, none⟩) by simp)) rfl ?_
    refine AnC_only 12 (by kernel_rfl) rfl ?_
    refine Ls_store hs inf9 rfl rfl rfl (Nat.ble_eq_true_of_le (by rw [SW_len, hW]; omega)) ?_
    intro w18 hs
    rw [SW_set] at hs
    refine Ls_nil (Jm_AnC_closed (by kernel_rfl) ?_)
    refine AnC_switch (H' := fun x => Below w18.heap.size w18 x) 13 (by kernel_rfl) ?_
    replace hH := Below.refl w18.heap.size w18
    refine AnC_done (by kernel_rfl) ?_
    refine Jm_block_normal (Jm_seq ?_)
    refine St_region ?_
    refine Ls_run (run_move rfl) rfl ?_
    refine Ls_run (run_add rfl rfl (w64 (by omega))) rfl ?_
    refine Ls_run (run_assign rfl) rfl ?_
    refine Ls_nil ?_
    refine Jm_round (i + 1, (W2.set k x)) ?_ ?_ ?_
    · rw [hEn5]; exact (subE_cons rfl (subE_cons rfl (subE_cons rfl (subE_cons rfl subE_nil))))
    · skip
      rw [hIv6]
      exact ⟨hs, by omega, by rw [withL_take (by omega) hq, ← hW2]; rfl⟩
    · skip
      rw [hms7, hms7]
      omega
  · skip
    refine St_exit ?_
    refine Jm_then_exit (Jm_then_exit (Jm_block_same (Jm_seq ?_)))
    refine St_seq ?_
    refine St_region ?_
    refine Ls_run (run_as (run_load_agg agg50 inf50 rfl (show (((SW W2).drop 0).take 8).length = 8 by rw [SW_take hW]; rw [SW_len]; exact hW) (hs.blk_cells 0 rfl 0 8)) (show _ = Value.agg (SW W2).toArray by rw [SW_take hW])) rfl ?_
    replace hs := hs.front 1 rfl
    simp only [List.cons_append, List.nil_append, List.eraseIdx_cons_zero, List.eraseIdx_cons_succ] at hs
    refine Ls_storeAgg hs inf50 rfl rfl (by rw [SW_len]; exact hW) rfl (SW_one _) ?_
    intro w19 hs
    refine Ls_nil ?_
    refine Jm_seq ?_
    refine St_ret ?_
    refine Jm_retC rfl agg50 inf50 rfl (by rw [SW_take hW, SW_len]; exact hW) (hs.blk_cells 0 rfl 0 8) ?_
    rw [SW_take hW, hW2, List.take_of_length_le (by omega)]
    exact ⟨_, rfl, rfl, hs.forget⟩
set_option maxRecDepth 100000 in
set_option maxHeartbeats 1000000 in
theorem holds_c (B w : World) (L : List Assn) (bj b : Nat) (s : BSt) (d : DSt) (W : List (List Int)) (hs : Sat B w (BA 122 3 bj (some ⟨b, 0, none⟩) s :: DiskA 129 28 5 b d :: L)) (hpg : PGb d.bl s W) (hdn : d.down = false) (hen : s.ended = false) (hWb : ∀ x ∈ W, IsBytes x) :
    Calls Try.prog 30 [.pointer (some ⟨bj, 0, none⟩), .agg (SW W).toArray].toArray w (Ret (fun v' w' => ∃ d', v' = .bool true ∧ SameD d d' ∧ Sat B w' (BA 122 3 bj (some ⟨b, 0, none⟩) s :: DiskA 129 28 5 b d' :: L))) := by
  have hWl : W.length = 8 := by rw [← hpg.pt.1]; exact hpg.l8
  refine Calls_body Try.func30 rfl rfl rfl (envE_cons (i := 0) (v := .pointer (some ⟨bj, 0, none⟩)) rfl (envE_cons (i := 1) (v := .agg (SW W).toArray) rfl envE_nil)) ?_
  refine St_seq ?_
  refine St_region ?_
  refine Ls_box hs rfl rfl ?_
  intro b2 w1 hs
  refine Ls_run (run_assign rfl) rfl ?_
  refine Ls_nil ?_
  refine Jm_seq ?_
  refine St_seq ?_
  refine St_region ?_
  refine Ls_run (run_assign rfl) rfl ?_
  refine Ls_nil ?_
  refine Jm_seq ?_
  refine St_seq ?_
  refine St_seq ?_
  refine St_region ?_
  refine Ls_run (run_assign rfl) rfl ?_
  refine Ls_nil ?_
  refine Jm_seq ?_
  refine St_block ?_
  obtain ⟨En3, hEn3⟩ : ∃ F : Nat × Nat × DSt → Env, ∀ (p : Nat) (k : Nat) (d1 : DSt), F (p, k, d1) = [(0, .pointer (some ⟨bj, 0, none⟩)), (3, .pointer (some ⟨b2, 0, none⟩)), (5, .int .i64 (k : Int)), (6, .int .i64 (p : Int))] := ⟨(fun (sx0 : Nat × Nat × DSt) => match sx0 with | (p, k, d1) => [(0, .pointer (some ⟨bj, 0, none⟩)), (3, .pointer (some ⟨b2, 0, none⟩)), (5, .int .i64 (k : Int)), (6, .int .i64 (p : Int))]), fun _ _ _ => rfl⟩
  obtain ⟨Iv4, hIv4⟩ : ∃ F : Nat × Nat × DSt → World → Prop, ∀ (p : Nat) (k : Nat) (d1 : DSt) (wr : World), F (p, k, d1) wr = (Sat B wr (Blk b2 (SW W) 50 :: BA 122 3 bj (some ⟨b, 0, none⟩) s :: DiskA 129 28 5 b d1 :: L) ∧ p ≤ 8 ∧ k = wused (W.take p) ∧ SameD d d1) := ⟨(fun (sx0 : Nat × Nat × DSt) => match sx0 with | (p, k, d1) => fun (wr : World) => Sat B wr (Blk b2 (SW W) 50 :: BA 122 3 bj (some ⟨b, 0, none⟩) s :: DiskA 129 28 5 b d1 :: L) ∧ p ≤ 8 ∧ k = wused (W.take p) ∧ SameD d d1), fun _ _ _ _ => rfl⟩
  obtain ⟨ms5, hms5⟩ : ∃ F : Nat × Nat × DSt → Nat, ∀ (p : Nat) (k : Nat) (d1 : DSt), F (p, k, d1) = (8 - p) := ⟨(fun (sx0 : Nat × Nat × DSt) => match sx0 with | (p, k, d1) => 8 - p), fun _ _ _ => rfl⟩
  refine St_loop En3 Iv4 ms5 (0, 0, d) ?_ ?_ ?_
  · skip
    rw [hIv4]
    exact ⟨hs, by omega, by simp [wused], SameD.refl d⟩
  · rw [hEn3]; exact (subE_cons rfl (subE_cons rfl (subE_cons rfl (subE_cons rfl subE_nil))))
  rintro ⟨p, k, d1⟩ wr hI6
  rw [hIv4] at hI6
  obtain ⟨hs, hp, hk, hsm⟩ := hI6
  refine St_eqE (hEn3 _ _ _) ?_
  have hk9 := wused_len (W.take p)
  rw [List.length_take] at hk9
  have hp18 : p < 8 → p < W.length := fun h => by omega
  have hWb0 : IsBytes (W.getD p []) := by by_cases h : p < W.length; exact hWb _ (getD_mem_bl h); rw [List.getD_eq_getElem?_getD, List.getElem?_eq_none (by omega)]; simp [IsBytes]
  refine St_seq ?_
  refine St_seq ?_
  refine St_region ?_
  refine Ls_run (run_move rfl) rfl ?_
  refine Ls_run (run_lss rfl rfl) rfl ?_
  refine Ls_nil ?_
  refine Jm_seq ?_
  refine St_ifP rfl (fun h7 => ?_) (fun h7 => ?_)
  · skip
    refine St_skip ?_
    refine Jm_seq ?_
    refine St_seq ?_
    refine St_block ?_
    refine St_seq ?_
    refine St_region ?_
    refine Ls_run (run_move rfl) rfl ?_
    refine Ls_run (run_move rfl) rfl ?_
    replace hs := hs.front 2 rfl
    simp only [List.cons_append, List.nil_append, List.eraseIdx_cons_zero, List.eraseIdx_cons_succ] at hs
    replace hs := hs.front 2 rfl
    simp only [List.cons_append, List.nil_append, List.eraseIdx_cons_zero, List.eraseIdx_cons_succ] at hs
    obtain ⟨d2, hgp, hsm2⟩ := PGb.get (d := d1) (p := p) (by rw [hsm.1]; exact hpg) (hsm.2.1.trans hdn) hen (by omega)
    refine Ls_call Try.func31 nm31 rfl rfl (BGet_g B wr _ bj b s d1 hs ⟨by rw [hsm.1]; exact hpg.rows, by rw [hsm.1, hpg.n]; decide⟩ (by rw [hpg.l8]; decide) (p : Int)) rfl ?_
    rintro v8 w9 ⟨Ag, cg, rfl, hs⟩
    simp only [hgp] at hs ⊢
    refine Ls_run (run_move rfl) rfl ?_
    refine Ls_run (run_extract rfl rfl) rfl ?_
    refine Ls_run (run_extract rfl rfl) rfl ?_
    refine Ls_run (run_assign rfl) rfl ?_
    refine Ls_run (run_assign rfl) rfl ?_
    refine Ls_nil ?_
    refine Jm_seq ?_
    refine St_seq ?_
    refine St_seq ?_
    refine St_draw (fun x => Below w9.heap.size w9 x) mixed ?_
    intro w10 q11
    have hH := q11.below
    replace hs := hs.quiet q11
    refine An_grow hH ?_
    replace hH := Below.refl w10.heap.size w10
    refine An_take 0 rfl (by kernel_rfl) (by kernel_rfl) (by kernel_rfl) (fun _ _ _ h => h) hH (fun x hx => run_move rfl) rfl ?_
    refine An_take 1 rfl (by kernel_rfl) (by kernel_rfl) (by kernel_rfl) (fun _ _ _ h => h) hH (fun x hx => run_asB (c := false) (run_neq rfl rfl) (by simp)) rfl ?_
    refine An_take 2 rfl (by kernel_rfl) (by kernel_rfl) (by kernel_rfl) (fun _ _ _ h => h) hH (fun x hx => run_move rfl) rfl ?_
    refine An_take_on 3 rfl (by kernel_rfl) (by kernel_rfl) (by kernel_rfl) rfl rfl (fun _ _ _ h => h) hH (fun x hx => run_move rfl) rfl ?_
    refine An_take_on 4 rfl (by kernel_rfl) (by kernel_rfl) (by kernel_rfl) rfl rfl (fun _ _ _ h => h) hH (fun x hx => run_string Try.underlying28 Try.underlying5 Try.underlying9 rfl ((hs.rd_at 2 rfl).grow hx)) rfl ?_
    refine An_take_on 5 rfl (by kernel_rfl) (by kernel_rfl) (by kernel_rfl) rfl rfl (fun _ _ _ h => h) hH (fun x hx => run_move rfl) rfl ?_
    refine An_take_on 6 rfl (by kernel_rfl) (by kernel_rfl) (by kernel_rfl) rfl rfl (fun _ _ _ h => h) hH (fun x hx => run_as (run_index_arr Try.underlying50 inf9 rfl rfl (by omega) (by omega)) (show _ = Value.pointer (some ⟨b2, p, none⟩) by simp)) rfl ?_
    refine An_take_on 7 rfl (by kernel_rfl) (by kernel_rfl) (by kernel_rfl) rfl rfl (fun _ _ _ h => h) hH (fun x hx => run_load sc9 rfl ((hs.grow hx).blk_at 3 rfl p (SW_at (by omega)))) rfl ?_
    refine An_take_on 8 rfl (by kernel_rfl) (by kernel_rfl) (by kernel_rfl) rfl rfl (fun _ _ _ h => h) hH (fun x hx => run_asB (c := false) (run_neq_str rfl rfl) (by simp)) rfl ?_
    refine An_take 9 rfl (by kernel_rfl) (by kernel_rfl) (by kernel_rfl) (fun _ _ _ h => h) hH (fun x hx => run_pick_f rfl rfl) rfl ?_
    refine An_done (by kernel_rfl) ?_
    refine Jm_seq ?_
    refine St_iff rfl ?_
    refine St_skip ?_
    refine Jm_seq ?_
    refine St_seq ?_
    refine St_region ?_
    refine Ls_run (run_move rfl) rfl ?_
    refine Ls_run (run_as (run_index_arr Try.underlying50 inf9 rfl rfl (by omega) (by omega)) (show _ = Value.pointer (some ⟨b2, p, none⟩) by simp)) rfl ?_
    refine Ls_run (run_load sc9 rfl (hs.blk_at 3 rfl p (SW_at (by omega)))) rfl ?_
    refine Ls_run (run_as (run_neq_str rfl rfl) (show _ = Value.bool (!decide (W.getD p [] = [])) by rw [← strOfNums_inj hWb0 (by simp [IsBytes])]; rfl)) rfl ?_
    refine Ls_nil ?_
    refine Jm_seq ?_
    refine St_ifN rfl (fun h13 => ?_) (fun h13 => ?_)
    · skip
      refine St_region ?_
      refine Ls_run (run_move rfl) rfl ?_
      refine Ls_run (run_add rfl rfl (w64 (by omega))) rfl ?_
      refine Ls_run (run_assign rfl) rfl ?_
      refine Ls_nil ?_
      refine Jm_block_normal (Jm_seq ?_)
      refine St_region ?_
      refine Ls_run (run_move rfl) rfl ?_
      refine Ls_run (run_add rfl rfl (w64 (by omega))) rfl ?_
      refine Ls_run (run_assign rfl) rfl ?_
      refine Ls_nil ?_
      replace hs := hs.erase 2
      simp only [List.cons_append, List.nil_append, List.eraseIdx_cons_zero, List.eraseIdx_cons_succ] at hs
      replace hs := hs.front 1 rfl
      simp only [List.cons_append, List.nil_append, List.eraseIdx_cons_zero, List.eraseIdx_cons_succ] at hs
      replace hs := hs.front 1 rfl
      simp only [List.cons_append, List.nil_append, List.eraseIdx_cons_zero, List.eraseIdx_cons_succ] at hs
      replace hs := hs.front 2 rfl
      simp only [List.cons_append, List.nil_append, List.eraseIdx_cons_zero, List.eraseIdx_cons_succ] at hs
      refine Jm_round (p + 1, (k + 1), d2) ?_ ?_ ?_
      · rw [hEn3]; exact (subE_cons rfl (subE_cons rfl (subE_cons rfl (subE_cons rfl subE_nil))))
      · skip
        rw [hIv4]
        exact ⟨hs, by omega, by rw [wused_take (by omega), ← hk]; simp_all, hsm.trans hsm2⟩
      · skip
        rw [hms5, hms5]
        omega
    · skip
      refine St_skip ?_
      refine Jm_block_normal (Jm_seq ?_)
      refine St_region ?_
      refine Ls_run (run_move rfl) rfl ?_
      refine Ls_run (run_add rfl rfl (w64 (by omega))) rfl ?_
      refine Ls_run (run_assign rfl) rfl ?_
      refine Ls_nil ?_
      replace hs := hs.erase 2
      simp only [List.cons_append, List.nil_append, List.eraseIdx_cons_zero, List.eraseIdx_cons_succ] at hs
      replace hs := hs.front 1 rfl
      simp only [List.cons_append, List.nil_append, List.eraseIdx_cons_zero, List.eraseIdx_cons_succ] at hs
      replace hs := hs.front 1 rfl
      simp only [List.cons_append, List.nil_append, List.eraseIdx_cons_zero, List.eraseIdx_cons_succ] at hs
      replace hs := hs.front 2 rfl
      simp only [List.cons_append, List.nil_append, List.eraseIdx_cons_zero, List.eraseIdx_cons_succ] at hs
      refine Jm_round (p + 1, k, d2) ?_ ?_ ?_
      · rw [hEn3]; exact (subE_cons rfl (subE_cons rfl (subE_cons rfl (subE_cons rfl subE_nil))))
      · skip
        rw [hIv4]
        exact ⟨hs, by omega, by rw [wused_take (by omega), ← hk]; simp_all, hsm.trans hsm2⟩
      · skip
        rw [hms5, hms5]
        omega
  · skip
    refine St_exit ?_
    refine Jm_then_exit (Jm_then_exit (Jm_block_same (Jm_seq ?_)))
    refine St_seq ?_
    refine St_region ?_
    refine Ls_run (run_move rfl) rfl ?_
    replace hs := hs.front 1 rfl
    simp only [List.cons_append, List.nil_append, List.eraseIdx_cons_zero, List.eraseIdx_cons_succ] at hs
    obtain ⟨A6, c6, hq6⟩ := hs.bopen
    refine Ls_call Try.func51 nm51 rfl rfl (bPages_c wr bj _ s A6 c6 (hq6.is_at 0 rfl).2) rfl ?_
    rintro v14 w15 ⟨rfl, rfl⟩
    rw [hpg.l8]
    refine Ls_run (run_asB (c := true) (run_eql rfl rfl) (by decide)) rfl ?_
    refine Ls_run (run_move rfl) rfl ?_
    refine Ls_on rfl rfl ?_
    refine Ls_run (run_move rfl) rfl ?_
    refine Ls_on rfl rfl ?_
    obtain ⟨A6, c6, hq6⟩ := hs.bopen
    refine Ls_call Try.func49 nm49 rfl rfl (bUsed_c wr bj _ s A6 c6 (hq6.is_at 0 rfl).2 (hq6.rd_at 1 rfl) (by rw [hpg.l8]; decide)) rfl ?_
    rintro v16 w17 ⟨rfl, rfl⟩
    rw [hpg.pt.used]
    refine Ls_on rfl rfl ?_
    refine Ls_run (run_move rfl) rfl ?_
    refine Ls_on rfl rfl ?_
    refine Ls_run (run_asB (c := true) (run_eql rfl rfl) (by rw [decide_eq_true_eq]; rw [hk, List.take_of_length_le (by omega)])) rfl ?_
    refine Ls_run (run_pick_t rfl rfl) rfl ?_
    refine Ls_run (run_move rfl) rfl ?_
    refine Ls_on rfl rfl ?_
    refine Ls_run (run_move rfl) rfl ?_
    refine Ls_on rfl rfl ?_
    obtain ⟨A6, c6, hq6⟩ := hs.bopen
    refine Ls_call Try.func33 nm33 rfl rfl (bEnded_c wr bj _ s A6 c6 (hq6.is_at 0 rfl).2) rfl ?_
    rintro v18 w19 ⟨rfl, rfl⟩
    rw [hen]
    refine Ls_on rfl rfl ?_
    refine Ls_run (run_not rfl) rfl ?_
    refine Ls_run (run_pick_t rfl rfl) rfl ?_
    refine Ls_run (run_assign rfl) rfl ?_
    refine Ls_nil ?_
    refine Jm_seq ?_
    refine St_ret ?_
    refine Jm_ret1 rfl rfl ?_
    replace hs := hs.erase 1
    simp only [List.cons_append, List.nil_append, List.eraseIdx_cons_zero, List.eraseIdx_cons_succ] at hs
    replace hs := hs.front 1 rfl
    simp only [List.cons_append, List.nil_append, List.eraseIdx_cons_zero, List.eraseIdx_cons_succ] at hs
    replace hs := hs.front 1 rfl
    simp only [List.cons_append, List.nil_append, List.eraseIdx_cons_zero, List.eraseIdx_cons_succ] at hs
    have hs5 := hs
    exact ⟨_, rfl, d1, rfl, hsm, hs⟩
end Go.Proofs.Ytipkfdeiallifaa.Lg
