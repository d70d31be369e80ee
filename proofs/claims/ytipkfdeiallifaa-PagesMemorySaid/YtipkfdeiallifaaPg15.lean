/-
  The law PagesMemory, walked. By program (gen/pg15.py).
-/
import Derived.Test.YtipkfdeiallifaaPgL
set_option linter.unusedVariables false
set_option linter.unusedSimpArgs false
namespace Go.Proofs.Ytipkfdeiallifaa.Lg
open Go Go.RowKit Go.Proofs.Ytipkfdeiallifaa.WirePure
theorem dB_pre {w : World} {A : Option Addr} {m c : Nat} {l1 l2 : List Int} (h : Rd w A m c 1 (bytesV (l1 ++ l2))) (n : Nat) (hn : l1.length = n) (hm : n ≤ m) : Rd w A n c 1 (bytesV l1) := by
  have := rdB_take h n hm
  rwa [List.take_left' hn] at this
theorem dB_suf {w : World} {A : Option Addr} {m c : Nat} {l1 l2 : List Int} (h : Rd w A m c 1 (bytesV (l1 ++ l2))) (n : Nat) (hn : l1.length = n) (hm : n ≤ m) : Rd w (if c = n then A else A.map (·.add (n * 1))) (m - n) (c - n) 1 (bytesV l2) := by
  have := rdB_drop h n hm
  rwa [List.drop_left' hn] at this
def AllU8 (xs : List Value) : Prop := ∀ v ∈ xs, ∃ x, v = .int .u8 x
theorem AllU8.at {xs : List Value} (h : AllU8 xs) {i : Nat} (hi : i < xs.length) : ∃ x, xs.getD i nilV = .int .u8 x := h _ (by rw [List.getD_eq_getElem?_getD, List.getElem?_eq_getElem hi]; exact List.getElem_mem _)
theorem AllU8.bytes (l : List Int) : AllU8 (bytesV l) := fun v hv => by
  obtain ⟨x, _, rfl⟩ := List.mem_map.1 hv
  exact ⟨x, rfl⟩
theorem AllU8.put {xs : List Value} (h : AllU8 xs) (i : Nat) (x : Int) : AllU8 (xs.set i (.int .u8 x)) := fun v hv => by
  rcases List.mem_or_eq_of_mem_set hv with h1 | rfl
  · exact h v h1
  · exact ⟨x, rfl⟩
theorem str_size (l : List Int) : (strOfNums l).size = l.length := by simp [strOfNums, ByteArray.size]
theorem flatKW_len (l : List KWt) : (KW.flat l).length = l.length * 2 := El.flat_length ..
theorem flatKW_set0 (v : Int) : ∀ (l : List KWt) (i : Nat), i < l.length → (KW.flat l).set (i * 2) (Value.int .i64 v) = KW.flat (l.set i (v, (l.getD i (0, none, 0, 0)).2))
  | [], i, h => by simp at h
  | (p, A, n, c) :: l, 0, _ => by simp [El.flat, KW]
  | (p, A, n, c) :: l, i + 1, h => by
    have ih := flatKW_set0 v l i (by simpa using h)
    have e : KW.flat ((p, A, n, c) :: l) = Value.int .i64 p :: Value.slice A n c :: KW.flat l := by simp [El.flat, KW]
    have e2 : KW.flat (((p, A, n, c) :: l).set (i + 1) (v, (((p, A, n, c) :: l).getD (i + 1) (0, none, 0, 0)).2)) = Value.int .i64 p :: Value.slice A n c :: KW.flat (l.set i (v, (l.getD i (0, none, 0, 0)).2)) := by simp [El.flat, KW]
    rw [e, e2, ← ih, show (i + 1) * 2 = i * 2 + 1 + 1 by omega]; rfl
/-- The bytes of a list of one's own: what is handed in, and four more. -/
def mk4 (x : Wr) : List Int := x.2 ++ [1, 2, 3, 4]
def Mine (vm : List KWt) (ws : List Value) (l : List Wr) : Prop := vm.length = l.length ∧ ws.length = l.length ∧ ∀ j, j < l.length → ∃ A c, vm.getD j (0, none, 0, 0) = ((l.getD j (0, [])).1, A, (l.getD j (0, [])).2.length, c) ∧ ws.getD j nilV = .slice A ((l.getD j (0, [])).2.length + 4) c
theorem Mine.nil : Mine [] [] [] := ⟨rfl, rfl, fun j hj => by simp at hj⟩
theorem getD_app1 {α : Type} {l : List α} {x d : α} {j : Nat} (h : j < l.length) : (l ++ [x]).getD j d = l.getD j d := by
  rw [List.getD_eq_getElem?_getD, List.getD_eq_getElem?_getD, List.getElem?_append_left h]
theorem getD_app2 {α : Type} {l : List α} {x d : α} {j : Nat} (h : j = l.length) : (l ++ [x]).getD j d = x := by
  subst h; simp
theorem Mine.snoc {vm : List KWt} {ws : List Value} {l : List Wr} {p : Int} {x : List Int} {A : Option Addr} {n c : Nat} (h : Mine vm ws l) (hn : x.length = n) : Mine (vm ++ [(p, A, n, c)]) (ws ++ [.slice A (n + 4) c]) (l ++ [(p, x)]) := by
  obtain ⟨h1, h2, h3⟩ := h
  refine ⟨by simp [h1], by simp [h2], fun j hj => ?_⟩
  rw [List.length_append] at hj
  simp only [List.length_cons, List.length_nil] at hj
  by_cases e : j < l.length
  · rw [getD_app1 e, getD_app1 (by omega), getD_app1 (by omega)]; exact h3 j e
  · rw [getD_app2 (by omega), getD_app2 (by omega), getD_app2 (by omega)]; subst hn; exact ⟨A, c, rfl, rfl⟩
theorem Mine.pws {w : World} {vm : List KWt} {ws : List Value} {l : List Wr} {A : Option Addr} {n c : Nat} (h : Mine vm ws l) (hp : PartsK (El.int .u8) w ws (l.map mk4)) (hr : Rd w A n c 2 (KW.flat vm)) : PWs w A n c vm l := by
  refine ⟨hr, h.1, fun i hi => ?_⟩
  obtain ⟨Ai, ci, h1, h2⟩ := h.2.2 i hi
  obtain ⟨A2, n2, c2, h3, h4⟩ := hp.2 i (by rw [List.length_map]; exact hi)
  rw [h2] at h3; cases h3
  rw [h1]
  refine ⟨rfl, ?_⟩
  have e : (l.map mk4).getD i [] = (l.getD i (0, [])).2 ++ [1, 2, 3, 4] := by
    rw [List.getD_eq_getElem?_getD, List.getElem?_map, List.getD_eq_getElem?_getD, List.getElem?_eq_getElem hi]; rfl
  rw [e, ← bytesV_flat] at h4
  show Rd w Ai (l.getD i (0, [])).2.length ci 1 _
  exact dB_pre h4 _ rfl (by omega)
theorem drop_getD {α : Type} {l : List α} {i : Nat} {d : α} (h : i < l.length) : l.drop i = l.getD i d :: l.drop (i + 1) := by
  rw [List.drop_eq_getElem_cons h, List.getD_eq_getElem?_getD, List.getElem?_eq_getElem h]; rfl
theorem Sat.row_pop {B w : World} {pre : List Assn} {T : TypeId} {ws : List Value} {l : List Wr} {i n c : Nat} {A : Option Addr} {p : Int} {x : List Int} (hs : Sat B w (pre ++ rowsA T (El.int .u8) (ws.drop i) ((l.drop i).map mk4))) (hw : ws.getD i nilV = .slice A (n + 4) c) (hq : l.getD i (0, []) = (p, x)) (hn : x.length = n) (hl : ws.length = l.length) (hi : i < l.length) :
    Sat B w (Own T 1 (.slice A (n + 4) c) (n + 4) (bytesV (x ++ [1, 2, 3, 4])) :: (pre ++ rowsA T (El.int .u8) (ws.drop (i + 1)) ((l.drop (i + 1)).map mk4))) := by
  rw [drop_getD (d := nilV) (by omega), drop_getD (l := l) (d := (0, [])) hi, hw, hq, List.map_cons, rowsA] at hs
  have e : (mk4 (p, x)).length = n + 4 := by simp [mk4, hn]
  rw [e, ← bytesV_flat] at hs
  exact hs.perm List.perm_middle
theorem take_snocW {l : List Wr} {i : Nat} {q : Wr} (h : i < l.length) (e : l.getD i (0, []) = q) : l.take (i + 1) = l.take i ++ [q] := by
  rw [List.take_succ_eq_append_getElem h, ← e, List.getD_eq_getElem?_getD, List.getElem?_eq_getElem h]; rfl
theorem getD_setK {l : List KWt} {i j : Nat} {x : KWt} (h : i < j) : (l.set i x).getD j (0, none, 0, 0) = l.getD j (0, none, 0, 0) := by
  rw [List.getD_eq_getElem?_getD, List.getD_eq_getElem?_getD, List.getElem?_set, if_neg (by omega)]
theorem withL_le : ∀ (l : List Wr) (W : List (List Int)), (∀ x ∈ W, x.length ≤ 1024) → (∀ x ∈ l, x.2.length ≤ 1024) → ∀ x ∈ withL W l, x.length ≤ 1024
  | [], _, h, _ => h
  | (p, x) :: r, W, h, hl => withL_le r _ (fun y hy => by
      rcases List.mem_or_eq_of_mem_set hy with h1 | rfl
      · exact h y h1
      · exact hl (p, y) (by simp)) (fun y hy => hl y (List.mem_cons_of_mem _ hy))
set_option maxRecDepth 100000 in
set_option maxHeartbeats 1000000 in
theorem PagesMemory_c (w : World) (A : Option Addr) (n c : Nat) (vs : List KWt) (ws0 : List Wr) (hw : PWs w A n c vs ws0) (hok : PWok ws0) (hn : n ≤ 9223372036854775806) :
    Calls Try.prog 10 [.slice A n c].toArray w (Ret (fun v' w' => v' = .bool true ∧ Below w.heap.size w w')) := by
  have hs := Sat.start w
  refine Calls_body Try.func10 rfl rfl rfl (envE_cons (i := 0) (v := .slice A n c) rfl envE_nil) ?_
  refine St_seq ?_
  refine St_region ?_
  refine Ls_run (run_assign rfl) rfl ?_
  refine Ls_nil ?_
  refine Jm_seq ?_
  refine St_seq ?_
  refine St_seq ?_
  refine St_region ?_
  refine Ls_call Try.func23 nm23 rfl rfl (awake9_c w) rfl ?_
  rintro v1 w2 ⟨rfl, hsA⟩
  replace hs := hs.trans hsA
  simp only [List.nil_append] at hs
  refine Ls_run (run_not rfl) rfl ?_
  refine Ls_nil ?_
  refine Jm_seq ?_
  refine St_iff rfl ?_
  refine St_skip ?_
  refine Jm_seq ?_
  refine St_seq ?_
  refine St_region ?_
  refine Ls_call Try.func24 nm24 rfl rfl (room_c w2) rfl ?_
  rintro v4 w5 ⟨b0, bj, d0, rfl, hsR, hpg0, hdn0, har0⟩
  replace hs := hs.trans hsR
  simp only [List.cons_append, List.nil_append] at hs
  refine Ls_run (run_move rfl) rfl ?_
  refine Ls_run (run_extract rfl rfl) rfl ?_
  refine Ls_run (run_extract rfl rfl) rfl ?_
  refine Ls_run (run_assign rfl) rfl ?_
  refine Ls_run (run_assign rfl) rfl ?_
  refine Ls_nil ?_
  refine Jm_seq ?_
  refine St_seq ?_
  refine St_seq ?_
  refine St_region ?_
  refine Ls_run (run_move rfl) rfl ?_
  refine Ls_run (run_asB (c := false) (run_eql_ptr_nil Try.underlying47 rfl rfl) rfl) rfl ?_
  refine Ls_nil ?_
  refine Jm_seq ?_
  refine St_iff rfl ?_
  refine St_skip ?_
  refine Jm_seq ?_
  refine St_seq ?_
  refine St_region ?_
  refine Ls_run (run_move rfl) rfl ?_
  refine Ls_call Try.func25 nm25 rfl rfl (fit_c w w5 hs.forget A n c vs ws0 hw hok hn) rfl ?_
  rintro v7 w9 ⟨AF, cF, vF, rfl, hsF, hpF⟩
  have hgF := fitL_good hok
  obtain ⟨lF, hlF⟩ : ∃ q, fitL ws0 = q := ⟨_, rfl⟩
  rw [hlF] at hsF hpF hgF ⊢
  replace hs := hs.trans hsF
  simp only [List.cons_append, List.nil_append] at hs
  have hnF := hgF.len
  refine Ls_run (run_assign rfl) rfl ?_
  refine Ls_nil ?_
  refine Jm_seq ?_
  refine St_seq ?_
  refine St_region ?_
  refine Ls_run (run_as (run_buildO (pv := []) rfl (bld50 )) (show _ = Value.agg (SW (List.replicate 8 [])).toArray from rfl)) rfl ?_
  refine Ls_run (run_move rfl) rfl ?_
  refine Ls_call Try.func27 nm27 rfl rfl (with_c w9 (List.replicate 8 []) (List.length_replicate) AF lF.length cF vF lF ((hpF.inB hs).with_ (hs.rd_at 0 rfl)) hgF.ok (fun x hx => (hgF.2 x hx).1) (by omega)) rfl ?_
  rintro v10 w11 ⟨rfl, hsW12⟩
  replace hs := hs.trans hsW12
  simp only [List.nil_append, List.cons_append] at hs
  refine Ls_alloc hs inf50 rfl ?_
  intro b14 w13 hs
  refine Ls_storeAgg hs inf50 rfl rfl (by rw [SW_len, withL_len]; exact (List.length_replicate)) (by first | rfl | (rw [SW_len]; exact (List.length_replicate))) (SW_one _) ?_
  intro w15 hs
  refine Ls_nil ?_
  refine Jm_seq ?_
  refine St_seq ?_
  refine St_region ?_
  refine Ls_run (run_move rfl) rfl ?_
  refine Ls_run (run_len Try.underlying51 rfl) rfl ?_
  refine Ls_run (run_as (run_add rfl rfl (w64 (by omega))) (show _ = Value.int .i64 ((lF.length + 2 : Nat) : Int) from rfl)) rfl ?_
  refine Ls_make0 (m := (lF.length + 2)) hs Try.underlying51 inf45 (by decide) rfl rfl (by omega) (by omega) rfl ?_
  intro b16 w17 hs
  refine Ls_run (run_assign rfl) rfl ?_
  refine Ls_nil ?_
  refine Jm_seq ?_
  refine St_seq ?_
  refine St_seq ?_
  refine St_region ?_
  refine Ls_run (run_assign rfl) rfl ?_
  refine Ls_nil ?_
  refine Jm_seq ?_
  refine St_block ?_
  replace hs := hs.front 1 rfl
  simp only [List.cons_append, List.nil_append, List.eraseIdx_cons_zero, List.eraseIdx_cons_succ] at hs
  replace hs := hs.front 4 rfl
  simp only [List.cons_append, List.nil_append, List.eraseIdx_cons_zero, List.eraseIdx_cons_succ] at hs
  replace hs := hs.front 4 rfl
  simp only [List.cons_append, List.nil_append, List.eraseIdx_cons_zero, List.eraseIdx_cons_succ] at hs
  replace hs := hs.front 4 rfl
  simp only [List.cons_append, List.nil_append, List.eraseIdx_cons_zero, List.eraseIdx_cons_succ] at hs
  replace hs := hs.front 4 rfl
  simp only [List.cons_append, List.nil_append, List.eraseIdx_cons_zero, List.eraseIdx_cons_succ] at hs
  obtain ⟨En18, hEn18⟩ : ∃ F : Nat × List KWt × List Value × Value → Env, ∀ (i : Nat) (vm : List KWt) (ws : List Value) (mv : Value), F (i, vm, ws, mv) = [(4, .pointer (some ⟨bj, 0, none⟩)), (5, .slice AF lF.length cF), (6, .pointer (some ⟨b14, 0, none⟩)), (7, mv), (8, .int .i64 (i : Int))] := ⟨(fun (sx0 : Nat × List KWt × List Value × Value) => match sx0 with | (i, vm, ws, mv) => [(4, .pointer (some ⟨bj, 0, none⟩)), (5, .slice AF lF.length cF), (6, .pointer (some ⟨b14, 0, none⟩)), (7, mv), (8, .int .i64 (i : Int))]), fun _ _ _ _ => rfl⟩
  obtain ⟨Iv19, hIv19⟩ : ∃ F : Nat × List KWt × List Value × Value → World → Prop, ∀ (i : Nat) (vm : List KWt) (ws : List Value) (mv : Value) (wr : World), F (i, vm, ws, mv) wr = (Sat w wr (Own 45 2 mv i (KW.flat vm) :: Own 45 2 (.slice AF lF.length cF) lF.length (KW.flat vF) :: BA 122 3 bj (some ⟨b0, 0, none⟩) (bnew 8) :: DiskA 129 28 5 b0 d0 :: Blk b14 (SW (withL (List.replicate 8 []) lF)) 50 :: rowsA 5 (El.int .u8) ws ((lF.take i).map mk4)) ∧ i ≤ lF.length ∧ Mine vm ws (lF.take i) ∧ ∃ A c, mv = .slice A i c) := ⟨(fun (sx0 : Nat × List KWt × List Value × Value) => match sx0 with | (i, vm, ws, mv) => fun (wr : World) => Sat w wr (Own 45 2 mv i (KW.flat vm) :: Own 45 2 (.slice AF lF.length cF) lF.length (KW.flat vF) :: BA 122 3 bj (some ⟨b0, 0, none⟩) (bnew 8) :: DiskA 129 28 5 b0 d0 :: Blk b14 (SW (withL (List.replicate 8 []) lF)) 50 :: rowsA 5 (El.int .u8) ws ((lF.take i).map mk4)) ∧ i ≤ lF.length ∧ Mine vm ws (lF.take i) ∧ ∃ A c, mv = .slice A i c), fun _ _ _ _ _ => rfl⟩
  obtain ⟨ms20, hms20⟩ : ∃ F : Nat × List KWt × List Value × Value → Nat, ∀ (i : Nat) (vm : List KWt) (ws : List Value) (mv : Value), F (i, vm, ws, mv) = (lF.length - i) := ⟨(fun (sx0 : Nat × List KWt × List Value × Value) => match sx0 with | (i, vm, ws, mv) => lF.length - i), fun _ _ _ _ => rfl⟩
  refine St_loop En18 Iv19 ms20 (0, [], [], (.slice (some ⟨b16, 0, none⟩) 0 (lF.length + 2))) ?_ ?_ ?_
  · skip
    rw [hIv19]
    exact ⟨hs, by omega, Mine.nil, _, _, rfl⟩
  · rw [hEn18]; exact (subE_cons rfl (subE_cons rfl (subE_cons rfl (subE_cons rfl (subE_cons rfl subE_nil)))))
  rintro ⟨i, vm, ws, mv⟩ wr hI21
  rw [hIv19] at hI21
  obtain ⟨hs, hi, hM, AM, cM, hmv⟩ := hI21
  refine St_eqE (hEn18 _ _ _ _) ?_
  subst hmv
  refine St_seq ?_
  refine St_seq ?_
  refine St_region ?_
  refine Ls_run (run_move rfl) rfl ?_
  refine Ls_run (run_move rfl) rfl ?_
  refine Ls_run (run_len Try.underlying51 rfl) rfl ?_
  refine Ls_run (run_lss rfl rfl) rfl ?_
  refine Ls_nil ?_
  refine Jm_seq ?_
  refine St_ifP rfl (fun h22 => ?_) (fun h22 => ?_)
  · skip
    refine St_skip ?_
    refine Jm_seq ?_
    refine St_seq ?_
    refine St_block ?_
    refine St_seq ?_
    refine St_region ?_
    obtain ⟨⟨pg, Ai, ni, ci⟩, hv⟩ : ∃ q, vF.getD i (0, none, 0, 0) = q := ⟨_, rfl⟩
    obtain ⟨⟨q, x⟩, hq⟩ : ∃ o, lF.getD i (0, []) = o := ⟨_, rfl⟩
    obtain ⟨hpi, hri⟩ := hpF.2 i (by omega)
    rw [hv, hq] at hpi
    rw [hv, hq] at hri
    simp only at hpi hri
    subst hpi
    have hxl := rdB_len hri
    have hxg := hgF.2 _ (wmem (ws := lF) (i := i) (by omega))
    rw [hq] at hxg
    simp only at hxg
    refine Ls_run (run_move rfl) rfl ?_
    refine Ls_run (run_move rfl) rfl ?_
    refine Ls_index (KW) (hs.rd_at 1 rfl) Try.underlying51 inf45 rfl rfl (by omega) (by omega) hv rfl ?_
    intro b23 o24 hc25
    refine Ls_run (run_field Try.underlying45 rfl inf28 (by decide) rfl) rfl ?_
    refine Ls_run (run_as (run_load sc28 rfl (hc25 1 _ rfl)) (show _ = Value.slice Ai ni ci from rfl)) rfl ?_
    refine Ls_run (run_len Try.underlying28 rfl) rfl ?_
    refine Ls_run (run_as (run_add rfl rfl (w64 (by omega))) (show _ = Value.int .i64 ((ni + 4 : Nat) : Int) from rfl)) rfl ?_
    refine Ls_make0 (m := (ni + 4)) hs Try.underlying28 inf5 (by decide) rfl rfl (by omega) (by omega) rfl ?_
    intro b26 w27 hs
    refine Ls_run (run_assign rfl) rfl ?_
    refine Ls_nil ?_
    refine Jm_seq ?_
    refine St_seq ?_
    refine St_region ?_
    refine Ls_run (run_move rfl) rfl ?_
    refine Ls_run (run_move rfl) rfl ?_
    refine Ls_run (run_move rfl) rfl ?_
    refine Ls_index (KW) (hs.rd_at 2 rfl) Try.underlying51 inf45 rfl rfl (by omega) (by omega) hv rfl ?_
    intro b28 o29 hc30
    refine Ls_run (run_field Try.underlying45 rfl inf28 (by decide) rfl) rfl ?_
    refine Ls_run (run_as (run_load sc28 rfl (hc30 1 _ rfl)) (show _ = Value.slice Ai ni ci from rfl)) rfl ?_
    refine Ls_append hs Try.underlying28 inf5 rfl (by decide) (by decide) rfl rfl (hri.inB hs) (bytesV_one' _) (by omega) rfl ?_
    intro A31 c32 w33 hs
    simp only [Nat.zero_add, List.nil_append] at hs ⊢
    refine Ls_run (run_assign rfl) rfl ?_
    refine Ls_nil ?_
    refine Jm_seq ?_
    refine St_seq ?_
    refine St_region ?_
    refine Ls_run (run_move rfl) rfl ?_
    refine Ls_literal [_, _, _, _] hs Try.underlying28 inf5 rfl rfl rfl rfl rfl rfl ?_
    intro b34 w35 hs
    simp only [List.flatMap_cons, List.flatMap_nil, Value.cells, List.cons_append, List.nil_append] at hs
    replace hs := hs.front 1 rfl
    simp only [List.cons_append, List.nil_append, List.eraseIdx_cons_zero, List.eraseIdx_cons_succ] at hs
    refine Ls_append hs Try.underlying28 inf5 rfl (by decide) (by decide) rfl rfl (rd_block (hs.is_at 1 rfl).2 1 4 rfl) (by simp [Value.oneCell']) (by omega) rfl ?_
    intro A36 c37 w38 hs
    replace hs := hs.erase 1
    simp only [List.cons_append, List.nil_append, List.eraseIdx_cons_zero, List.eraseIdx_cons_succ] at hs
    rw [show bytesV x ++ [Value.int .u8 1, Value.int .u8 2, Value.int .u8 3, Value.int .u8 4] = bytesV (x ++ [1, 2, 3, 4]) from by simp [bytesV]] at hs
    have hcapm := (hs.rd_at 0 rfl).cap
    refine Ls_run (run_assign rfl) rfl ?_
    refine Ls_nil ?_
    refine Jm_seq ?_
    replace hs := hs.front 2 rfl
    simp only [List.cons_append, List.nil_append, List.eraseIdx_cons_zero, List.eraseIdx_cons_succ] at hs
    refine St_hold (Hold.of (Ls := [_]) hs) mixed ?_
    intro w39 q40
    replace hs := hs.quiet q40
    have hH := Hold.of (Ls := [_]) hs
    refine An_take 0 rfl (by kernel_rfl) (by kernel_rfl) (by kernel_rfl) (fun _ _ _ h => h) hH (fun x hx => run_move rfl) rfl ?_
    refine An_take 1 rfl (by kernel_rfl) (by kernel_rfl) (by kernel_rfl) (fun _ _ _ h => h) hH (fun x hx => run_move rfl) rfl ?_
    refine An_take 2 rfl (by kernel_rfl) (by kernel_rfl) (by kernel_rfl) (fun _ _ _ h => h) hH (fun x hx => run_move rfl) rfl ?_
    refine An_index 3  (KW) rfl (by kernel_rfl) (by kernel_rfl) (by kernel_rfl) (fun _ _ _ _ h => h) hH (fun x hx => (hx.choose_spec.rd_at 0 rfl)) Try.underlying51 inf45 rfl rfl (by omega) (by omega) hv rfl ?_
    intro b41 o42 hc43
    refine An_take 4 rfl (by kernel_rfl) (by kernel_rfl) (by kernel_rfl) (fun _ _ _ h => h) hH (fun x hx => run_field Try.underlying45 rfl inf3 (by decide) rfl) rfl ?_
    refine An_take 5 rfl (by kernel_rfl) (by kernel_rfl) (by kernel_rfl) (fun _ _ _ h => h) hH (fun x hx => run_as (run_load sc3 rfl ((hc43 x hx) 0 _ rfl)) (show _ = Value.int .i64 pg from rfl)) rfl ?_
    refine An_take 6 rfl (by kernel_rfl) (by kernel_rfl) (by kernel_rfl) (fun _ _ _ h => h) hH (fun x hx => run_move rfl) rfl ?_
    refine An_take 7 rfl (by kernel_rfl) (by kernel_rfl) (by kernel_rfl) (fun _ _ _ h => h) hH (fun x hx => run_move rfl) rfl ?_
    refine An_take 8 rfl (by kernel_rfl) (by kernel_rfl) (by kernel_rfl) (fun _ _ _ h => h) hH (fun x hx => run_move rfl) rfl ?_
    refine An_index 9  (KW) rfl (by kernel_rfl) (by kernel_rfl) (by kernel_rfl) (fun _ _ _ _ h => h) hH (fun x hx => (hx.choose_spec.rd_at 0 rfl)) Try.underlying51 inf45 rfl rfl (by omega) (by omega) hv rfl ?_
    intro b44 o45 hc46
    refine An_take 10 rfl (by kernel_rfl) (by kernel_rfl) (by kernel_rfl) (fun _ _ _ h => h) hH (fun x hx => run_field Try.underlying45 rfl inf28 (by decide) rfl) rfl ?_
    refine An_take 11 rfl (by kernel_rfl) (by kernel_rfl) (by kernel_rfl) (fun _ _ _ h => h) hH (fun x hx => run_as (run_load sc28 rfl ((hc46 x hx) 1 _ rfl)) (show _ = Value.slice Ai ni ci from rfl)) rfl ?_
    refine An_take 12 rfl (by kernel_rfl) (by kernel_rfl) (by kernel_rfl) (fun _ _ _ h => h) hH (fun x hx => run_len Try.underlying28 rfl) rfl ?_
    refine An_take 13 rfl (by kernel_rfl) (by kernel_rfl) (by kernel_rfl) (fun _ _ _ h => h) hH (fun x hx => run_as (run_slice_h Try.underlying28 inf5 rfl rfl (by omega) (by omega)) (show _ = Value.slice A36 ni c37 from rfl)) rfl ?_
    refine An_take 14 rfl (by kernel_rfl) (by kernel_rfl) (by kernel_rfl) (fun _ _ _ h => h) hH (fun x hx => run_buildO (pv := [(0, _), (1, _)]) rfl (bld45_0_1 _ _ _ _)) rfl ?_
    refine An_only 15 (by kernel_rfl) rfl ?_
    refine Ls_literal [_] hs Try.underlying51 inf45 rfl rfl rfl rfl rfl rfl ?_
    intro b47 w48 hs
    simp only [List.flatMap_cons, List.flatMap_nil, Value.cells, List.cons_append, List.nil_append] at hs
    replace hs := hs.front 1 rfl
    simp only [List.cons_append, List.nil_append, List.eraseIdx_cons_zero, List.eraseIdx_cons_succ] at hs
    replace hH := Hold.of (Ls := [_]) hs
    refine Ls_nil (Jm_An hH ?_)
    refine An_only 16 (by kernel_rfl) rfl ?_
    replace hs := hs.front 3 rfl
    simp only [List.cons_append, List.nil_append, List.eraseIdx_cons_zero, List.eraseIdx_cons_succ] at hs
    refine Ls_append hs Try.underlying51 inf45 rfl (by decide) (by decide) rfl rfl (rd_block (hs.is_at 2 rfl).2 2 1 rfl) (by simp [Value.oneCell']) (by omega) rfl ?_
    intro A49 c50 w51 hs
    replace hs := hs.erase 2
    simp only [List.cons_append, List.nil_append, List.eraseIdx_cons_zero, List.eraseIdx_cons_succ] at hs
    replace hs := hs.front 1 rfl
    simp only [List.cons_append, List.nil_append, List.eraseIdx_cons_zero, List.eraseIdx_cons_succ] at hs
    replace hH := Hold.of (Ls := [_]) hs
    refine Ls_nil (Jm_An hH ?_)
    refine An_take 17 rfl (by kernel_rfl) (by kernel_rfl) (by kernel_rfl) (fun _ _ _ h => h) hH (fun x hx => run_assign rfl) rfl ?_
    refine An_done (by kernel_rfl) ?_
    refine Jm_block_normal (Jm_seq ?_)
    refine St_region ?_
    refine Ls_run (run_move rfl) rfl ?_
    refine Ls_run (run_add rfl rfl (w64 (by omega))) rfl ?_
    refine Ls_run (run_assign rfl) rfl ?_
    refine Ls_nil ?_
    replace hs := hs.front 1 rfl
    simp only [List.cons_append, List.nil_append, List.eraseIdx_cons_zero, List.eraseIdx_cons_succ] at hs
    replace hs := hs.front 5 rfl
    simp only [List.cons_append, List.nil_append, List.eraseIdx_cons_zero, List.eraseIdx_cons_succ] at hs
    replace hs := hs.front 5 rfl
    simp only [List.cons_append, List.nil_append, List.eraseIdx_cons_zero, List.eraseIdx_cons_succ] at hs
    replace hs := hs.front 5 rfl
    simp only [List.cons_append, List.nil_append, List.eraseIdx_cons_zero, List.eraseIdx_cons_succ] at hs
    replace hs := hs.front 4 rfl
    simp only [List.cons_append, List.nil_append, List.eraseIdx_cons_zero, List.eraseIdx_cons_succ] at hs
    replace hs := hs.front 4 rfl
    simp only [List.cons_append, List.nil_append, List.eraseIdx_cons_zero, List.eraseIdx_cons_succ] at hs
    replace hs := hs.front 5 rfl
    simp only [List.cons_append, List.nil_append, List.eraseIdx_cons_zero, List.eraseIdx_cons_succ] at hs
    rw [← flatKW_snoc] at hs
    have hs5 := Sat.row_add (pre := [_, _, _, _, _]) (mk4 (pg, x)) hs (by simp [mk4, hxl]) (bytesV_flat _) (by rw [List.length_map, hM.2.1])
    simp only [List.cons_append, List.nil_append] at hs5
    rw [show (List.take i lF).map mk4 ++ [mk4 (pg, x)] = (lF.take (i + 1)).map mk4 by rw [take_snocW (by omega) hq, List.map_append]; rfl] at hs5
    refine Jm_round (i + 1, (vm ++ [(pg, A36, ni, c37)]), (ws ++ [Value.slice A36 (ni + 4) c37]), (.slice A49 (i + 1) c50)) ?_ ?_ ?_
    · rw [hEn18]; exact (subE_cons rfl (subE_cons rfl (subE_cons rfl (subE_cons rfl (subE_cons rfl subE_nil)))))
    · skip
      rw [hIv19]
      exact ⟨hs5, by omega, by rw [take_snocW (by omega) hq]; exact hM.snoc hxl, _, _, rfl⟩
    · skip
      rw [hms20, hms20]
      omega
  · skip
    refine St_exit ?_
    refine Jm_then_exit (Jm_then_exit (Jm_block_same (Jm_seq ?_)))
    refine St_seq ?_
    refine St_region ?_
    have hi9 : i = lF.length := by omega
    subst hi9
    rw [List.take_length] at hs hM
    have hvl := hM.1
    have hwl := hM.2.1
    refine Ls_run (run_move rfl) rfl ?_
    refine Ls_run (run_buildO (pv := [(0, _)]) rfl (bld45_0 _)) rfl ?_
    refine Ls_run (run_buildO (pv := [(0, _)]) rfl (bld45_0 _)) rfl ?_
    refine Ls_literal [_, _] hs Try.underlying51 inf45 rfl rfl rfl rfl rfl rfl ?_
    intro b52 w53 hs
    simp only [List.flatMap_cons, List.flatMap_nil, Value.cells, List.cons_append, List.nil_append] at hs
    replace hs := hs.front 1 rfl
    simp only [List.cons_append, List.nil_append, List.eraseIdx_cons_zero, List.eraseIdx_cons_succ] at hs
    refine Ls_append hs Try.underlying51 inf45 rfl (by decide) (by decide) rfl rfl (rd_block (hs.is_at 1 rfl).2 2 2 rfl) (by simp [Value.oneCell']) (by omega) rfl ?_
    intro A54 c55 w56 hs
    replace hs := hs.erase 1
    simp only [List.cons_append, List.nil_append, List.eraseIdx_cons_zero, List.eraseIdx_cons_succ] at hs
    rw [show KW.flat vm ++ [Value.int .i64 77, Value.slice none 0 0, Value.int .i64 78, Value.slice none 0 0] = KW.flat (vm ++ [(77, none, 0, 0)] ++ [(78, none, 0, 0)]) by rw [flatKW_snoc, flatKW_snoc]; simp] at hs
    obtain ⟨gm, hgm⟩ := hs.own_addr (by omega)
    subst hgm
    obtain ⟨cM2, hcM2⟩ : ∃ q, q = c55 := ⟨_, rfl⟩
    rw [← hcM2] at hs ⊢
    have hcap2 := (hs.rd_at 0 rfl).cap
    refine Ls_run (run_assign rfl) rfl ?_
    refine Ls_nil ?_
    refine Jm_seq ?_
    refine St_seq ?_
    refine St_region ?_
    refine Ls_run (run_move rfl) rfl ?_
    refine Ls_run (run_len Try.underlying51 rfl) rfl ?_
    refine Ls_run (run_assign rfl) rfl ?_
    refine Ls_nil ?_
    refine Jm_seq ?_
    refine St_seq ?_
    refine St_seq ?_
    refine St_region ?_
    refine Ls_run (run_move rfl) rfl ?_
    refine Ls_run (run_move rfl) rfl ?_
    refine Ls_run (run_move rfl) rfl ?_
    refine Ls_run (run_as (run_slice_h Try.underlying51 inf45 rfl rfl (by omega) (by omega)) (show _ = Value.slice (some ⟨gm, 0, none⟩) lF.length cM2 from rfl)) rfl ?_
    replace hs := hs.front 4 rfl
    simp only [List.cons_append, List.nil_append, List.eraseIdx_cons_zero, List.eraseIdx_cons_succ] at hs
    replace hs := hs.front 2 rfl
    simp only [List.cons_append, List.nil_append, List.eraseIdx_cons_zero, List.eraseIdx_cons_succ] at hs
    replace hs := hs.front 2 rfl
    simp only [List.cons_append, List.nil_append, List.eraseIdx_cons_zero, List.eraseIdx_cons_succ] at hs
    replace hs := hs.front 4 rfl
    simp only [List.cons_append, List.nil_append, List.eraseIdx_cons_zero, List.eraseIdx_cons_succ] at hs
    replace hs := hs.front 4 rfl
    simp only [List.cons_append, List.nil_append, List.eraseIdx_cons_zero, List.eraseIdx_cons_succ] at hs
    obtain ⟨s1, d1, hb1, hpg1, hdn1, har1, hen1, hgn1, hnl1, hsh1⟩ := (PGb.put hpg0 hdn0 (rfl : (bnew 8).ended = false) (by decide) hgF.fit).resolve_right (fun ⟨_, _, _, _, _, h9, _⟩ => by rw [har0] at h9; cases h9)
    refine Ls_call Try.func26 nm26 rfl rfl (BPut_g w w56 _ bj b0 (bnew 8) d0 hs ⟨hpg0.rows, by rw [hpg0.n]; decide⟩ (by rw [hpg0.n]; exact hpg0.inv) (some ⟨gm, 0, none⟩) lF.length cM2 vm lF (fun w' X q => hM.pws (Sat.parts (pre := [_, _, _, _]) q (by rw [List.length_map]; exact hwl)) (by have h9 := (q.rd_at 1 rfl).take lF.length (by omega); rw [flatKW_snoc, flatKW_snoc, List.append_assoc, List.take_left' (by rw [flatKW_len, hvl])] at h9; exact h9)) hgF.ok (by omega)) rfl ?_
    rintro v57 w58 ⟨rfl, hs⟩
    simp only [hb1] at hs ⊢
    have hWl : (withL (List.replicate 8 []) lF).length = 8 := by rw [withL_len, List.length_replicate]
    refine Ls_run (run_asB (c := false) (run_neq rfl rfl) (by decide)) rfl ?_
    refine Ls_run (run_move rfl) rfl ?_
    refine Ls_on rfl rfl ?_
    refine Ls_run (run_move rfl) rfl ?_
    refine Ls_on rfl rfl ?_
    refine Ls_run (run_move rfl) rfl ?_
    refine Ls_on rfl rfl ?_
    have h77 : (vm ++ [(77, none, 0, 0)] ++ [(78, none, 0, 0)]).getD lF.length (0, none, 0, 0) = ((77 : Int), (none : Option Addr), 0, 0) := by rw [getD_app1 (by rw [List.length_append, hvl]; simp), getD_app2 hvl.symm]
    have h78 : (vm ++ [(77, none, 0, 0)] ++ [(78, none, 0, 0)]).getD (lF.length + 1) (0, none, 0, 0) = ((78 : Int), (none : Option Addr), 0, 0) := by rw [getD_app2 (by rw [List.length_append, hvl]; rfl)]
    have h78b : (vm ++ [(77, none, 0, 0)] ++ [(78, none, 0, 0)]).getD ((lF.length : Int) + 1).toNat (0, none, 0, 0) = ((78 : Int), (none : Option Addr), 0, 0) := h78
    refine Ls_index (KW) (hs.rd_at 2 rfl) Try.underlying51 inf45 rfl rfl (by omega) (by omega) h77 rfl ?_
    intro b59 o60 hc61
    refine Ls_on rfl rfl ?_
    refine Ls_run (run_field Try.underlying45 rfl inf3 (by decide) rfl) rfl ?_
    refine Ls_on rfl rfl ?_
    refine Ls_run (run_as (run_load sc3 rfl (hc61 0 _ rfl)) (show _ = Value.int .i64 77 from rfl)) rfl ?_
    refine Ls_on rfl rfl ?_
    refine Ls_run (run_asB (c := false) (run_neq rfl rfl) (by decide)) rfl ?_
    refine Ls_run (run_pick_f rfl rfl) rfl ?_
    refine Ls_run (run_move rfl) rfl ?_
    refine Ls_on rfl rfl ?_
    refine Ls_run (run_move rfl) rfl ?_
    refine Ls_on rfl rfl ?_
    refine Ls_run (run_move rfl) rfl ?_
    refine Ls_on rfl rfl ?_
    refine Ls_run (run_add rfl rfl (w64 (by omega))) rfl ?_
    refine Ls_on rfl rfl ?_
    refine Ls_index (KW) (hs.rd_at 2 rfl) Try.underlying51 inf45 rfl rfl (by omega) (by omega) h78b rfl ?_
    intro b62 o63 hc64
    refine Ls_on rfl rfl ?_
    refine Ls_run (run_field Try.underlying45 rfl inf3 (by decide) rfl) rfl ?_
    refine Ls_on rfl rfl ?_
    refine Ls_run (run_as (run_load sc3 rfl (hc64 0 _ rfl)) (show _ = Value.int .i64 78 from rfl)) rfl ?_
    refine Ls_on rfl rfl ?_
    refine Ls_run (run_asB (c := false) (run_neq rfl rfl) (by decide)) rfl ?_
    refine Ls_run (run_pick_f rfl rfl) rfl ?_
    refine Ls_run (run_move rfl) rfl ?_
    refine Ls_on rfl rfl ?_
    refine Ls_run (run_move rfl) rfl ?_
    refine Ls_on rfl rfl ?_
    refine Ls_run (run_move rfl) rfl ?_
    refine Ls_on rfl rfl ?_
    refine Ls_index (KW) (hs.rd_at 2 rfl) Try.underlying51 inf45 rfl rfl (by omega) (by omega) h77 rfl ?_
    intro b65 o66 hc67
    refine Ls_on rfl rfl ?_
    refine Ls_run (run_field Try.underlying45 rfl inf28 (by decide) rfl) rfl ?_
    refine Ls_on rfl rfl ?_
    refine Ls_run (run_as (run_load sc28 rfl (hc67 1 _ rfl)) (show _ = Value.slice none 0 0 from rfl)) rfl ?_
    refine Ls_on rfl rfl ?_
    refine Ls_run (run_len Try.underlying28 rfl) rfl ?_
    refine Ls_on rfl rfl ?_
    refine Ls_run (run_asB (c := false) (run_neq rfl rfl) (by decide)) rfl ?_
    refine Ls_run (run_pick_f rfl rfl) rfl ?_
    refine Ls_nil ?_
    refine Jm_seq ?_
    refine St_iff rfl ?_
    refine St_skip ?_
    refine Jm_seq ?_
    refine St_seq ?_
    refine St_seq ?_
    refine St_region ?_
    refine Ls_run (run_assign rfl) rfl ?_
    refine Ls_nil ?_
    refine Jm_seq ?_
    refine St_block ?_
    replace hs := hs.front 4 rfl
    simp only [List.cons_append, List.nil_append, List.eraseIdx_cons_zero, List.eraseIdx_cons_succ] at hs
    replace hs := hs.front 2 rfl
    simp only [List.cons_append, List.nil_append, List.eraseIdx_cons_zero, List.eraseIdx_cons_succ] at hs
    replace hs := hs.front 2 rfl
    simp only [List.cons_append, List.nil_append, List.eraseIdx_cons_zero, List.eraseIdx_cons_succ] at hs
    replace hs := hs.front 4 rfl
    simp only [List.cons_append, List.nil_append, List.eraseIdx_cons_zero, List.eraseIdx_cons_succ] at hs
    replace hs := hs.front 4 rfl
    simp only [List.cons_append, List.nil_append, List.eraseIdx_cons_zero, List.eraseIdx_cons_succ] at hs
    obtain ⟨En69, hEn69⟩ : ∃ F : Nat × List KWt → Env, ∀ (i : Nat) (vm2 : List KWt), F (i, vm2) = [(4, .pointer (some ⟨bj, 0, none⟩)), (5, .slice AF lF.length cF), (6, .pointer (some ⟨b14, 0, none⟩)), (7, (.slice (some ⟨gm, 0, none⟩) (lF.length + 2) cM2)), (10, .int .i64 (lF.length : Int)), (11, .int .i64 (i : Int))] := ⟨(fun (sx0 : Nat × List KWt) => match sx0 with | (i, vm2) => [(4, .pointer (some ⟨bj, 0, none⟩)), (5, .slice AF lF.length cF), (6, .pointer (some ⟨b14, 0, none⟩)), (7, (.slice (some ⟨gm, 0, none⟩) (lF.length + 2) cM2)), (10, .int .i64 (lF.length : Int)), (11, .int .i64 (i : Int))]), fun _ _ => rfl⟩
    obtain ⟨Iv70, hIv70⟩ : ∃ F : Nat × List KWt → World → Prop, ∀ (i : Nat) (vm2 : List KWt) (wr2 : World), F (i, vm2) wr2 = (Sat w wr2 (Own 45 2 (.slice (some ⟨gm, 0, none⟩) (lF.length + 2) cM2) (lF.length + 2) (KW.flat vm2) :: Own 45 2 (.slice AF lF.length cF) lF.length (KW.flat vF) :: BA 122 3 bj (some ⟨b0, 0, none⟩) s1 :: DiskA 129 28 5 b0 d1 :: Blk b14 (SW (withL (List.replicate 8 []) lF)) 50 :: rowsA 5 (El.int .u8) (ws.drop i) ((lF.drop i).map mk4)) ∧ i ≤ lF.length ∧ vm2.length = lF.length + 2 ∧ ∀ j, i ≤ j → j < lF.length → vm2.getD j (0, none, 0, 0) = vm.getD j (0, none, 0, 0)) := ⟨(fun (sx0 : Nat × List KWt) => match sx0 with | (i, vm2) => fun (wr2 : World) => Sat w wr2 (Own 45 2 (.slice (some ⟨gm, 0, none⟩) (lF.length + 2) cM2) (lF.length + 2) (KW.flat vm2) :: Own 45 2 (.slice AF lF.length cF) lF.length (KW.flat vF) :: BA 122 3 bj (some ⟨b0, 0, none⟩) s1 :: DiskA 129 28 5 b0 d1 :: Blk b14 (SW (withL (List.replicate 8 []) lF)) 50 :: rowsA 5 (El.int .u8) (ws.drop i) ((lF.drop i).map mk4)) ∧ i ≤ lF.length ∧ vm2.length = lF.length + 2 ∧ ∀ j, i ≤ j → j < lF.length → vm2.getD j (0, none, 0, 0) = vm.getD j (0, none, 0, 0)), fun _ _ _ => rfl⟩
    obtain ⟨ms71, hms71⟩ : ∃ F : Nat × List KWt → Nat, ∀ (i : Nat) (vm2 : List KWt), F (i, vm2) = (lF.length - i) := ⟨(fun (sx0 : Nat × List KWt) => match sx0 with | (i, vm2) => lF.length - i), fun _ _ => rfl⟩
    refine St_loop En69 Iv70 ms71 (0, (vm ++ [(77, none, 0, 0)] ++ [(78, none, 0, 0)])) ?_ ?_ ?_
    · skip
      rw [hIv70]
      refine ⟨by rw [List.drop_zero, List.drop_zero]; exact hs, by omega, by simp [hvl], fun j _ hj => by rw [getD_app1 (by simp; omega), getD_app1 (by omega)]⟩
    · rw [hEn69]; exact (subE_cons rfl (subE_cons rfl (subE_cons rfl (subE_cons rfl (subE_cons rfl (subE_cons rfl subE_nil))))))
    rintro ⟨i, vm2⟩ wr2 hI72
    rw [hIv70] at hI72
    obtain ⟨hs, hi, hvm2, hvj⟩ := hI72
    refine St_eqE (hEn69 _ _) ?_
    refine St_seq ?_
    refine St_seq ?_
    refine St_region ?_
    refine Ls_run (run_move rfl) rfl ?_
    refine Ls_run (run_move rfl) rfl ?_
    refine Ls_run (run_lss rfl rfl) rfl ?_
    refine Ls_nil ?_
    refine Jm_seq ?_
    refine St_ifP rfl (fun h73 => ?_) (fun h73 => ?_)
    · skip
      refine St_skip ?_
      refine Jm_seq ?_
      refine St_seq ?_
      refine St_block ?_
      refine St_seq ?_
      refine St_region ?_
      obtain ⟨⟨pg, Ai, ni, ci⟩, hv⟩ : ∃ q, vF.getD i (0, none, 0, 0) = q := ⟨_, rfl⟩
      obtain ⟨⟨q, x⟩, hq⟩ : ∃ o, lF.getD i (0, []) = o := ⟨_, rfl⟩
      obtain ⟨hpi, hri⟩ := hpF.2 i (by omega)
      rw [hv, hq] at hpi
      rw [hv, hq] at hri
      simp only at hpi hri
      subst hpi
      have hxl := rdB_len hri
      have hxg := hgF.2 _ (wmem (ws := lF) (i := i) (by omega))
      rw [hq] at hxg
      simp only at hxg
      obtain ⟨Ar, cr, hvr, hwr⟩ := hM.2.2 i (by omega)
      rw [hq] at hvr hwr
      simp only [hxl] at hvr hwr
      have hvm := (hvj i (by omega) (by omega)).trans hvr
      replace hs := Sat.row_pop (pre := [_, _, _, _, _]) hs hwr hq hxl hwl (by omega)
      simp only [List.cons_append, List.nil_append] at hs
      have hcapr := (hs.rd_at 0 rfl).cap
      refine Ls_run (run_move rfl) rfl ?_
      refine Ls_run (run_move rfl) rfl ?_
      refine Ls_index (KW) (hs.rd_at 2 rfl) Try.underlying51 inf45 rfl rfl (by omega) (by omega) hv rfl ?_
      intro b74 o75 hc76
      refine Ls_run (run_field Try.underlying45 rfl inf28 (by decide) rfl) rfl ?_
      refine Ls_run (run_as (run_load sc28 rfl (hc76 1 _ rfl)) (show _ = Value.slice Ai ni ci from rfl)) rfl ?_
      refine Ls_run (run_len Try.underlying28 rfl) rfl ?_
      refine Ls_run (run_assign rfl) rfl ?_
      refine Ls_nil ?_
      refine Jm_seq ?_
      refine St_seq ?_
      refine St_region ?_
      refine Ls_run (run_move rfl) rfl ?_
      refine Ls_run (run_move rfl) rfl ?_
      refine Ls_index (KW) (hs.rd_at 1 rfl) Try.underlying51 inf45 rfl rfl (by omega) (by omega) hvm rfl ?_
      intro b77 o78 hc79
      refine Ls_run (run_field Try.underlying45 rfl inf28 (by decide) rfl) rfl ?_
      refine Ls_run (run_as (run_load sc28 rfl (hc79 1 _ rfl)) (show _ = Value.slice Ar ni cr from rfl)) rfl ?_
      refine Ls_run (run_move rfl) rfl ?_
      refine Ls_run (run_add rfl rfl (w64 (by omega))) rfl ?_
      refine Ls_run (run_as (run_slice_h Try.underlying28 inf5 rfl rfl (by omega) (by omega)) (show _ = Value.slice Ar (ni + 4) cr from rfl)) rfl ?_
      refine Ls_run (run_assign rfl) rfl ?_
      refine Ls_nil ?_
      refine Jm_seq ?_
      refine St_seq ?_
      refine St_seq ?_
      refine St_draw (fun x => Below wr2.heap.size wr2 x) mixed ?_
      intro w80 q81
      have hH := q81.below
      replace hs := hs.quiet q81
      refine An_grow hH ?_
      replace hH := Below.refl w80.heap.size w80
      refine An_take 0 rfl (by kernel_rfl) (by kernel_rfl) (by kernel_rfl) (fun _ _ _ h => h) hH (fun x hx => run_move rfl) rfl ?_
      refine An_take 1 rfl (by kernel_rfl) (by kernel_rfl) (by kernel_rfl) (fun _ _ _ h => h) hH (fun x hx => run_move rfl) rfl ?_
      refine An_index 2  (KW) rfl (by kernel_rfl) (by kernel_rfl) (by kernel_rfl) (fun _ _ _ _ h => h) hH (fun x hx => ((hs.rd_at 1 rfl).grow hx)) Try.underlying51 inf45 rfl rfl (by omega) (by omega) hvm rfl ?_
      intro b82 o83 hc84
      refine An_take 3 rfl (by kernel_rfl) (by kernel_rfl) (by kernel_rfl) (fun _ _ _ h => h) hH (fun x hx => run_field Try.underlying45 rfl inf3 (by decide) rfl) rfl ?_
      refine An_take 4 rfl (by kernel_rfl) (by kernel_rfl) (by kernel_rfl) (fun _ _ _ h => h) hH (fun x hx => run_as (run_load sc3 rfl ((hc84 x hx) 0 _ rfl)) (show _ = Value.int .i64 pg from rfl)) rfl ?_
      refine An_take 5 rfl (by kernel_rfl) (by kernel_rfl) (by kernel_rfl) (fun _ _ _ h => h) hH (fun x hx => run_move rfl) rfl ?_
      refine An_take 6 rfl (by kernel_rfl) (by kernel_rfl) (by kernel_rfl) (fun _ _ _ h => h) hH (fun x hx => run_move rfl) rfl ?_
      refine An_index 7  (KW) rfl (by kernel_rfl) (by kernel_rfl) (by kernel_rfl) (fun _ _ _ _ h => h) hH (fun x hx => ((hs.rd_at 2 rfl).grow hx)) Try.underlying51 inf45 rfl rfl (by omega) (by omega) hv rfl ?_
      intro b85 o86 hc87
      refine An_take 8 rfl (by kernel_rfl) (by kernel_rfl) (by kernel_rfl) (fun _ _ _ h => h) hH (fun x hx => run_field Try.underlying45 rfl inf3 (by decide) rfl) rfl ?_
      refine An_take 9 rfl (by kernel_rfl) (by kernel_rfl) (by kernel_rfl) (fun _ _ _ h => h) hH (fun x hx => run_as (run_load sc3 rfl ((hc87 x hx) 0 _ rfl)) (show _ = Value.int .i64 pg from rfl)) rfl ?_
      refine An_take 10 rfl (by kernel_rfl) (by kernel_rfl) (by kernel_rfl) (fun _ _ _ h => h) hH (fun x hx => run_asB (c := false) (run_neq rfl rfl) (by simp)) rfl ?_
      refine An_take 11 rfl (by kernel_rfl) (by kernel_rfl) (by kernel_rfl) (fun _ _ _ h => h) hH (fun x hx => run_move rfl) rfl ?_
      refine An_take_on 12 rfl (by kernel_rfl) (by kernel_rfl) (by kernel_rfl) rfl rfl (fun _ _ _ h => h) hH (fun x hx => run_move rfl) rfl ?_
      refine An_take_on 13 rfl (by kernel_rfl) (by kernel_rfl) (by kernel_rfl) rfl rfl (fun _ _ _ h => h) hH (fun x hx => run_move rfl) rfl ?_
      refine An_take_on 14 rfl (by kernel_rfl) (by kernel_rfl) (by kernel_rfl) rfl rfl (fun _ _ _ h => h) hH (fun x hx => run_slice_h Try.underlying28 inf5 rfl rfl (by omega) (by omega)) rfl ?_
      refine An_take_on 15 rfl (by kernel_rfl) (by kernel_rfl) (by kernel_rfl) rfl rfl (fun _ _ _ h => h) hH (fun x hx => run_string Try.underlying28 Try.underlying5 Try.underlying9 rfl ((dB_pre (hs.rd_at 0 rfl) ni hxl (by omega)).grow hx)) rfl ?_
      refine An_take_on 16 rfl (by kernel_rfl) (by kernel_rfl) (by kernel_rfl) rfl rfl (fun _ _ _ h => h) hH (fun x hx => run_move rfl) rfl ?_
      refine An_take_on 17 rfl (by kernel_rfl) (by kernel_rfl) (by kernel_rfl) rfl rfl (fun _ _ _ h => h) hH (fun x hx => run_move rfl) rfl ?_
      refine An_index_on 18  (KW) rfl (by kernel_rfl) (by kernel_rfl) (by kernel_rfl) rfl rfl (fun _ _ _ _ h => h) hH (fun x hx => ((hs.rd_at 2 rfl).grow hx)) Try.underlying51 inf45 rfl rfl (by omega) (by omega) hv rfl ?_
      intro b88 o89 hc90
      refine An_take_on 19 rfl (by kernel_rfl) (by kernel_rfl) (by kernel_rfl) rfl rfl (fun _ _ _ h => h) hH (fun x hx => run_field Try.underlying45 rfl inf28 (by decide) rfl) rfl ?_
      refine An_take_on 20 rfl (by kernel_rfl) (by kernel_rfl) (by kernel_rfl) rfl rfl (fun _ _ _ h => h) hH (fun x hx => run_as (run_load sc28 rfl ((hc90 x hx) 1 _ rfl)) (show _ = Value.slice Ai ni ci from rfl)) rfl ?_
      refine An_take_on 21 rfl (by kernel_rfl) (by kernel_rfl) (by kernel_rfl) rfl rfl (fun _ _ _ h => h) hH (fun x hx => run_string Try.underlying28 Try.underlying5 Try.underlying9 rfl ((hri.inB hs).grow hx)) rfl ?_
      refine An_take_on 22 rfl (by kernel_rfl) (by kernel_rfl) (by kernel_rfl) rfl rfl (fun _ _ _ h => h) hH (fun x hx => run_asB (c := false) (run_neq_str rfl rfl) (by simp)) rfl ?_
      refine An_take 23 rfl (by kernel_rfl) (by kernel_rfl) (by kernel_rfl) (fun _ _ _ h => h) hH (fun x hx => run_pick_f rfl rfl) rfl ?_
      refine An_take 24 rfl (by kernel_rfl) (by kernel_rfl) (by kernel_rfl) (fun _ _ _ h => h) hH (fun x hx => run_move rfl) rfl ?_
      refine An_take_on 25 rfl (by kernel_rfl) (by kernel_rfl) (by kernel_rfl) rfl rfl (fun _ _ _ h => h) hH (fun x hx => run_move rfl) rfl ?_
      refine An_take_on 26 rfl (by kernel_rfl) (by kernel_rfl) (by kernel_rfl) rfl rfl (fun _ _ _ h => h) hH (fun x hx => run_move rfl) rfl ?_
      refine An_take_on 27 rfl (by kernel_rfl) (by kernel_rfl) (by kernel_rfl) rfl rfl (fun _ _ _ h => h) hH (fun x hx => run_slice_l Try.underlying28 inf5 rfl rfl (by omega) (by omega)) rfl ?_
      refine An_take_on 28 rfl (by kernel_rfl) (by kernel_rfl) (by kernel_rfl) rfl rfl (fun _ _ _ h => h) hH (fun x hx => run_string Try.underlying28 Try.underlying5 Try.underlying9 rfl ((dB_suf (hs.rd_at 0 rfl) ni hxl (by omega)).grow hx)) rfl ?_
      refine An_take_on 29 rfl (by kernel_rfl) (by kernel_rfl) (by kernel_rfl) rfl rfl (fun _ _ _ h => h) hH (fun x hx => run_asB (c := false) (run_neq_str rfl rfl) (by show (!((strOfNums [1, 2, 3, 4]).toList == (strOfNums [1, 2, 3, 4]).toList)) = false; simp)) rfl ?_
      refine An_take 30 rfl (by kernel_rfl) (by kernel_rfl) (by kernel_rfl) (fun _ _ _ h => h) hH (fun x hx => run_pick_f rfl rfl) rfl ?_
      refine An_done (by kernel_rfl) ?_
      refine Jm_seq ?_
      refine St_iff rfl ?_
      refine St_skip ?_
      refine Jm_seq ?_
      refine St_seq ?_
      refine St_seq ?_
      refine St_region ?_
      refine Ls_run (run_assign rfl) rfl ?_
      refine Ls_nil ?_
      refine Jm_seq ?_
      refine St_block ?_
      obtain ⟨En92, hEn92⟩ : ∃ F : Nat → Env, ∀ (j : Nat), F j = [(4, .pointer (some ⟨bj, 0, none⟩)), (5, .slice AF lF.length cF), (6, .pointer (some ⟨b14, 0, none⟩)), (7, (.slice (some ⟨gm, 0, none⟩) (lF.length + 2) cM2)), (10, .int .i64 (lF.length : Int)), (11, .int .i64 (i : Int)), (12, .int .i64 (ni : Int)), (13, .slice Ar (ni + 4) cr), (14, .int .i64 (j : Int))] := ⟨(fun (j : Nat) => [(4, .pointer (some ⟨bj, 0, none⟩)), (5, .slice AF lF.length cF), (6, .pointer (some ⟨b14, 0, none⟩)), (7, (.slice (some ⟨gm, 0, none⟩) (lF.length + 2) cM2)), (10, .int .i64 (lF.length : Int)), (11, .int .i64 (i : Int)), (12, .int .i64 (ni : Int)), (13, .slice Ar (ni + 4) cr), (14, .int .i64 (j : Int))]), fun _ => rfl⟩
      obtain ⟨Iv93, hIv93⟩ : ∃ F : Nat → World → Prop, ∀ (j : Nat) (wr3 : World), F j wr3 = (∃ ys, Sat w wr3 (Own 5 1 (.slice Ar (ni + 4) cr) (ni + 4) ys :: Own 45 2 (.slice (some ⟨gm, 0, none⟩) (lF.length + 2) cM2) (lF.length + 2) (KW.flat vm2) :: Own 45 2 (.slice AF lF.length cF) lF.length (KW.flat vF) :: BA 122 3 bj (some ⟨b0, 0, none⟩) s1 :: DiskA 129 28 5 b0 d1 :: Blk b14 (SW (withL (List.replicate 8 []) lF)) 50 :: rowsA 5 (El.int .u8) (ws.drop (i + 1)) ((lF.drop (i + 1)).map mk4)) ∧ j ≤ ni + 4 ∧ AllU8 ys) := ⟨(fun (j : Nat) => fun (wr3 : World) => ∃ ys, Sat w wr3 (Own 5 1 (.slice Ar (ni + 4) cr) (ni + 4) ys :: Own 45 2 (.slice (some ⟨gm, 0, none⟩) (lF.length + 2) cM2) (lF.length + 2) (KW.flat vm2) :: Own 45 2 (.slice AF lF.length cF) lF.length (KW.flat vF) :: BA 122 3 bj (some ⟨b0, 0, none⟩) s1 :: DiskA 129 28 5 b0 d1 :: Blk b14 (SW (withL (List.replicate 8 []) lF)) 50 :: rowsA 5 (El.int .u8) (ws.drop (i + 1)) ((lF.drop (i + 1)).map mk4)) ∧ j ≤ ni + 4 ∧ AllU8 ys), fun _ _ => rfl⟩
      obtain ⟨ms94, hms94⟩ : ∃ F : Nat → Nat, ∀ (j : Nat), F j = (ni + 4 - j) := ⟨(fun (j : Nat) => ni + 4 - j), fun _ => rfl⟩
      refine St_loop En92 Iv93 ms94 (0) ?_ ?_ ?_
      · skip
        rw [hIv93]
        exact ⟨_, hs, by omega, AllU8.bytes _⟩
      · rw [hEn92]; exact (subE_cons rfl (subE_cons rfl (subE_cons rfl (subE_cons rfl (subE_cons rfl (subE_cons rfl (subE_cons rfl (subE_cons rfl (subE_cons rfl subE_nil)))))))))
      rintro j wr3 hI95
      rw [hIv93] at hI95
      obtain ⟨ys, hs, hj, hys⟩ := hI95
      refine St_eqE (hEn92 _) ?_
      rw [← El.val_flat ys] at hs
      refine St_seq ?_
      refine St_seq ?_
      refine St_region ?_
      refine Ls_run (run_move rfl) rfl ?_
      refine Ls_run (run_move rfl) rfl ?_
      refine Ls_run (run_add rfl rfl (w64 (by omega))) rfl ?_
      refine Ls_run (run_lss rfl rfl) rfl ?_
      refine Ls_nil ?_
      refine Jm_seq ?_
      refine St_ifP rfl (fun h96 => ?_) (fun h96 => ?_)
      · skip
        refine St_skip ?_
        refine Jm_seq ?_
        refine St_seq ?_
        refine St_block ?_
        refine St_region ?_
        refine Ls_run (run_move rfl) rfl ?_
        refine Ls_run (run_move rfl) rfl ?_
        refine Ls_run (run_move rfl) rfl ?_
        refine Ls_run (run_move rfl) rfl ?_
        have hlys := (hs.rd_at 0 rfl).len
        simp only [El.val_flat, Nat.mul_one] at hlys
        obtain ⟨x0, hx0⟩ := hys.at (i := j) (by omega)
        refine Ls_index (El.val) (hs.rd_at 0 rfl) Try.underlying28 inf5 rfl rfl (by omega) (by omega) hx0 rfl ?_
        intro b97 o98 hc99
        refine Ls_run (run_load sc5 rfl (hc99 0 _ rfl)) rfl ?_
        refine Ls_run (run_bits (by simp) rfl rfl rfl) rfl ?_
        obtain ⟨gr, hgr⟩ := (hs.front 0 rfl).own_addr (by omega)
        subst hgr
        refine Ls_run (run_index Try.underlying28 inf5 rfl rfl rfl (by omega) (by omega)) rfl ?_
        refine Ls_storeOwn hs inf5 rfl rfl rfl (by omega) ?_
        intro w100 hs
        refine Ls_nil ?_
        refine Jm_block_normal (Jm_seq ?_)
        refine St_region ?_
        refine Ls_run (run_move rfl) rfl ?_
        refine Ls_run (run_add rfl rfl (w64 (by omega))) rfl ?_
        refine Ls_run (run_assign rfl) rfl ?_
        refine Ls_nil ?_
        replace hs := hs.front 5 rfl
        simp only [List.cons_append, List.nil_append, List.eraseIdx_cons_zero, List.eraseIdx_cons_succ] at hs
        replace hs := hs.front 5 rfl
        simp only [List.cons_append, List.nil_append, List.eraseIdx_cons_zero, List.eraseIdx_cons_succ] at hs
        replace hs := hs.front 5 rfl
        simp only [List.cons_append, List.nil_append, List.eraseIdx_cons_zero, List.eraseIdx_cons_succ] at hs
        replace hs := hs.front 5 rfl
        simp only [List.cons_append, List.nil_append, List.eraseIdx_cons_zero, List.eraseIdx_cons_succ] at hs
        replace hs := hs.front 5 rfl
        simp only [List.cons_append, List.nil_append, List.eraseIdx_cons_zero, List.eraseIdx_cons_succ] at hs
        replace hs := hs.front 5 rfl
        simp only [List.cons_append, List.nil_append, List.eraseIdx_cons_zero, List.eraseIdx_cons_succ] at hs
        simp only [El.val_flat] at hs
        refine Jm_round (j + 1) ?_ ?_ ?_
        · rw [hEn92]; exact (subE_cons rfl (subE_cons rfl (subE_cons rfl (subE_cons rfl (subE_cons rfl (subE_cons rfl (subE_cons rfl (subE_cons rfl (subE_cons rfl subE_nil)))))))))
        · skip
          rw [hIv93]
          exact ⟨_, hs, by omega, hys.put _ _⟩
        · skip
          rw [hms94, hms94]
          omega
      · skip
        refine St_exit ?_
        refine Jm_then_exit (Jm_then_exit (Jm_block_same (Jm_seq ?_)))
        refine St_region ?_
        refine Ls_run (run_move rfl) rfl ?_
        refine Ls_run (run_move rfl) rfl ?_
        refine Ls_run (run_as (run_index Try.underlying51 inf45 rfl rfl rfl (by omega) (by omega)) (show _ = Value.pointer (some ⟨gm, i * 2, none⟩) from by simp)) rfl ?_
        refine Ls_run (run_as (run_field Try.underlying45 rfl inf3 (by decide) rfl) (show _ = Value.pointer (some ⟨gm, i * 2, none⟩) from by simp)) rfl ?_
        replace hs := hs.front 1 rfl
        simp only [List.cons_append, List.nil_append, List.eraseIdx_cons_zero, List.eraseIdx_cons_succ] at hs
        refine Ls_storeOwnC hs inf3 rfl rfl rfl (by omega) ?_
        intro w101 hs
        refine Ls_nil ?_
        refine Jm_block_normal (Jm_seq ?_)
        refine St_region ?_
        refine Ls_run (run_move rfl) rfl ?_
        refine Ls_run (run_add rfl rfl (w64 (by omega))) rfl ?_
        refine Ls_run (run_assign rfl) rfl ?_
        refine Ls_nil ?_
        replace hs := hs.erase 1
        simp only [List.cons_append, List.nil_append, List.eraseIdx_cons_zero, List.eraseIdx_cons_succ] at hs
        replace hs := hs.front 4 rfl
        simp only [List.cons_append, List.nil_append, List.eraseIdx_cons_zero, List.eraseIdx_cons_succ] at hs
        replace hs := hs.front 4 rfl
        simp only [List.cons_append, List.nil_append, List.eraseIdx_cons_zero, List.eraseIdx_cons_succ] at hs
        replace hs := hs.front 4 rfl
        simp only [List.cons_append, List.nil_append, List.eraseIdx_cons_zero, List.eraseIdx_cons_succ] at hs
        replace hs := hs.front 4 rfl
        simp only [List.cons_append, List.nil_append, List.eraseIdx_cons_zero, List.eraseIdx_cons_succ] at hs
        replace hs := hs.front 4 rfl
        simp only [List.cons_append, List.nil_append, List.eraseIdx_cons_zero, List.eraseIdx_cons_succ] at hs
        rw [flatKW_set0 _ _ _ (by omega)] at hs
        refine Jm_round (i + 1, (vm2.set i (5, (vm2.getD i (0, none, 0, 0)).2))) ?_ ?_ ?_
        · rw [hEn69]; exact (subE_cons rfl (subE_cons rfl (subE_cons rfl (subE_cons rfl (subE_cons rfl (subE_cons rfl subE_nil))))))
        · skip
          rw [hIv70]
          refine ⟨hs, by omega, by rw [List.length_set]; exact hvm2, fun j h1 h2 => ?_⟩
          rw [getD_setK (by omega)]
          exact hvj j (by omega) h2
        · skip
          rw [hms71, hms71]
          omega
    · skip
      refine St_exit ?_
      refine Jm_then_exit (Jm_then_exit (Jm_block_same (Jm_seq ?_)))
      refine St_seq ?_
      refine St_seq ?_
      refine St_region ?_
      refine Ls_run (run_assign rfl) rfl ?_
      refine Ls_nil ?_
      refine Jm_seq ?_
      refine St_block ?_
      replace hs := hs.erase 0
      simp only [List.cons_append, List.nil_append, List.eraseIdx_cons_zero, List.eraseIdx_cons_succ] at hs
      replace hs := hs.erase 0
      simp only [List.cons_append, List.nil_append, List.eraseIdx_cons_zero, List.eraseIdx_cons_succ] at hs
      obtain ⟨En102, hEn102⟩ : ∃ F : Nat × DSt → Env, ∀ (p : Nat) (d : DSt), F (p, d) = [(4, .pointer (some ⟨bj, 0, none⟩)), (6, .pointer (some ⟨b14, 0, none⟩)), (15, .int .i64 (p : Int))] := ⟨(fun (sx0 : Nat × DSt) => match sx0 with | (p, d) => [(4, .pointer (some ⟨bj, 0, none⟩)), (6, .pointer (some ⟨b14, 0, none⟩)), (15, .int .i64 (p : Int))]), fun _ _ => rfl⟩
      obtain ⟨Iv103, hIv103⟩ : ∃ F : Nat × DSt → World → Prop, ∀ (p : Nat) (d : DSt) (wr4 : World), F (p, d) wr4 = (Sat w wr4 [BA 122 3 bj (some ⟨b0, 0, none⟩) s1, DiskA 129 28 5 b0 d, Blk b14 (SW (withL (List.replicate 8 []) lF)) 50] ∧ p ≤ 8 ∧ PGb d.bl s1 (withL (List.replicate 8 []) lF) ∧ d.down = false) := ⟨(fun (sx0 : Nat × DSt) => match sx0 with | (p, d) => fun (wr4 : World) => Sat w wr4 [BA 122 3 bj (some ⟨b0, 0, none⟩) s1, DiskA 129 28 5 b0 d, Blk b14 (SW (withL (List.replicate 8 []) lF)) 50] ∧ p ≤ 8 ∧ PGb d.bl s1 (withL (List.replicate 8 []) lF) ∧ d.down = false), fun _ _ _ => rfl⟩
      obtain ⟨ms104, hms104⟩ : ∃ F : Nat × DSt → Nat, ∀ (p : Nat) (d : DSt), F (p, d) = (8 - p) := ⟨(fun (sx0 : Nat × DSt) => match sx0 with | (p, d) => 8 - p), fun _ _ => rfl⟩
      refine St_loop En102 Iv103 ms104 (0, d1) ?_ ?_ ?_
      · skip
        rw [hIv103]
        exact ⟨Sat.pre (L1 := [_, _, _]) hs, by omega, hpg1, hdn1⟩
      · rw [hEn102]; exact (subE_cons rfl (subE_cons rfl (subE_cons rfl subE_nil)))
      rintro ⟨p, d⟩ wr4 hI105
      rw [hIv103] at hI105
      obtain ⟨hs, hp, hpg, hdn⟩ := hI105
      refine St_eqE (hEn102 _ _) ?_
      refine St_seq ?_
      refine St_seq ?_
      refine St_region ?_
      have hWl8 : (withL (List.replicate 8 []) lF).length = 8 := by rw [withL_len, List.length_replicate]
      refine Ls_run (run_move rfl) rfl ?_
      refine Ls_run (run_lss rfl rfl) rfl ?_
      refine Ls_nil ?_
      refine Jm_seq ?_
      refine St_ifP rfl (fun h106 => ?_) (fun h106 => ?_)
      · skip
        refine St_skip ?_
        refine Jm_seq ?_
        refine St_seq ?_
        refine St_block ?_
        refine St_seq ?_
        refine St_region ?_
        refine Ls_run (run_move rfl) rfl ?_
        refine Ls_run (run_move rfl) rfl ?_
        replace hs := hs.front 1 rfl
        simp only [List.cons_append, List.nil_append, List.eraseIdx_cons_zero, List.eraseIdx_cons_succ] at hs
        replace hs := hs.front 1 rfl
        simp only [List.cons_append, List.nil_append, List.eraseIdx_cons_zero, List.eraseIdx_cons_succ] at hs
        obtain ⟨d4, hg4, hsm4⟩ := PGb.get (p := p) hpg hdn hen1 (by omega)
        refine Ls_call Try.func31 nm31 rfl rfl (BGet_g w wr4 _ bj b0 s1 d hs ⟨hpg.rows, by rw [hpg.n]; decide⟩ (by rw [hpg.l8]; decide) (p : Int)) rfl ?_
        rintro v107 w108 ⟨Ag, cg, rfl, hs⟩
        simp only [hg4] at hs ⊢
        obtain ⟨xp, hxp⟩ : ∃ q, (withL (List.replicate 8 []) lF).getD p [] = q := ⟨_, rfl⟩
        rw [hxp] at hs ⊢
        have hxp9 : xp.length ≤ 1024 := by rw [← hxp]; exact withL_le lF _ (fun y hy => by rw [List.eq_of_mem_replicate hy]; simp) (fun y hy => (hgF.2 y hy).2.2) _ (getD_mem_bl (by rw [withL_len, List.length_replicate]; omega))
        refine Ls_run (run_move rfl) rfl ?_
        refine Ls_run (run_extract rfl rfl) rfl ?_
        refine Ls_run (run_extract rfl rfl) rfl ?_
        refine Ls_run (run_assign rfl) rfl ?_
        refine Ls_run (run_assign rfl) rfl ?_
        refine Ls_nil ?_
        refine Jm_seq ?_
        refine St_seq ?_
        refine St_seq ?_
        refine St_region ?_
        refine Ls_run (run_assign rfl) rfl ?_
        refine Ls_nil ?_
        refine Jm_seq ?_
        refine St_block ?_
        obtain ⟨En109, hEn109⟩ : ∃ F : Nat → Env, ∀ (j : Nat), F j = [(4, .pointer (some ⟨bj, 0, none⟩)), (6, .pointer (some ⟨b14, 0, none⟩)), (15, .int .i64 (p : Int)), (16, .slice Ag xp.length cg), (18, .int .i64 (j : Int))] := ⟨(fun (j : Nat) => [(4, .pointer (some ⟨bj, 0, none⟩)), (6, .pointer (some ⟨b14, 0, none⟩)), (15, .int .i64 (p : Int)), (16, .slice Ag xp.length cg), (18, .int .i64 (j : Int))]), fun _ => rfl⟩
        obtain ⟨Iv110, hIv110⟩ : ∃ F : Nat → World → Prop, ∀ (j : Nat) (wr5 : World), F j wr5 = (∃ ys, Sat w wr5 [BA 122 3 bj (some ⟨b0, 0, none⟩) s1, DiskA 129 28 5 b0 d4, Own 5 1 (.slice Ag xp.length cg) xp.length ys, Blk b14 (SW (withL (List.replicate 8 []) lF)) 50] ∧ j ≤ xp.length ∧ AllU8 ys) := ⟨(fun (j : Nat) => fun (wr5 : World) => ∃ ys, Sat w wr5 [BA 122 3 bj (some ⟨b0, 0, none⟩) s1, DiskA 129 28 5 b0 d4, Own 5 1 (.slice Ag xp.length cg) xp.length ys, Blk b14 (SW (withL (List.replicate 8 []) lF)) 50] ∧ j ≤ xp.length ∧ AllU8 ys), fun _ _ => rfl⟩
        obtain ⟨ms111, hms111⟩ : ∃ F : Nat → Nat, ∀ (j : Nat), F j = (xp.length - j) := ⟨(fun (j : Nat) => xp.length - j), fun _ => rfl⟩
        refine St_loop En109 Iv110 ms111 (0) ?_ ?_ ?_
        · skip
          rw [hIv110]
          exact ⟨_, hs, by omega, AllU8.bytes _⟩
        · rw [hEn109]; exact (subE_cons rfl (subE_cons rfl (subE_cons rfl (subE_cons rfl (subE_cons rfl subE_nil)))))
        rintro j wr5 hI112
        rw [hIv110] at hI112
        obtain ⟨ys, hs, hj, hys⟩ := hI112
        refine St_eqE (hEn109 _) ?_
        rw [← El.val_flat ys] at hs
        refine St_seq ?_
        refine St_seq ?_
        refine St_region ?_
        refine Ls_run (run_move rfl) rfl ?_
        refine Ls_run (run_move rfl) rfl ?_
        refine Ls_run (run_len Try.underlying28 rfl) rfl ?_
        refine Ls_run (run_lss rfl rfl) rfl ?_
        refine Ls_nil ?_
        refine Jm_seq ?_
        refine St_ifP rfl (fun h113 => ?_) (fun h113 => ?_)
        · skip
          refine St_skip ?_
          refine Jm_seq ?_
          refine St_seq ?_
          refine St_block ?_
          refine St_region ?_
          refine Ls_run (run_move rfl) rfl ?_
          refine Ls_run (run_move rfl) rfl ?_
          refine Ls_run (run_move rfl) rfl ?_
          refine Ls_run (run_move rfl) rfl ?_
          have hlys := (hs.rd_at 2 rfl).len
          simp only [El.val_flat, Nat.mul_one] at hlys
          obtain ⟨x1, hx1⟩ := hys.at (i := j) (by omega)
          refine Ls_index (El.val) (hs.rd_at 2 rfl) Try.underlying28 inf5 rfl rfl (by omega) (by omega) hx1 rfl ?_
          intro b114 o115 hc116
          refine Ls_run (run_load sc5 rfl (hc116 0 _ rfl)) rfl ?_
          refine Ls_run (run_bits (by simp) rfl rfl rfl) rfl ?_
          obtain ⟨gr, hgr⟩ := (hs.front 2 rfl).own_addr (by omega)
          subst hgr
          refine Ls_run (run_index Try.underlying28 inf5 rfl rfl rfl (by omega) (by omega)) rfl ?_
          replace hs := hs.front 2 rfl
          simp only [List.cons_append, List.nil_append, List.eraseIdx_cons_zero, List.eraseIdx_cons_succ] at hs
          refine Ls_storeOwn hs inf5 rfl rfl rfl (by omega) ?_
          intro w117 hs
          refine Ls_nil ?_
          refine Jm_block_normal (Jm_seq ?_)
          refine St_region ?_
          refine Ls_run (run_move rfl) rfl ?_
          refine Ls_run (run_add rfl rfl (w64 (by omega))) rfl ?_
          refine Ls_run (run_assign rfl) rfl ?_
          refine Ls_nil ?_
          replace hs := hs.front 3 rfl
          simp only [List.cons_append, List.nil_append, List.eraseIdx_cons_zero, List.eraseIdx_cons_succ] at hs
          replace hs := hs.front 1 rfl
          simp only [List.cons_append, List.nil_append, List.eraseIdx_cons_zero, List.eraseIdx_cons_succ] at hs
          replace hs := hs.front 3 rfl
          simp only [List.cons_append, List.nil_append, List.eraseIdx_cons_zero, List.eraseIdx_cons_succ] at hs
          replace hs := hs.front 3 rfl
          simp only [List.cons_append, List.nil_append, List.eraseIdx_cons_zero, List.eraseIdx_cons_succ] at hs
          simp only [El.val_flat] at hs
          refine Jm_round (j + 1) ?_ ?_ ?_
          · rw [hEn109]; exact (subE_cons rfl (subE_cons rfl (subE_cons rfl (subE_cons rfl (subE_cons rfl subE_nil)))))
          · skip
            rw [hIv110]
            exact ⟨_, hs, by omega, hys.put _ _⟩
          · skip
            rw [hms111, hms111]
            omega
        · skip
          refine St_exit ?_
          refine Jm_then_exit (Jm_then_exit (Jm_block_same (Jm_seq ?_)))
          refine St_seq ?_
          refine St_region ?_
          refine Ls_run (run_move rfl) rfl ?_
          refine Ls_literal [_, _, _, _] hs Try.underlying28 inf5 rfl rfl rfl rfl rfl rfl ?_
          intro b118 w119 hs
          simp only [List.flatMap_cons, List.flatMap_nil, Value.cells, List.cons_append, List.nil_append] at hs
          replace hs := hs.front 3 rfl
          simp only [List.cons_append, List.nil_append, List.eraseIdx_cons_zero, List.eraseIdx_cons_succ] at hs
          refine Ls_append hs Try.underlying28 inf5 rfl (by decide) (by decide) rfl rfl (rd_block (hs.is_at 1 rfl).2 1 4 rfl) (by simp [Value.oneCell']) (by omega) rfl ?_
          intro A120 c121 w122 hs
          replace hs := hs.erase 1
          simp only [List.cons_append, List.nil_append, List.eraseIdx_cons_zero, List.eraseIdx_cons_succ] at hs
          refine Ls_run (run_assign rfl) rfl ?_
          refine Ls_nil ?_
          refine Jm_seq ?_
          refine St_seq ?_
          refine St_region ?_
          refine Ls_run (run_move rfl) rfl ?_
          refine Ls_run (run_len Try.underlying28 rfl) rfl ?_
          refine Ls_run (run_move rfl) rfl ?_
          refine Ls_run (run_as (run_index_arr Try.underlying50 inf9 rfl rfl (by omega) (by omega)) (show _ = Value.pointer (some ⟨b14, p, none⟩) from by simp)) rfl ?_
          refine Ls_run (run_load sc9 rfl (hs.blk_at 3 rfl p (SW_at (by omega)))) rfl ?_
          refine Ls_run (run_as (run_len_str Try.underlying9 rfl) (show _ = Value.int .i64 (xp.length : Int) by rw [str_size, hxp])) rfl ?_
          refine Ls_run (run_add rfl rfl (w64 (by omega))) rfl ?_
          refine Ls_run (run_asB (c := false) (run_neq rfl rfl) (by simp)) rfl ?_
          refine Ls_nil ?_
          refine Jm_seq ?_
          refine St_iff rfl ?_
          refine St_skip ?_
          refine Jm_block_normal (Jm_seq ?_)
          refine St_region ?_
          refine Ls_run (run_move rfl) rfl ?_
          refine Ls_run (run_add rfl rfl (w64 (by omega))) rfl ?_
          refine Ls_run (run_assign rfl) rfl ?_
          refine Ls_nil ?_
          replace hs := hs.erase 0
          simp only [List.cons_append, List.nil_append, List.eraseIdx_cons_zero, List.eraseIdx_cons_succ] at hs
          refine Jm_round (p + 1, d4) ?_ ?_ ?_
          · rw [hEn102]; exact (subE_cons rfl (subE_cons rfl (subE_cons rfl subE_nil)))
          · skip
            rw [hIv103]
            exact ⟨hs, by omega, by rw [hsm4.1]; exact hpg, hsm4.2.1.trans hdn⟩
          · skip
            rw [hms104, hms104]
            omega
      · skip
        refine St_exit ?_
        refine Jm_then_exit (Jm_then_exit (Jm_block_same (Jm_seq ?_)))
        refine St_seq ?_
        refine St_region ?_
        refine Ls_run (run_move rfl) rfl ?_
        refine Ls_run (run_as (run_load_agg agg50 inf50 rfl (show (((SW (withL (List.replicate 8 []) lF)).drop 0).take 8).length = 8 by rw [SW_take (by rw [withL_len, List.length_replicate]), SW_len]; exact (by rw [withL_len, List.length_replicate])) (hs.blk_cells 2 rfl 0 8)) (show _ = Value.agg (SW (withL (List.replicate 8 []) lF)).toArray by rw [SW_take (by rw [withL_len, List.length_replicate])])) rfl ?_
        replace hs := hs.front 1 rfl
        simp only [List.cons_append, List.nil_append, List.eraseIdx_cons_zero, List.eraseIdx_cons_succ] at hs
        replace hs := hs.front 1 rfl
        simp only [List.cons_append, List.nil_append, List.eraseIdx_cons_zero, List.eraseIdx_cons_succ] at hs
        refine Ls_call Try.func30 nm30 rfl rfl (holds_c w wr4 _ bj b0 s1 d (withL (List.replicate 8 []) lF) hs hpg hdn hen1 (withL_bytes _ _ rep_bytes (fun x hx => (hgF.2 x hx).2.1))) rfl ?_
        rintro v124 w125 ⟨dX, rfl, hsmX, hs⟩
        refine Ls_run (run_assign rfl) rfl ?_
        refine Ls_nil ?_
        refine Jm_seq ?_
        refine St_ret ?_
        refine Jm_ret1 rfl rfl ?_
        exact ⟨_, rfl, rfl, hs.below⟩
end Go.Proofs.Ytipkfdeiallifaa.Lg
