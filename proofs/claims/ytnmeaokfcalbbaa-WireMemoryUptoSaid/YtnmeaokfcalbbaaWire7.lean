/-
  The law WireMemory, walked. By program (gen/wire7.py).
-/
import Derived.Test.YtnmeaokfcalbbaaWire6
import Derived.Test.YtnmeaokfcalbbaaKp
set_option linter.unusedVariables false
set_option linter.unusedSimpArgs false
namespace Go.Proofs.Ytnmeaokfcalbbaa.Lg
open Go Go.RowKit Go.Proofs.Ytnmeaokfcalbbaa.WirePure
def T8 : List Int := [91, 92, 93, 94, 95, 96, 97, 98]
/-- Parts, each with eight bytes behind its end. -/
def Tails (w : World) (ms : List Value) (ls : List (List Int)) : Prop :=
  ms.length = ls.length ∧ ∀ i, i < ls.length → ∃ A c, ms.getD i nilV = .slice A (ls.getD i []).length c ∧ Rd w A ((ls.getD i []).length + 8) c 1 (bytesV (ls.getD i [] ++ T8))
theorem Tails.nil (w : World) : Tails w [] [] := ⟨rfl, fun i hi => by simp at hi⟩
theorem Tails.snoc {w : World} {ms : List Value} {ls : List (List Int)} {A : Option Addr} {c : Nat} {l : List Int} (h : Tails w ms ls) (hr : Rd w A (l.length + 8) c 1 (bytesV (l ++ T8))) : Tails w (ms ++ [.slice A l.length c]) (ls ++ [l]) :=
  ⟨by simp [h.1], fun i hi => by
    by_cases hl : i < ls.length
    · obtain ⟨A', c', e, r⟩ := h.2 i hl
      have h1 := h.1
      have e1 : (ls ++ [l]).getD i [] = ls.getD i [] := by simp [List.getD_eq_getElem?_getD, List.getElem?_append_left, hl]
      have e2 : (ms ++ [Value.slice A l.length c]).getD i nilV = ms.getD i nilV := by simp [List.getD_eq_getElem?_getD, List.getElem?_append_left, show i < ms.length by omega]
      rw [e1, e2]; exact ⟨A', c', e, r⟩
    · have hi2 : i = ls.length := by simp at hi; omega
      have h1 := h.1
      subst hi2
      have e1 : (ls ++ [l]).getD ls.length [] = l := by simp [List.getD_eq_getElem?_getD]
      have e2 : (ms ++ [Value.slice A l.length c]).getD ls.length nilV = .slice A l.length c := by rw [← h1]; simp [List.getD_eq_getElem?_getD]
      rw [e1, e2]; exact ⟨A, c, rfl, hr⟩⟩
theorem rdB_pre {w : World} {A : Option Addr} {m c : Nat} {l1 l2 : List Int} (h : Rd w A m c 1 (bytesV (l1 ++ l2))) (n : Nat) (hn : l1.length = n) (hm : n ≤ m) : Rd w A n c 1 (bytesV l1) := by
  have := rdB_take h n hm
  rwa [List.take_left' hn] at this
theorem Tails.parts {w : World} {ms : List Value} {ls : List (List Int)} (h : Tails w ms ls) : Parts w ms ls :=
  ⟨h.1, fun i hi => let ⟨A, c, e, r⟩ := h.2 i hi; ⟨A, _, c, e, rdB_pre r _ rfl (by omega)⟩⟩
theorem Tails.rd {w : World} {ms : List Value} {ls : List (List Int)} {i n c : Nat} {A : Option Addr} (h : Tails w ms ls) (hi : i < ls.length) (hl : (ls.getD i []).length = n) (hv : ms.getD i nilV = .slice A n c) : Rd w A (n + 8) c 1 (bytesV (ls.getD i [] ++ T8)) := by
  obtain ⟨A', c', e, r⟩ := h.2 i hi
  rw [hl] at e r
  rw [hv] at e
  cases e
  exact r
theorem bytesV_one2 (l : List Int) : ∀ u ∈ bytesV l, u.oneCell' = true := bytesV_one' l
theorem flatI_one (l : List Int) : ∀ u ∈ (El.int .i64).flat l, u.oneCell' = true := by
  intro u hu; rw [El.int_flat] at hu; obtain ⟨x, _, rfl⟩ := List.mem_map.1 hu; rfl
theorem rdI_pre {w : World} {A : Option Addr} {m c : Nat} {l1 l2 : List Int} (h : Rd w A m c 1 ((El.int .i64).flat (l1 ++ l2))) (n : Nat) (hn : l1.length = n) (hm : n ≤ m) : Rd w A n c 1 ((El.int .i64).flat l1) := by
  have := h.take n hm
  rw [El.flat_append, List.take_left' (by rw [El.flat_length, hn]; rfl)] at this
  exact this
theorem rdI_suf {w : World} {A : Option Addr} {m c : Nat} {l1 l2 : List Int} (h : Rd w A m c 1 ((El.int .i64).flat (l1 ++ l2))) (n : Nat) (hn : l1.length = n) (hm : n ≤ m) : Rd w (if c = n then A else A.map (·.add (n * 1))) (m - n) (c - n) 1 ((El.int .i64).flat l2) := by
  have := h.drop n hm
  rw [El.flat_append, List.drop_left' (by rw [El.flat_length, hn]; rfl)] at this
  exact this
theorem rdB_suf {w : World} {A : Option Addr} {m c : Nat} {l1 l2 : List Int} (h : Rd w A m c 1 (bytesV (l1 ++ l2))) (n : Nat) (hn : l1.length = n) (hm : n ≤ m) : Rd w (if c = n then A else A.map (·.add (n * 1))) (m - n) (c - n) 1 (bytesV l2) := by
  have := rdB_drop h n hm
  rwa [List.drop_left' hn] at this
set_option maxRecDepth 100000 in
set_option maxHeartbeats 4000000 in
theorem WireMemory_c (w : World) (A : Option Addr) (n c : Nat) (vs : List Value) (ls : List (List Int)) (A2 : Option Addr) (n2 c2 : Nat) (r : List Int) (hr : Rd w A n c 1 (El.val.flat vs)) (hp : Parts w vs ls) (hll : ls.length = n) (hb : ∀ l ∈ ls, ∀ x ∈ l, 0 ≤ x ∧ x ≤ 255) (hr2 : Rd w A2 n2 c2 1 ((El.int .i64).flat r)) (hw : ∀ x ∈ r, x ≤ 9223372036854775807) (hn : (ls.map List.length).sum + ls.length ≤ 1048576) (hn2 : n2 ≤ 1048576) :
    Calls Try.prog 12 [.slice A n c, .slice A2 n2 c2].toArray w (Ret (fun v' w' => v' = .bool true ∧ Below w.heap.size w w')) := by
  have hs := Sat.start w
  have hvl : vs.length = n := by have := hp.1; omega
  have hl2 : r.length = n2 := by have := hr2.len; rw [El.flat_length] at this; simpa [El.int] using this
  have hnl : (nm r).length ≤ 10 + 10 * n2 := by
    have h1 := nmB_len (list := r) (fun x hx => by have := hw x hx; omega)
    have h2 := pb_len10 (n := r.length) (by omega)
    simp only [nm, List.length_append]; omega
  obtain ⟨⟨b, e⟩, hnr⟩ : ∃ q, numsR r = q := ⟨_, rfl⟩
  have hec := numsR_cases hnr
  have hbl : b.length ≤ 10 + 10 * n2 := by
    unfold numsR at hnr
    split at hnr
    · have := (Prod.mk.inj hnr).1; subst this; simp
    · have := (Prod.mk.inj hnr).1; subst this; exact hnl
  have hfl := flat_len ls
  refine Calls_body Try.func12 rfl rfl rfl (envE_cons (i := 0) (v := .slice A n c) rfl (envE_cons (i := 1) (v := .slice A2 n2 c2) rfl envE_nil)) ?_
  refine St_seq ?_
  refine St_region ?_
  refine Ls_run (run_assign rfl) rfl ?_
  refine Ls_nil ?_
  refine Jm_seq ?_
  refine St_seq ?_
  refine St_seq ?_
  refine St_region ?_
  refine Ls_call Try.func15 nm15 rfl rfl (awake_c w) rfl ?_
  rintro v1 w2 ⟨rfl, hsA⟩
  replace hs := hs.trans hsA
  refine Ls_run (run_not rfl) rfl ?_
  refine Ls_nil ?_
  refine Jm_seq ?_
  refine St_iff rfl ?_
  refine St_skip ?_
  refine Jm_seq ?_
  refine St_seq ?_
  refine St_region ?_
  replace hs := hs.forget
  refine Ls_run (run_move rfl) rfl ?_
  refine Ls_run (run_len Try.underlying58 rfl) rfl ?_
  refine Ls_run (run_as (run_add rfl rfl (w64 (by omega))) (show _ = Value.int .i64 ((n + 4 : Nat) : Int) from rfl)) rfl ?_
  refine Ls_make0 (m := (n + 4)) hs Try.underlying58 inf22 (by decide) rfl rfl (by omega) (by omega) rfl ?_
  intro b4 w5 hs
  refine Ls_run (run_assign rfl) rfl ?_
  refine Ls_nil ?_
  refine Jm_seq ?_
  refine St_seq ?_
  refine St_seq ?_
  refine St_region ?_
  refine Ls_run (run_assign rfl) rfl ?_
  refine Ls_nil ?_
  refine Jm_seq ?_
  refine St_block ?_
  replace hs := Sat.toKeep (L1 := []) (F := fun w => Tails w [] (ls.take 0)) (fun B w q => Tails.nil w) hs
  obtain ⟨En6, hEn6⟩ : ∃ F : Nat × Value × List Value → Env, ∀ (i : Nat) (mv : Value) (ms : List Value), F (i, mv, ms) = [(0, .slice A n c), (1, .slice A2 n2 c2), (5, mv), (6, .int .i64 (i : Int))] := ⟨(fun (s : Nat × Value × List Value) => match s with | (i, mv, ms) => [(0, .slice A n c), (1, .slice A2 n2 c2), (5, mv), (6, .int .i64 (i : Int))]), fun _ _ _ => rfl⟩
  obtain ⟨Iv7, hIv7⟩ : ∃ F : Nat × Value × List Value → World → Prop, ∀ (i : Nat) (mv : Value) (ms : List Value) (wr : World), F (i, mv, ms) wr = (Sat w wr [Keep (fun w => Tails w ms (ls.take i)), Own 22 1 mv i (El.val.flat ms)] ∧ i ≤ n ∧ ms.length = i) := ⟨(fun (s : Nat × Value × List Value) => match s with | (i, mv, ms) => fun (wr : World) => Sat w wr [Keep (fun w => Tails w ms (ls.take i)), Own 22 1 mv i (El.val.flat ms)] ∧ i ≤ n ∧ ms.length = i), fun _ _ _ _ => rfl⟩
  obtain ⟨ms8, hms8⟩ : ∃ F : Nat × Value × List Value → Nat, ∀ (i : Nat) (mv : Value) (ms : List Value), F (i, mv, ms) = (n - i) := ⟨(fun (s : Nat × Value × List Value) => match s with | (i, mv, ms) => n - i), fun _ _ _ => rfl⟩
  refine St_loop En6 Iv7 ms8 (0, Value.slice (some ⟨b4, 0, none⟩) 0 (n + 4), []) ?_ ?_ ?_
  · skip
    rw [hIv7]
    exact ⟨hs, by omega, rfl⟩
  · rw [hEn6]; exact (subE_cons rfl (subE_cons rfl (subE_cons rfl (subE_cons rfl subE_nil))))
  rintro ⟨i, mv, ms⟩ wr hI9
  rw [hIv7] at hI9
  obtain ⟨hs, hi, hms⟩ := hI9
  refine St_eqE (hEn6 _ _ _) ?_
  refine St_seq ?_
  refine St_seq ?_
  refine St_region ?_
  refine Ls_run (run_move rfl) rfl ?_
  refine Ls_run (run_move rfl) rfl ?_
  refine Ls_run (run_len Try.underlying58 rfl) rfl ?_
  refine Ls_run (run_lss rfl rfl) rfl ?_
  refine Ls_nil ?_
  refine Jm_seq ?_
  refine St_ifP rfl (fun h10 => ?_) (fun h10 => ?_)
  · skip
    refine St_skip ?_
    refine Jm_seq ?_
    refine St_seq ?_
    refine St_block ?_
    refine St_seq ?_
    refine St_region ?_
    refine Ls_run (run_move rfl) rfl ?_
    refine Ls_run (run_move rfl) rfl ?_
    obtain ⟨Ai, ni, ci, hvi, hri⟩ := hp.2 i (by have := hp.1; omega)
    have hli := rdB_len hri
    have hmi := getD_mem_ls (ls := ls) (i := i) (by omega)
    have hsi := sum_mem hmi
    refine Ls_index (El.val) (hr.inB hs) Try.underlying58 inf22 rfl rfl (by omega) (by omega) hvi rfl ?_
    intro b11 o12 hc13
    refine Ls_run (run_load sc22 rfl (hc13 0 _ rfl)) rfl ?_
    refine Ls_run (run_len Try.underlying22 rfl) rfl ?_
    refine Ls_run (run_as (run_add rfl rfl (w64 (by omega))) (show _ = Value.int .i64 ((ni + 8 : Nat) : Int) from rfl)) rfl ?_
    refine Ls_make0 (m := (ni + 8)) hs Try.underlying22 inf5 (by decide) rfl rfl (by omega) (by omega) rfl ?_
    intro b14 w15 hs
    refine Ls_run (run_assign rfl) rfl ?_
    refine Ls_nil ?_
    refine Jm_seq ?_
    refine St_seq ?_
    refine St_region ?_
    refine Ls_run (run_move rfl) rfl ?_
    refine Ls_run (run_move rfl) rfl ?_
    refine Ls_run (run_move rfl) rfl ?_
    refine Ls_index (El.val) (hr.inB hs) Try.underlying58 inf22 rfl rfl (by omega) (by omega) hvi rfl ?_
    intro b16 o17 hc18
    refine Ls_run (run_load sc22 rfl (hc18 0 _ rfl)) rfl ?_
    refine Ls_append hs Try.underlying22 inf5 rfl (by decide) (by decide) rfl rfl (hri.inB hs) (bytesV_one2 _) (by omega) rfl ?_
    intro A19 c20 w21 hs
    refine Ls_run (run_assign rfl) rfl ?_
    refine Ls_nil ?_
    refine Jm_seq ?_
    refine St_seq ?_
    refine St_region ?_
    refine Ls_run (run_move rfl) rfl ?_
    refine Ls_literal [_, _, _, _, _, _, _, _] hs Try.underlying22 inf5 rfl rfl rfl rfl rfl rfl ?_
    intro b22 w23 hs
    simp only [List.flatMap_cons, List.flatMap_nil, Value.cells, List.cons_append, List.nil_append] at hs
    replace hs := hs.front 1 rfl
    simp only [List.cons_append, List.nil_append, List.eraseIdx_cons_zero, List.eraseIdx_cons_succ] at hs
    refine Ls_append hs Try.underlying22 inf5 rfl (by decide) (by decide) rfl rfl (rd_block (hs.is_at 1 rfl).2 1 8 rfl) (by simp [Value.oneCell']) (by omega) rfl ?_
    intro A24 c25 w26 hs
    replace hs := hs.erase 1
    simp only [List.cons_append, List.nil_append, List.eraseIdx_cons_zero, List.eraseIdx_cons_succ] at hs
    refine Ls_run (run_assign rfl) rfl ?_
    refine Ls_nil ?_
    refine Jm_seq ?_
    refine St_region ?_
    simp only [Nat.zero_add, List.nil_append] at hs ⊢
    rw [show bytesV (ls.getD i []) ++ [Value.int .u8 91, Value.int .u8 92, Value.int .u8 93, Value.int .u8 94, Value.int .u8 95, Value.int .u8 96, Value.int .u8 97, Value.int .u8 98] = bytesV (ls.getD i [] ++ T8) from by simp [bytesV, T8]] at hs
    obtain ⟨Ap, hAp⟩ : ∃ q, q = A24 := ⟨_, rfl⟩
    obtain ⟨cp, hcp⟩ : ∃ q, q = c25 := ⟨_, rfl⟩
    rw [← hAp, ← hcp] at hs ⊢
    replace hs := hs.front 2 rfl
    simp only [List.cons_append, List.nil_append, List.eraseIdx_cons_zero, List.eraseIdx_cons_succ] at hs
    replace hs := hs.front 2 rfl
    simp only [List.cons_append, List.nil_append, List.eraseIdx_cons_zero, List.eraseIdx_cons_succ] at hs
    replace hs := hs.front 2 rfl
    simp only [List.cons_append, List.nil_append, List.eraseIdx_cons_zero, List.eraseIdx_cons_succ] at hs
    have hcapp := (hs.rd_at 0 rfl).cap
    replace hs := Sat.toKeep (L1 := [_, _]) (L := [_]) (F := fun w => Tails w (ms ++ [.slice Ap ni cp]) (ls.take i ++ [ls.getD i []])) (fun B w q => by have h := (q.kept 1 rfl).snoc (l := ls.getD i []) (A := Ap) (c := cp) (by rw [hli]; exact q.rd_at 0 rfl); rwa [hli] at h) hs
    refine Ls_run (run_move rfl) rfl ?_
    refine Ls_run (run_move rfl) rfl ?_
    refine Ls_run (run_move rfl) rfl ?_
    refine Ls_run (run_move rfl) rfl ?_
    refine Ls_index (El.val) (hr.inB hs) Try.underlying58 inf22 rfl rfl (by omega) (by omega) hvi rfl ?_
    intro b27 o28 hc29
    refine Ls_run (run_load sc22 rfl (hc29 0 _ rfl)) rfl ?_
    refine Ls_run (run_len Try.underlying22 rfl) rfl ?_
    refine Ls_run (run_slice_h Try.underlying22 inf5 rfl rfl (by omega) (by omega)) rfl ?_
    refine Ls_literal [_] hs Try.underlying58 inf22 rfl rfl rfl rfl rfl rfl ?_
    intro b30 w31 hs
    simp only [List.flatMap_cons, List.flatMap_nil, Value.cells, List.cons_append, List.nil_append] at hs
    replace hs := hs.front 2 rfl
    simp only [List.cons_append, List.nil_append, List.eraseIdx_cons_zero, List.eraseIdx_cons_succ] at hs
    refine Ls_append hs Try.underlying58 inf22 rfl (by decide) (by decide) rfl rfl (rd_block (hs.is_at 1 rfl).2 1 1 rfl) (by simp [Value.oneCell']) (by omega) rfl ?_
    intro A32 c33 w34 hs
    replace hs := hs.erase 1
    simp only [List.cons_append, List.nil_append, List.eraseIdx_cons_zero, List.eraseIdx_cons_succ] at hs
    refine Ls_run (run_assign rfl) rfl ?_
    refine Ls_nil ?_
    refine Jm_block_normal (Jm_seq ?_)
    refine St_region ?_
    refine Ls_run (run_move rfl) rfl ?_
    refine Ls_run (run_add rfl rfl (w64 (by omega))) rfl ?_
    refine Ls_run (run_assign rfl) rfl ?_
    refine Ls_nil ?_
    replace hs := hs.front 1 rfl
    simp only [List.cons_append, List.nil_append, List.eraseIdx_cons_zero, List.eraseIdx_cons_succ] at hs
    refine Jm_round (i + 1, Value.slice A32 (i + 1) c33, ms ++ [Value.slice Ap ni cp]) ?_ ?_ ?_
    · rw [hEn6]; exact (subE_cons rfl (subE_cons rfl (subE_cons rfl (subE_cons rfl subE_nil))))
    · skip
      rw [hIv7]
      refine ⟨?_, by omega, by simp [hms]⟩
      rw [List.take_succ_eq_append_getElem (show i < ls.length by omega), show ls[i] = ls.getD i [] by rw [List.getD_eq_getElem?_getD, List.getElem?_eq_getElem (show i < ls.length by omega)]; rfl, El.val_flat]
      rw [El.val_flat] at hs
      exact hs
    · skip
      rw [hms8, hms8]
      omega
  · skip
    refine St_exit ?_
    refine Jm_then_exit (Jm_then_exit (Jm_block_same (Jm_seq ?_)))
    refine St_seq ?_
    refine St_region ?_
    replace hs := hs.front 1 rfl
    simp only [List.cons_append, List.nil_append, List.eraseIdx_cons_zero, List.eraseIdx_cons_succ] at hs
    have hi9 : i = n := by omega
    rw [hi9, List.take_of_length_le (by omega)] at hs
    obtain ⟨Am, cm, rfl, _, _, _⟩ := hs.own_form
    replace hs := Sat.toKeep (L1 := [_, _]) (L := []) (F := fun w => Rd w Am n cm 1 (El.val.flat ms) ∧ Tails w ms ls) (fun B w q => ⟨q.rd_at 0 rfl, q.kept 1 rfl⟩) hs
    refine Ls_run (run_move rfl) rfl ?_
    try simp only [List.nil_append, List.cons_append] at hs
    refine Ls_call Try.func36 nm36 rfl rfl (Join_c wr Am n cm ms ls (hs.kept 0 rfl).1 (hs.kept 0 rfl).2.parts (by omega) (by omega)) rfl ?_
    rintro v35 w36 ⟨Aa, ca, rfl, hsa⟩
    replace hs := hs.trans hsa
    simp only [List.nil_append, List.cons_append] at hs
    refine Ls_run (run_assign rfl) rfl ?_
    refine Ls_nil ?_
    refine Jm_seq ?_
    refine St_seq ?_
    refine St_region ?_
    refine Ls_run (run_move rfl) rfl ?_
    try simp only [List.nil_append, List.cons_append] at hs
    refine Ls_call Try.func36 nm36 rfl rfl (Join_c w36 Am n cm ms ls (hs.kept 1 rfl).1 (hs.kept 1 rfl).2.parts (by omega) (by omega)) rfl ?_
    rintro v37 w38 ⟨Ab, cb, rfl, hsb⟩
    replace hs := hs.trans hsb
    simp only [List.nil_append, List.cons_append] at hs
    refine Ls_run (run_assign rfl) rfl ?_
    refine Ls_nil ?_
    refine Jm_seq ?_
    refine St_seq ?_
    refine St_region ?_
    refine Ls_run (run_move rfl) rfl ?_
    refine Ls_run (run_len Try.underlying46 rfl) rfl ?_
    refine Ls_run (run_assign rfl) rfl ?_
    refine Ls_nil ?_
    refine Jm_seq ?_
    refine St_seq ?_
    refine St_region ?_
    refine Ls_run (run_move rfl) rfl ?_
    refine Ls_run (run_as (run_add rfl rfl (w64 (by omega))) (show _ = Value.int .i64 ((n2 + 4 : Nat) : Int) from rfl)) rfl ?_
    refine Ls_make0 (m := (n2 + 4)) hs Try.underlying46 inf3 (by decide) rfl rfl (by omega) (by omega) rfl ?_
    intro b39 w40 hs
    refine Ls_run (run_assign rfl) rfl ?_
    refine Ls_nil ?_
    refine Jm_seq ?_
    refine St_seq ?_
    refine St_region ?_
    refine Ls_run (run_move rfl) rfl ?_
    refine Ls_run (run_move rfl) rfl ?_
    refine Ls_append hs Try.underlying46 inf3 rfl (by decide) (by decide) rfl rfl (hr2.inB hs) (flatI_one _) (by omega) rfl ?_
    intro A41 c42 w43 hs
    refine Ls_run (run_assign rfl) rfl ?_
    refine Ls_nil ?_
    refine Jm_seq ?_
    refine St_seq ?_
    refine St_region ?_
    refine Ls_run (run_move rfl) rfl ?_
    refine Ls_literal [_, _, _, _] hs Try.underlying46 inf3 rfl rfl rfl rfl rfl rfl ?_
    intro b44 w45 hs
    simp only [List.flatMap_cons, List.flatMap_nil, Value.cells, List.cons_append, List.nil_append] at hs
    replace hs := hs.front 1 rfl
    simp only [List.cons_append, List.nil_append, List.eraseIdx_cons_zero, List.eraseIdx_cons_succ] at hs
    refine Ls_append hs Try.underlying46 inf3 rfl (by decide) (by decide) rfl rfl (rd_block (hs.is_at 1 rfl).2 1 4 rfl) (by simp [Value.oneCell']) (by omega) rfl ?_
    intro A46 c47 w48 hs
    replace hs := hs.erase 1
    simp only [List.cons_append, List.nil_append, List.eraseIdx_cons_zero, List.eraseIdx_cons_succ] at hs
    refine Ls_run (run_assign rfl) rfl ?_
    refine Ls_nil ?_
    refine Jm_seq ?_
    refine St_seq ?_
    refine St_region ?_
    simp only [Nat.zero_add, List.nil_append] at hs ⊢
    rw [show (El.int .i64).flat r ++ [Value.int .i64 1, Value.int .i64 2, Value.int .i64 3, Value.int .i64 4] = (El.int .i64).flat (r ++ [1, 2, 3, 4]) from by simp [El.flat, El.int]] at hs
    obtain ⟨Au, hAu⟩ : ∃ q, q = A46 := ⟨_, rfl⟩
    obtain ⟨cu, hcu⟩ : ∃ q, q = c47 := ⟨_, rfl⟩
    rw [← hAu, ← hcu] at hs ⊢
    have hcapu := (hs.rd_at 0 rfl).cap
    refine Ls_run (run_move rfl) rfl ?_
    refine Ls_run (run_move rfl) rfl ?_
    refine Ls_run (run_slice_h Try.underlying46 inf3 rfl rfl (by omega) (by omega)) rfl ?_
    refine Ls_call Try.func42 nm42 rfl rfl (Nums_f w48 Au n2 cu r (rdI_pre (hs.rd_at 0 rfl) n2 hl2 (by omega)) (by omega) hw) rfl ?_
    rintro v49 w50 ⟨Ac, cc, rfl, hsc⟩
    simp only [hnr] at hsc ⊢
    replace hs := hs.trans hsc
    simp only [List.nil_append, List.cons_append] at hs
    refine Ls_run (run_move rfl) rfl ?_
    refine Ls_run (run_extract rfl rfl) rfl ?_
    refine Ls_run (run_extract rfl rfl) rfl ?_
    refine Ls_run (run_assign rfl) rfl ?_
    refine Ls_run (run_assign rfl) rfl ?_
    refine Ls_nil ?_
    refine Jm_seq ?_
    refine St_seq ?_
    refine St_region ?_
    refine Ls_run (run_move rfl) rfl ?_
    refine Ls_run (run_move rfl) rfl ?_
    refine Ls_run (run_slice_h Try.underlying46 inf3 rfl rfl (by omega) (by omega)) rfl ?_
    refine Ls_call Try.func42 nm42 rfl rfl (Nums_f w50 Au n2 cu r (rdI_pre (hs.rd_at 1 rfl) n2 hl2 (by omega)) (by omega) hw) rfl ?_
    rintro v51 w52 ⟨Ad, cd, rfl, hsd⟩
    simp only [hnr] at hsd ⊢
    replace hs := hs.trans hsd
    simp only [List.nil_append, List.cons_append] at hs
    refine Ls_run (run_move rfl) rfl ?_
    refine Ls_run (run_extract rfl rfl) rfl ?_
    refine Ls_run (run_extract rfl rfl) rfl ?_
    refine Ls_run (run_assign rfl) rfl ?_
    refine Ls_run (run_assign rfl) rfl ?_
    refine Ls_nil ?_
    refine Jm_seq ?_
    refine St_seq ?_
    refine St_region ?_
    refine Ls_run (run_move rfl) rfl ?_
    refine Ls_run (run_string Try.underlying22 Try.underlying5 Try.underlying9 rfl (hs.rd_at 3 rfl)) rfl ?_
    refine Ls_run (run_assign rfl) rfl ?_
    refine Ls_nil ?_
    refine Jm_seq ?_
    refine St_seq ?_
    refine St_region ?_
    refine Ls_run (run_move rfl) rfl ?_
    refine Ls_run (run_as (run_string Try.underlying22 Try.underlying5 Try.underlying9 rfl (hs.rd_at 0 rfl)) (show _ = Value.string (strOfNums b) from rfl)) rfl ?_
    refine Ls_run (run_assign rfl) rfl ?_
    refine Ls_nil ?_
    refine Jm_seq ?_
    refine St_seq ?_
    refine St_seq ?_
    refine St_region ?_
    refine Ls_run (run_assign rfl) rfl ?_
    refine Ls_nil ?_
    refine Jm_seq ?_
    refine St_block ?_
    replace hs := hs.front 5 rfl
    simp only [List.cons_append, List.nil_append, List.eraseIdx_cons_zero, List.eraseIdx_cons_succ] at hs
    replace hs := hs.front 3 rfl
    simp only [List.cons_append, List.nil_append, List.eraseIdx_cons_zero, List.eraseIdx_cons_succ] at hs
    replace hs := hs.front 2 rfl
    simp only [List.cons_append, List.nil_append, List.eraseIdx_cons_zero, List.eraseIdx_cons_succ] at hs
    replace hs := hs.front 4 rfl
    simp only [List.cons_append, List.nil_append, List.eraseIdx_cons_zero, List.eraseIdx_cons_succ] at hs
    replace hs := hs.front 4 rfl
    simp only [List.cons_append, List.nil_append, List.eraseIdx_cons_zero, List.eraseIdx_cons_succ] at hs
    replace hs := hs.front 5 rfl
    simp only [List.cons_append, List.nil_append, List.eraseIdx_cons_zero, List.eraseIdx_cons_succ] at hs
    obtain ⟨En53, hEn53⟩ : ∃ F : Nat × List Value → Env, ∀ (i : Nat) (xs : List Value), F (i, xs) = [(0, .slice A n c), (1, .slice A2 n2 c2), (5, .slice Am n cm), (9, .slice Ab ls.flatten.length cb), (10, .int .i64 (n2 : Int)), (11, .slice Au (n2 + 4) cu), (13, .int .i64 e), (14, .slice Ad b.length cd), (15, .int .i64 e), (16, .string (strOfNums ls.flatten)), (17, .string (strOfNums b)), (8, .slice Aa ls.flatten.length ca), (12, .slice Ac b.length cc), (18, .int .i64 (i : Int))] := ⟨(fun (s : Nat × List Value) => match s with | (i, xs) => [(0, .slice A n c), (1, .slice A2 n2 c2), (5, .slice Am n cm), (9, .slice Ab ls.flatten.length cb), (10, .int .i64 (n2 : Int)), (11, .slice Au (n2 + 4) cu), (13, .int .i64 e), (14, .slice Ad b.length cd), (15, .int .i64 e), (16, .string (strOfNums ls.flatten)), (17, .string (strOfNums b)), (8, .slice Aa ls.flatten.length ca), (12, .slice Ac b.length cc), (18, .int .i64 (i : Int))]), fun _ _ => rfl⟩
    obtain ⟨Iv54, hIv54⟩ : ∃ F : Nat × List Value → World → Prop, ∀ (i : Nat) (xs : List Value) (wr2 : World), F (i, xs) wr2 = (Sat w wr2 [Own 5 1 (.slice Aa ls.flatten.length ca) ls.flatten.length xs, Own 5 1 (.slice Ac b.length cc) b.length (bytesV b), Own 5 1 (.slice Ab ls.flatten.length cb) ls.flatten.length (bytesV ls.flatten), Own 5 1 (.slice Ad b.length cd) b.length (bytesV b), Own 3 1 (.slice Au (n2 + 4) cu) (n2 + 4) ((El.int .i64).flat (r ++ [1, 2, 3, 4])), Keep (fun w => Rd w Am n cm 1 (El.val.flat ms) ∧ Tails w ms ls)] ∧ i ≤ ls.flatten.length) := ⟨(fun (s : Nat × List Value) => match s with | (i, xs) => fun (wr2 : World) => Sat w wr2 [Own 5 1 (.slice Aa ls.flatten.length ca) ls.flatten.length xs, Own 5 1 (.slice Ac b.length cc) b.length (bytesV b), Own 5 1 (.slice Ab ls.flatten.length cb) ls.flatten.length (bytesV ls.flatten), Own 5 1 (.slice Ad b.length cd) b.length (bytesV b), Own 3 1 (.slice Au (n2 + 4) cu) (n2 + 4) ((El.int .i64).flat (r ++ [1, 2, 3, 4])), Keep (fun w => Rd w Am n cm 1 (El.val.flat ms) ∧ Tails w ms ls)] ∧ i ≤ ls.flatten.length), fun _ _ _ => rfl⟩
    obtain ⟨ms55, hms55⟩ : ∃ F : Nat × List Value → Nat, ∀ (i : Nat) (xs : List Value), F (i, xs) = (ls.flatten.length - i) := ⟨(fun (s : Nat × List Value) => match s with | (i, xs) => ls.flatten.length - i), fun _ _ => rfl⟩
    refine St_loop En53 Iv54 ms55 (0, bytesV ls.flatten) ?_ ?_ ?_
    · skip
      rw [hIv54]
      exact ⟨hs, by omega⟩
    · rw [hEn53]; exact (subE_cons rfl (subE_cons rfl (subE_cons rfl (subE_cons rfl (subE_cons rfl (subE_cons rfl (subE_cons rfl (subE_cons rfl (subE_cons rfl (subE_cons rfl (subE_cons rfl (subE_cons rfl (subE_cons rfl (subE_cons rfl subE_nil))))))))))))))
    rintro ⟨i, xs⟩ wr2 hI56
    rw [hIv54] at hI56
    obtain ⟨hs, hi⟩ := hI56
    refine St_eqE (hEn53 _ _) ?_
    refine St_seq ?_
    refine St_seq ?_
    refine St_region ?_
    refine Ls_run (run_move rfl) rfl ?_
    refine Ls_run (run_move rfl) rfl ?_
    refine Ls_run (run_len Try.underlying22 rfl) rfl ?_
    refine Ls_run (run_lss rfl rfl) rfl ?_
    refine Ls_nil ?_
    refine Jm_seq ?_
    refine St_ifP rfl (fun h57 => ?_) (fun h57 => ?_)
    · skip
      refine St_skip ?_
      refine Jm_seq ?_
      refine St_seq ?_
      refine St_block ?_
      refine St_region ?_
      refine Ls_run (run_move rfl) rfl ?_
      refine Ls_run (run_move rfl) rfl ?_
      obtain ⟨ga, rfl⟩ := (hs.front 0 rfl).own_addr (by omega)
      refine Ls_run (run_index Try.underlying22 inf5 rfl rfl rfl (by omega) (by omega)) rfl ?_
      refine Ls_storeOwn hs inf5 rfl rfl rfl (by omega) ?_
      intro w58 hs
      refine Ls_nil ?_
      refine Jm_block_normal (Jm_seq ?_)
      refine St_region ?_
      refine Ls_run (run_move rfl) rfl ?_
      refine Ls_run (run_add rfl rfl (w64 (by omega))) rfl ?_
      refine Ls_run (run_assign rfl) rfl ?_
      refine Ls_nil ?_
      refine Jm_round (i + 1, xs.set (0 + (i : Int).toNat * 1) (.int .u8 85)) ?_ ?_ ?_
      · rw [hEn53]; exact (subE_cons rfl (subE_cons rfl (subE_cons rfl (subE_cons rfl (subE_cons rfl (subE_cons rfl (subE_cons rfl (subE_cons rfl (subE_cons rfl (subE_cons rfl (subE_cons rfl (subE_cons rfl (subE_cons rfl (subE_cons rfl subE_nil))))))))))))))
      · skip
        rw [hIv54]
        exact ⟨hs, by omega⟩
      · skip
        rw [hms55, hms55]
        omega
    · skip
      refine St_exit ?_
      refine Jm_then_exit (Jm_then_exit (Jm_block_same (Jm_seq ?_)))
      refine St_seq ?_
      refine St_seq ?_
      refine St_region ?_
      refine Ls_run (run_assign rfl) rfl ?_
      refine Ls_nil ?_
      refine Jm_seq ?_
      refine St_block ?_
      obtain ⟨En59, hEn59⟩ : ∃ F : Nat × List Value → Env, ∀ (i : Nat) (ys : List Value), F (i, ys) = [(0, .slice A n c), (1, .slice A2 n2 c2), (5, .slice Am n cm), (9, .slice Ab ls.flatten.length cb), (10, .int .i64 (n2 : Int)), (11, .slice Au (n2 + 4) cu), (13, .int .i64 e), (14, .slice Ad b.length cd), (15, .int .i64 e), (16, .string (strOfNums ls.flatten)), (17, .string (strOfNums b)), (8, .slice Aa ls.flatten.length ca), (12, .slice Ac b.length cc), (19, .int .i64 (i : Int))] := ⟨(fun (s : Nat × List Value) => match s with | (i, ys) => [(0, .slice A n c), (1, .slice A2 n2 c2), (5, .slice Am n cm), (9, .slice Ab ls.flatten.length cb), (10, .int .i64 (n2 : Int)), (11, .slice Au (n2 + 4) cu), (13, .int .i64 e), (14, .slice Ad b.length cd), (15, .int .i64 e), (16, .string (strOfNums ls.flatten)), (17, .string (strOfNums b)), (8, .slice Aa ls.flatten.length ca), (12, .slice Ac b.length cc), (19, .int .i64 (i : Int))]), fun _ _ => rfl⟩
      obtain ⟨Iv60, hIv60⟩ : ∃ F : Nat × List Value → World → Prop, ∀ (i : Nat) (ys : List Value) (wr3 : World), F (i, ys) wr3 = (Sat w wr3 [Own 5 1 (.slice Aa ls.flatten.length ca) ls.flatten.length xs, Own 5 1 (.slice Ac b.length cc) b.length ys, Own 5 1 (.slice Ab ls.flatten.length cb) ls.flatten.length (bytesV ls.flatten), Own 5 1 (.slice Ad b.length cd) b.length (bytesV b), Own 3 1 (.slice Au (n2 + 4) cu) (n2 + 4) ((El.int .i64).flat (r ++ [1, 2, 3, 4])), Keep (fun w => Rd w Am n cm 1 (El.val.flat ms) ∧ Tails w ms ls)] ∧ i ≤ b.length) := ⟨(fun (s : Nat × List Value) => match s with | (i, ys) => fun (wr3 : World) => Sat w wr3 [Own 5 1 (.slice Aa ls.flatten.length ca) ls.flatten.length xs, Own 5 1 (.slice Ac b.length cc) b.length ys, Own 5 1 (.slice Ab ls.flatten.length cb) ls.flatten.length (bytesV ls.flatten), Own 5 1 (.slice Ad b.length cd) b.length (bytesV b), Own 3 1 (.slice Au (n2 + 4) cu) (n2 + 4) ((El.int .i64).flat (r ++ [1, 2, 3, 4])), Keep (fun w => Rd w Am n cm 1 (El.val.flat ms) ∧ Tails w ms ls)] ∧ i ≤ b.length), fun _ _ _ => rfl⟩
      obtain ⟨ms61, hms61⟩ : ∃ F : Nat × List Value → Nat, ∀ (i : Nat) (ys : List Value), F (i, ys) = (b.length - i) := ⟨(fun (s : Nat × List Value) => match s with | (i, ys) => b.length - i), fun _ _ => rfl⟩
      refine St_loop En59 Iv60 ms61 (0, bytesV b) ?_ ?_ ?_
      · skip
        rw [hIv60]
        exact ⟨hs, by omega⟩
      · rw [hEn59]; exact (subE_cons rfl (subE_cons rfl (subE_cons rfl (subE_cons rfl (subE_cons rfl (subE_cons rfl (subE_cons rfl (subE_cons rfl (subE_cons rfl (subE_cons rfl (subE_cons rfl (subE_cons rfl (subE_cons rfl (subE_cons rfl subE_nil))))))))))))))
      rintro ⟨i, ys⟩ wr3 hI62
      rw [hIv60] at hI62
      obtain ⟨hs, hi⟩ := hI62
      refine St_eqE (hEn59 _ _) ?_
      refine St_seq ?_
      refine St_seq ?_
      refine St_region ?_
      refine Ls_run (run_move rfl) rfl ?_
      refine Ls_run (run_move rfl) rfl ?_
      refine Ls_run (run_len Try.underlying22 rfl) rfl ?_
      refine Ls_run (run_lss rfl rfl) rfl ?_
      refine Ls_nil ?_
      refine Jm_seq ?_
      refine St_ifP rfl (fun h63 => ?_) (fun h63 => ?_)
      · skip
        refine St_skip ?_
        refine Jm_seq ?_
        refine St_seq ?_
        refine St_block ?_
        refine St_region ?_
        refine Ls_run (run_move rfl) rfl ?_
        refine Ls_run (run_move rfl) rfl ?_
        obtain ⟨gc, rfl⟩ := (hs.front 1 rfl).own_addr (by omega)
        refine Ls_run (run_index Try.underlying22 inf5 rfl rfl rfl (by omega) (by omega)) rfl ?_
        replace hs := hs.front 1 rfl
        simp only [List.cons_append, List.nil_append, List.eraseIdx_cons_zero, List.eraseIdx_cons_succ] at hs
        refine Ls_storeOwn hs inf5 rfl rfl rfl (by omega) ?_
        intro w65 hs
        refine Ls_nil ?_
        refine Jm_block_normal (Jm_seq ?_)
        refine St_region ?_
        refine Ls_run (run_move rfl) rfl ?_
        refine Ls_run (run_add rfl rfl (w64 (by omega))) rfl ?_
        refine Ls_run (run_assign rfl) rfl ?_
        refine Ls_nil ?_
        replace hs := hs.front 5 rfl
        simp only [List.cons_append, List.nil_append, List.eraseIdx_cons_zero, List.eraseIdx_cons_succ] at hs
        replace hs := hs.front 5 rfl
        simp only [List.cons_append, List.nil_append, List.eraseIdx_cons_zero, List.eraseIdx_cons_succ] at hs
        replace hs := hs.front 5 rfl
        simp only [List.cons_append, List.nil_append, List.eraseIdx_cons_zero, List.eraseIdx_cons_succ] at hs
        replace hs := hs.front 5 rfl
        simp only [List.cons_append, List.nil_append, List.eraseIdx_cons_zero, List.eraseIdx_cons_succ] at hs
        replace hs := hs.front 4 rfl
        simp only [List.cons_append, List.nil_append, List.eraseIdx_cons_zero, List.eraseIdx_cons_succ] at hs
        replace hs := hs.front 5 rfl
        simp only [List.cons_append, List.nil_append, List.eraseIdx_cons_zero, List.eraseIdx_cons_succ] at hs
        refine Jm_round (i + 1, ys.set (0 + (i : Int).toNat * 1) (.int .u8 85)) ?_ ?_ ?_
        · rw [hEn59]; exact (subE_cons rfl (subE_cons rfl (subE_cons rfl (subE_cons rfl (subE_cons rfl (subE_cons rfl (subE_cons rfl (subE_cons rfl (subE_cons rfl (subE_cons rfl (subE_cons rfl (subE_cons rfl (subE_cons rfl (subE_cons rfl subE_nil))))))))))))))
        · skip
          rw [hIv60]
          exact ⟨hs, by omega⟩
        · skip
          rw [hms61, hms61]
          omega
      · skip
        refine St_exit ?_
        refine Jm_then_exit (Jm_then_exit (Jm_block_same (Jm_seq ?_)))
        refine St_seq ?_
        refine St_seq ?_
        refine St_region ?_
        refine Ls_run (run_assign rfl) rfl ?_
        refine Ls_nil ?_
        refine Jm_seq ?_
        refine St_block ?_
        obtain ⟨En66, hEn66⟩ : ∃ F : Nat × Value × Value × Nat × Nat × List Value × List Value → Env, ∀ (i : Nat) (av : Value) (cv : Value) (ma : Nat) (mc : Nat) (xa : List Value) (xc : List Value), F (i, av, cv, ma, mc, xa, xc) = [(0, .slice A n c), (1, .slice A2 n2 c2), (5, .slice Am n cm), (9, .slice Ab ls.flatten.length cb), (10, .int .i64 (n2 : Int)), (11, .slice Au (n2 + 4) cu), (13, .int .i64 e), (14, .slice Ad b.length cd), (15, .int .i64 e), (16, .string (strOfNums ls.flatten)), (17, .string (strOfNums b)), (8, av), (12, cv), (20, .int .i64 (i : Int))] := ⟨(fun (s : Nat × Value × Value × Nat × Nat × List Value × List Value) => match s with | (i, av, cv, ma, mc, xa, xc) => [(0, .slice A n c), (1, .slice A2 n2 c2), (5, .slice Am n cm), (9, .slice Ab ls.flatten.length cb), (10, .int .i64 (n2 : Int)), (11, .slice Au (n2 + 4) cu), (13, .int .i64 e), (14, .slice Ad b.length cd), (15, .int .i64 e), (16, .string (strOfNums ls.flatten)), (17, .string (strOfNums b)), (8, av), (12, cv), (20, .int .i64 (i : Int))]), fun _ _ _ _ _ _ _ => rfl⟩
        obtain ⟨Iv67, hIv67⟩ : ∃ F : Nat × Value × Value × Nat × Nat × List Value × List Value → World → Prop, ∀ (i : Nat) (av : Value) (cv : Value) (ma : Nat) (mc : Nat) (xa : List Value) (xc : List Value) (wr4 : World), F (i, av, cv, ma, mc, xa, xc) wr4 = (Sat w wr4 [Own 5 1 av ma xa, Own 5 1 cv mc xc, Own 5 1 (.slice Ab ls.flatten.length cb) ls.flatten.length (bytesV ls.flatten), Own 5 1 (.slice Ad b.length cd) b.length (bytesV b), Own 3 1 (.slice Au (n2 + 4) cu) (n2 + 4) ((El.int .i64).flat (r ++ [1, 2, 3, 4])), Keep (fun w => Rd w Am n cm 1 (El.val.flat ms) ∧ Tails w ms ls)] ∧ i ≤ 12 ∧ ma ≤ ls.flatten.length + i ∧ mc ≤ b.length + i) := ⟨(fun (s : Nat × Value × Value × Nat × Nat × List Value × List Value) => match s with | (i, av, cv, ma, mc, xa, xc) => fun (wr4 : World) => Sat w wr4 [Own 5 1 av ma xa, Own 5 1 cv mc xc, Own 5 1 (.slice Ab ls.flatten.length cb) ls.flatten.length (bytesV ls.flatten), Own 5 1 (.slice Ad b.length cd) b.length (bytesV b), Own 3 1 (.slice Au (n2 + 4) cu) (n2 + 4) ((El.int .i64).flat (r ++ [1, 2, 3, 4])), Keep (fun w => Rd w Am n cm 1 (El.val.flat ms) ∧ Tails w ms ls)] ∧ i ≤ 12 ∧ ma ≤ ls.flatten.length + i ∧ mc ≤ b.length + i), fun _ _ _ _ _ _ _ _ => rfl⟩
        obtain ⟨ms68, hms68⟩ : ∃ F : Nat × Value × Value × Nat × Nat × List Value × List Value → Nat, ∀ (i : Nat) (av : Value) (cv : Value) (ma : Nat) (mc : Nat) (xa : List Value) (xc : List Value), F (i, av, cv, ma, mc, xa, xc) = (12 - i) := ⟨(fun (s : Nat × Value × Value × Nat × Nat × List Value × List Value) => match s with | (i, av, cv, ma, mc, xa, xc) => 12 - i), fun _ _ _ _ _ _ _ => rfl⟩
        refine St_loop En66 Iv67 ms68 (0, Value.slice Aa ls.flatten.length ca, Value.slice Ac b.length cc, ls.flatten.length, b.length, xs, ys) ?_ ?_ ?_
        · skip
          rw [hIv67]
          exact ⟨hs, by omega, by omega, by omega⟩
        · rw [hEn66]; exact (subE_cons rfl (subE_cons rfl (subE_cons rfl (subE_cons rfl (subE_cons rfl (subE_cons rfl (subE_cons rfl (subE_cons rfl (subE_cons rfl (subE_cons rfl (subE_cons rfl (subE_cons rfl (subE_cons rfl (subE_cons rfl subE_nil))))))))))))))
        rintro ⟨i, av, cv, ma, mc, xa, xc⟩ wr4 hI69
        rw [hIv67] at hI69
        obtain ⟨hs, hi, hma, hmc⟩ := hI69
        refine St_eqE (hEn66 _ _ _ _ _ _ _) ?_
        refine St_seq ?_
        refine St_seq ?_
        refine St_region ?_
        refine Ls_run (run_move rfl) rfl ?_
        refine Ls_run (run_lss rfl rfl) rfl ?_
        refine Ls_nil ?_
        refine Jm_seq ?_
        refine St_ifP rfl (fun h70 => ?_) (fun h70 => ?_)
        · skip
          refine St_skip ?_
          refine Jm_seq ?_
          refine St_seq ?_
          refine St_block ?_
          refine St_seq ?_
          refine St_region ?_
          refine Ls_run (run_move rfl) rfl ?_
          refine Ls_literal [_] hs Try.underlying22 inf5 rfl rfl rfl rfl rfl rfl ?_
          intro b71 w72 hs
          simp only [List.flatMap_cons, List.flatMap_nil, Value.cells, List.cons_append, List.nil_append] at hs
          replace hs := hs.front 1 rfl
          simp only [List.cons_append, List.nil_append, List.eraseIdx_cons_zero, List.eraseIdx_cons_succ] at hs
          refine Ls_append hs Try.underlying22 inf5 rfl (by decide) (by decide) rfl rfl (rd_block (hs.is_at 1 rfl).2 1 1 rfl) (by simp [Value.oneCell']) (by omega) rfl ?_
          intro A73 c74 w75 hs
          replace hs := hs.erase 1
          simp only [List.cons_append, List.nil_append, List.eraseIdx_cons_zero, List.eraseIdx_cons_succ] at hs
          refine Ls_run (run_assign rfl) rfl ?_
          refine Ls_nil ?_
          refine Jm_seq ?_
          refine St_region ?_
          refine Ls_run (run_move rfl) rfl ?_
          refine Ls_literal [_] hs Try.underlying22 inf5 rfl rfl rfl rfl rfl rfl ?_
          intro b76 w77 hs
          simp only [List.flatMap_cons, List.flatMap_nil, Value.cells, List.cons_append, List.nil_append] at hs
          replace hs := hs.front 2 rfl
          simp only [List.cons_append, List.nil_append, List.eraseIdx_cons_zero, List.eraseIdx_cons_succ] at hs
          refine Ls_append hs Try.underlying22 inf5 rfl (by decide) (by decide) rfl rfl (rd_block (hs.is_at 1 rfl).2 1 1 rfl) (by simp [Value.oneCell']) (by omega) rfl ?_
          intro A78 c79 w80 hs
          replace hs := hs.erase 1
          simp only [List.cons_append, List.nil_append, List.eraseIdx_cons_zero, List.eraseIdx_cons_succ] at hs
          refine Ls_run (run_assign rfl) rfl ?_
          refine Ls_nil ?_
          refine Jm_block_normal (Jm_seq ?_)
          refine St_region ?_
          refine Ls_run (run_move rfl) rfl ?_
          refine Ls_run (run_add rfl rfl (w64 (by omega))) rfl ?_
          refine Ls_run (run_assign rfl) rfl ?_
          refine Ls_nil ?_
          replace hs := hs.front 5 rfl
          simp only [List.cons_append, List.nil_append, List.eraseIdx_cons_zero, List.eraseIdx_cons_succ] at hs
          replace hs := hs.front 5 rfl
          simp only [List.cons_append, List.nil_append, List.eraseIdx_cons_zero, List.eraseIdx_cons_succ] at hs
          replace hs := hs.front 5 rfl
          simp only [List.cons_append, List.nil_append, List.eraseIdx_cons_zero, List.eraseIdx_cons_succ] at hs
          replace hs := hs.front 5 rfl
          simp only [List.cons_append, List.nil_append, List.eraseIdx_cons_zero, List.eraseIdx_cons_succ] at hs
          replace hs := hs.front 4 rfl
          simp only [List.cons_append, List.nil_append, List.eraseIdx_cons_zero, List.eraseIdx_cons_succ] at hs
          replace hs := hs.front 5 rfl
          simp only [List.cons_append, List.nil_append, List.eraseIdx_cons_zero, List.eraseIdx_cons_succ] at hs
          refine Jm_round (i + 1, Value.slice A73 (ma + 1) c74, Value.slice A78 (mc + 1) c79, ma + 1, mc + 1, xa ++ [.int .u8 102], xc ++ [.int .u8 102]) ?_ ?_ ?_
          · rw [hEn66]; exact (subE_cons rfl (subE_cons rfl (subE_cons rfl (subE_cons rfl (subE_cons rfl (subE_cons rfl (subE_cons rfl (subE_cons rfl (subE_cons rfl (subE_cons rfl (subE_cons rfl (subE_cons rfl (subE_cons rfl (subE_cons rfl subE_nil))))))))))))))
          · skip
            rw [hIv67]
            exact ⟨hs, by omega, by omega, by omega⟩
          · skip
            rw [hms68, hms68]
            omega
        · skip
          refine St_exit ?_
          refine Jm_then_exit (Jm_then_exit (Jm_block_same (Jm_seq ?_)))
          refine St_seq ?_
          refine St_seq ?_
          refine St_region ?_
          refine Ls_run (run_move rfl) rfl ?_
          refine Ls_run (run_string Try.underlying22 Try.underlying5 Try.underlying9 rfl (hs.rd_at 2 rfl)) rfl ?_
          refine Ls_run (run_move rfl) rfl ?_
          refine Ls_run (run_asB (c := false) (run_neq_str rfl rfl) (by simp)) rfl ?_
          refine Ls_run (run_move rfl) rfl ?_
          refine Ls_on rfl rfl ?_
          refine Ls_run (run_move rfl) rfl ?_
          refine Ls_on rfl rfl ?_
          refine Ls_run (run_string Try.underlying22 Try.underlying5 Try.underlying9 rfl (hs.rd_at 3 rfl)) rfl ?_
          refine Ls_on rfl rfl ?_
          refine Ls_run (run_move rfl) rfl ?_
          refine Ls_on rfl rfl ?_
          refine Ls_run (run_asB (c := false) (run_neq_str rfl rfl) (by simp)) rfl ?_
          refine Ls_run (run_pick_f rfl rfl) rfl ?_
          refine Ls_run (run_move rfl) rfl ?_
          refine Ls_on rfl rfl ?_
          refine Ls_run (run_move rfl) rfl ?_
          refine Ls_on rfl rfl ?_
          refine Ls_run (run_move rfl) rfl ?_
          refine Ls_on rfl rfl ?_
          refine Ls_run (run_asB (c := false) (run_neq rfl rfl) (by simp)) rfl ?_
          refine Ls_run (run_pick_f rfl rfl) rfl ?_
          refine Ls_run (run_move rfl) rfl ?_
          refine Ls_on rfl rfl ?_
          refine Ls_run (run_move rfl) rfl ?_
          refine Ls_on rfl rfl ?_
          refine Ls_run (run_move rfl) rfl ?_
          refine Ls_on rfl rfl ?_
          refine Ls_run (run_slice_h Try.underlying46 inf3 rfl rfl (by omega) (by omega)) rfl ?_
          refine Ls_on rfl rfl ?_
          refine Ls_run (run_move rfl) rfl ?_
          refine Ls_on rfl rfl ?_
          refine Ls_call Try.func43 nm43 rfl rfl (ints_same wr4 _ _ _ r _ _ _ r rfl (rdI_pre (hs.rd_at 4 rfl) n2 hl2 (by omega)) (hr2.inB hs) (by omega)) rfl ?_
          rintro v81 w82 ⟨rfl, hsI⟩
          replace hs := hs.trans hsI
          simp only [List.nil_append, List.cons_append] at hs
          refine Ls_on rfl rfl ?_
          refine Ls_run (run_not rfl) rfl ?_
          refine Ls_run (run_pick_f rfl rfl) rfl ?_
          refine Ls_run (run_move rfl) rfl ?_
          refine Ls_on rfl rfl ?_
          refine Ls_run (run_move rfl) rfl ?_
          refine Ls_on rfl rfl ?_
          refine Ls_run (run_move rfl) rfl ?_
          refine Ls_on rfl rfl ?_
          refine Ls_run (run_move rfl) rfl ?_
          refine Ls_on rfl rfl ?_
          refine Ls_run (run_add rfl rfl (w64 (by omega))) rfl ?_
          refine Ls_on rfl rfl ?_
          refine Ls_run (run_slice_lh Try.underlying46 inf3 rfl rfl rfl (by omega) (by omega) (by omega)) rfl ?_
          refine Ls_on rfl rfl ?_
          refine Ls_literal [_, _, _, _] hs Try.underlying46 inf3 rfl rfl rfl rfl rfl rfl ?_
          intro b83 w84 hs
          simp only [List.flatMap_cons, List.flatMap_nil, Value.cells, List.cons_append, List.nil_append] at hs
          refine Ls_on rfl rfl ?_
          have h14 := rdI_suf (hs.rd_at 5 rfl) n2 hl2 (by omega)
          refine Ls_call Try.func43 nm43 rfl rfl (ints_same w84 _ _ _ [1, 2, 3, 4] _ _ _ [1, 2, 3, 4] rfl h14 (rd_block (hs.is_at 0 rfl).2 1 4 rfl) (by omega)) rfl ?_
          rintro v85 w86 ⟨rfl, hsI⟩
          replace hs := hs.trans hsI
          simp only [List.nil_append, List.cons_append] at hs
          refine Ls_on rfl rfl ?_
          refine Ls_run (run_not rfl) rfl ?_
          refine Ls_run (run_pick_f rfl rfl) rfl ?_
          refine Ls_nil ?_
          refine Jm_seq ?_
          refine St_iff rfl ?_
          refine St_skip ?_
          refine Jm_seq ?_
          refine St_seq ?_
          refine St_seq ?_
          refine St_region ?_
          refine Ls_run (run_assign rfl) rfl ?_
          refine Ls_nil ?_
          refine Jm_seq ?_
          refine St_block ?_
          replace hs := hs.erase 0
          simp only [List.cons_append, List.nil_append, List.eraseIdx_cons_zero, List.eraseIdx_cons_succ] at hs
          replace hs := hs.erase 0
          simp only [List.cons_append, List.nil_append, List.eraseIdx_cons_zero, List.eraseIdx_cons_succ] at hs
          replace hs := hs.erase 0
          simp only [List.cons_append, List.nil_append, List.eraseIdx_cons_zero, List.eraseIdx_cons_succ] at hs
          replace hs := hs.erase 0
          simp only [List.cons_append, List.nil_append, List.eraseIdx_cons_zero, List.eraseIdx_cons_succ] at hs
          replace hs := hs.erase 0
          simp only [List.cons_append, List.nil_append, List.eraseIdx_cons_zero, List.eraseIdx_cons_succ] at hs
          replace hs := hs.erase 0
          simp only [List.cons_append, List.nil_append, List.eraseIdx_cons_zero, List.eraseIdx_cons_succ] at hs
          obtain ⟨En88, hEn88⟩ : ∃ F : Nat → Env, ∀ (i : Nat), F i = [(0, .slice A n c), (1, .slice A2 n2 c2), (5, .slice Am n cm), (21, .int .i64 (i : Int))] := ⟨(fun (i : Nat) => [(0, .slice A n c), (1, .slice A2 n2 c2), (5, .slice Am n cm), (21, .int .i64 (i : Int))]), fun _ => rfl⟩
          obtain ⟨Iv89, hIv89⟩ : ∃ F : Nat → World → Prop, ∀ (i : Nat) (wr5 : World), F i wr5 = (Sat w wr5 [Keep (fun w => Rd w Am n cm 1 (El.val.flat ms) ∧ Tails w ms ls)] ∧ i ≤ n) := ⟨(fun (i : Nat) => fun (wr5 : World) => Sat w wr5 [Keep (fun w => Rd w Am n cm 1 (El.val.flat ms) ∧ Tails w ms ls)] ∧ i ≤ n), fun _ _ => rfl⟩
          obtain ⟨ms90, hms90⟩ : ∃ F : Nat → Nat, ∀ (i : Nat), F i = (n - i) := ⟨(fun (i : Nat) => n - i), fun _ => rfl⟩
          refine St_loop En88 Iv89 ms90 (0) ?_ ?_ ?_
          · skip
            rw [hIv89]
            exact ⟨hs, by omega⟩
          · rw [hEn88]; exact (subE_cons rfl (subE_cons rfl (subE_cons rfl (subE_cons rfl subE_nil))))
          rintro i wr5 hI91
          rw [hIv89] at hI91
          obtain ⟨hs, hi⟩ := hI91
          refine St_eqE (hEn88 _) ?_
          refine St_seq ?_
          refine St_seq ?_
          refine St_region ?_
          refine Ls_run (run_move rfl) rfl ?_
          refine Ls_run (run_move rfl) rfl ?_
          refine Ls_run (run_len Try.underlying58 rfl) rfl ?_
          refine Ls_run (run_lss rfl rfl) rfl ?_
          refine Ls_nil ?_
          refine Jm_seq ?_
          refine St_ifP rfl (fun h92 => ?_) (fun h92 => ?_)
          · skip
            refine St_skip ?_
            refine Jm_seq ?_
            refine St_seq ?_
            refine St_block ?_
            refine St_seq ?_
            refine St_region ?_
            refine Ls_run (run_move rfl) rfl ?_
            refine Ls_run (run_move rfl) rfl ?_
            obtain ⟨Ai, ni, ci, hvi, hri⟩ := hp.2 i (by have := hp.1; omega)
            have hli := rdB_len hri
            have hmi := getD_mem_ls (ls := ls) (i := i) (by omega)
            have hsi := sum_mem hmi
            have hlt : i < ls.length := by omega
            obtain ⟨At, ct, hvt, hrt⟩ := (hs.kept 0 rfl).2.2 i hlt
            rw [hli] at hvt hrt
            have hcapt := hrt.cap
            refine Ls_index (El.val) (hr.inB hs) Try.underlying58 inf22 rfl rfl (by omega) (by omega) hvi rfl ?_
            intro b93 o94 hc95
            refine Ls_run (run_load sc22 rfl (hc95 0 _ rfl)) rfl ?_
            refine Ls_run (run_len Try.underlying22 rfl) rfl ?_
            refine Ls_run (run_assign rfl) rfl ?_
            refine Ls_nil ?_
            refine Jm_seq ?_
            refine St_seq ?_
            refine St_region ?_
            refine Ls_run (run_move rfl) rfl ?_
            refine Ls_run (run_move rfl) rfl ?_
            refine Ls_index (El.val) ((hs.kept 0 rfl).1) Try.underlying58 inf22 rfl rfl (by omega) (by omega) hvt rfl ?_
            intro b96 o97 hc98
            refine Ls_run (run_load sc22 rfl (hc98 0 _ rfl)) rfl ?_
            refine Ls_run (run_move rfl) rfl ?_
            refine Ls_run (run_add rfl rfl (w64 (by omega))) rfl ?_
            refine Ls_run (run_slice_h Try.underlying22 inf5 rfl rfl (by omega) (by omega)) rfl ?_
            refine Ls_run (run_assign rfl) rfl ?_
            refine Ls_nil ?_
            refine Jm_seq ?_
            refine St_seq ?_
            refine St_seq ?_
            refine St_draw (fun x => Below wr5.heap.size wr5 x) mixed ?_
            intro w99 q100
            have hH := q100.below
            replace hs := hs.quiet q100
            refine An_grow hH ?_
            replace hH := Below.refl w99.heap.size w99
            refine An_take 0 rfl (by kernel_rfl) (by kernel_rfl) (by kernel_rfl) (fun _ _ _ h => h) hH (fun x hx => run_move rfl) rfl ?_
            refine An_take 1 rfl (by kernel_rfl) (by kernel_rfl) (by kernel_rfl) (fun _ _ _ h => h) hH (fun x hx => run_move rfl) rfl ?_
            refine An_take 2 rfl (by kernel_rfl) (by kernel_rfl) (by kernel_rfl) (fun _ _ _ h => h) hH (fun x hx => run_slice_h Try.underlying22 inf5 rfl rfl (by omega) (by omega)) rfl ?_
            refine An_take 3 rfl (by kernel_rfl) (by kernel_rfl) (by kernel_rfl) (fun _ _ _ h => h) hH (fun x hx => run_string Try.underlying22 Try.underlying5 Try.underlying9 rfl ((rdB_pre (Tails.rd (hs.kept 0 rfl).2 hlt hli hvt) ni hli (by omega)).grow hx)) rfl ?_
            refine An_take 4 rfl (by kernel_rfl) (by kernel_rfl) (by kernel_rfl) (fun _ _ _ h => h) hH (fun x hx => run_move rfl) rfl ?_
            refine An_take 5 rfl (by kernel_rfl) (by kernel_rfl) (by kernel_rfl) (fun _ _ _ h => h) hH (fun x hx => run_move rfl) rfl ?_
            refine An_index 6  (El.val) rfl (by kernel_rfl) (by kernel_rfl) (by kernel_rfl) (fun _ _ _ _ h => h) hH (fun x hx => ((hr.inB hs).grow hx)) Try.underlying58 inf22 rfl rfl (by omega) (by omega) hvi rfl ?_
            intro b101 o102 hc103
            refine An_take 7 rfl (by kernel_rfl) (by kernel_rfl) (by kernel_rfl) (fun _ _ _ h => h) hH (fun x hx => run_load sc22 rfl ((hc103 x hx) 0 _ rfl)) rfl ?_
            refine An_take 8 rfl (by kernel_rfl) (by kernel_rfl) (by kernel_rfl) (fun _ _ _ h => h) hH (fun x hx => run_string Try.underlying22 Try.underlying5 Try.underlying9 rfl ((hri.inB hs).grow hx)) rfl ?_
            refine An_take 9 rfl (by kernel_rfl) (by kernel_rfl) (by kernel_rfl) (fun _ _ _ h => h) hH (fun x hx => run_asB (c := false) (run_neq_str rfl rfl) (by simp)) rfl ?_
            refine An_take 10 rfl (by kernel_rfl) (by kernel_rfl) (by kernel_rfl) (fun _ _ _ h => h) hH (fun x hx => run_move rfl) rfl ?_
            refine An_take_on 11 rfl (by kernel_rfl) (by kernel_rfl) (by kernel_rfl) rfl rfl (fun _ _ _ h => h) hH (fun x hx => run_move rfl) rfl ?_
            refine An_take_on 12 rfl (by kernel_rfl) (by kernel_rfl) (by kernel_rfl) rfl rfl (fun _ _ _ h => h) hH (fun x hx => run_move rfl) rfl ?_
            refine An_take_on 13 rfl (by kernel_rfl) (by kernel_rfl) (by kernel_rfl) rfl rfl (fun _ _ _ h => h) hH (fun x hx => run_slice_l Try.underlying22 inf5 rfl rfl (by omega) (by omega)) rfl ?_
            refine An_take_on 14 rfl (by kernel_rfl) (by kernel_rfl) (by kernel_rfl) rfl rfl (fun _ _ _ h => h) hH (fun x hx => run_string Try.underlying22 Try.underlying5 Try.underlying9 rfl ((rdB_suf (Tails.rd (hs.kept 0 rfl).2 hlt hli hvt) ni hli (by omega)).grow hx)) rfl ?_
            refine An_take_on 15 rfl (by kernel_rfl) (by kernel_rfl) (by kernel_rfl) rfl rfl (fun _ _ _ h => h) hH (fun x hx => run_asB (c := false) (run_neq_str rfl rfl) (by show (!((strOfNums T8).toList == (strOfNums T8).toList)) = false; simp)) rfl ?_
            refine An_take 16 rfl (by kernel_rfl) (by kernel_rfl) (by kernel_rfl) (fun _ _ _ h => h) hH (fun x hx => run_pick_f rfl rfl) rfl ?_
            refine An_done (by kernel_rfl) ?_
            refine Jm_seq ?_
            refine St_iff rfl ?_
            refine St_skip ?_
            refine Jm_seq ?_
            refine St_seq ?_
            refine St_region ?_
            refine Ls_run (run_move rfl) rfl ?_
            refine Ls_run (run_move rfl) rfl ?_
            refine Ls_index (El.val) ((hs.kept 0 rfl).1) Try.underlying58 inf22 rfl rfl (by omega) (by omega) hvt rfl ?_
            intro b105 o106 hc107
            refine Ls_run (run_load sc22 rfl (hc107 0 _ rfl)) rfl ?_
            refine Ls_call Try.func39 nm39 rfl rfl (Run_c w99 At ni ct (ls.getD i []) (rdB_pre (Tails.rd (hs.kept 0 rfl).2 hlt hli hvt) ni hli (by omega)) (by omega)) rfl ?_
            rintro v108 w109 ⟨Ar, cr, rfl, hsr⟩
            rw [show pb ni ++ ls.getD i [] = run (ls.getD i []) by rw [run, hli]] at hsr ⊢
            replace hs := hs.trans hsr
            simp only [List.nil_append, List.cons_append] at hs
            refine Ls_run (run_assign rfl) rfl ?_
            refine Ls_nil ?_
            refine Jm_seq ?_
            refine St_seq ?_
            refine St_region ?_
            refine Ls_run (run_move rfl) rfl ?_
            have hrl := WirePure.run_len (ls.getD i [])
            have hpl := pb_len10 (n := (ls.getD i []).length) (by omega)
            have htr := trun_run (ls.getD i []) [] (by omega)
            rw [List.append_nil] at htr
            refine Ls_call Try.func41 nm41 rfl rfl (TakeRun_c w109 _ _ _ (run (ls.getD i [])) (hs.rd_at 0 rfl) (run_bytes (hb _ hmi)) (by omega)) rfl ?_
            rintro v110 w111 ⟨As, cs, rfl, hss⟩
            simp only [htr] at hss ⊢
            replace hs := hs.trans hss
            simp only [List.nil_append, List.cons_append] at hs
            refine Ls_run (run_move rfl) rfl ?_
            refine Ls_run (run_extract rfl rfl) rfl ?_
            refine Ls_run (run_extract rfl rfl) rfl ?_
            refine Ls_run (run_extract rfl rfl) rfl ?_
            refine Ls_run (run_assign rfl) rfl ?_
            refine Ls_run (run_assign rfl) rfl ?_
            refine Ls_run (run_assign rfl) rfl ?_
            refine Ls_nil ?_
            refine Jm_seq ?_
            refine St_seq ?_
            refine St_seq ?_
            refine St_region ?_
            refine Ls_run (run_assign rfl) rfl ?_
            refine Ls_nil ?_
            refine Jm_seq ?_
            refine St_block ?_
            replace hs := hs.front 2 rfl
            simp only [List.cons_append, List.nil_append, List.eraseIdx_cons_zero, List.eraseIdx_cons_succ] at hs
            replace hs := hs.front 1 rfl
            simp only [List.cons_append, List.nil_append, List.eraseIdx_cons_zero, List.eraseIdx_cons_succ] at hs
            replace hs := hs.front 2 rfl
            simp only [List.cons_append, List.nil_append, List.eraseIdx_cons_zero, List.eraseIdx_cons_succ] at hs
            obtain ⟨En112, hEn112⟩ : ∃ F : Nat × List Value → Env, ∀ (j : Nat) (zs : List Value), F (j, zs) = [(0, .slice A n c), (1, .slice A2 n2 c2), (5, .slice Am n cm), (21, .int .i64 (i : Int)), (22, .int .i64 (ni : Int)), (23, .slice At (ni + 8) ct), (24, .slice Ar (run (ls.getD i [])).length cr), (25, .slice As (ls.getD i []).length cs), (26, .int .i64 (((pb (ls.getD i []).length).length + (ls.getD i []).length : Nat) : Int)), (27, .int .i64 0), (28, .int .i64 (j : Int))] := ⟨(fun (s : Nat × List Value) => match s with | (j, zs) => [(0, .slice A n c), (1, .slice A2 n2 c2), (5, .slice Am n cm), (21, .int .i64 (i : Int)), (22, .int .i64 (ni : Int)), (23, .slice At (ni + 8) ct), (24, .slice Ar (run (ls.getD i [])).length cr), (25, .slice As (ls.getD i []).length cs), (26, .int .i64 (((pb (ls.getD i []).length).length + (ls.getD i []).length : Nat) : Int)), (27, .int .i64 0), (28, .int .i64 (j : Int))]), fun _ _ => rfl⟩
            obtain ⟨Iv113, hIv113⟩ : ∃ F : Nat × List Value → World → Prop, ∀ (j : Nat) (zs : List Value) (wr6 : World), F (j, zs) wr6 = (Sat w wr6 [Own 5 1 (.slice Ar (run (ls.getD i [])).length cr) (run (ls.getD i [])).length zs, Own 5 1 (.slice As (ls.getD i []).length cs) (ls.getD i []).length (bytesV (ls.getD i [])), Keep (fun w => Rd w Am n cm 1 (El.val.flat ms) ∧ Tails w ms ls)] ∧ j ≤ (run (ls.getD i [])).length) := ⟨(fun (s : Nat × List Value) => match s with | (j, zs) => fun (wr6 : World) => Sat w wr6 [Own 5 1 (.slice Ar (run (ls.getD i [])).length cr) (run (ls.getD i [])).length zs, Own 5 1 (.slice As (ls.getD i []).length cs) (ls.getD i []).length (bytesV (ls.getD i [])), Keep (fun w => Rd w Am n cm 1 (El.val.flat ms) ∧ Tails w ms ls)] ∧ j ≤ (run (ls.getD i [])).length), fun _ _ _ => rfl⟩
            obtain ⟨ms114, hms114⟩ : ∃ F : Nat × List Value → Nat, ∀ (j : Nat) (zs : List Value), F (j, zs) = ((run (ls.getD i [])).length - j) := ⟨(fun (s : Nat × List Value) => match s with | (j, zs) => (run (ls.getD i [])).length - j), fun _ _ => rfl⟩
            refine St_loop En112 Iv113 ms114 (0, bytesV (run (ls.getD i []))) ?_ ?_ ?_
            · skip
              rw [hIv113]
              exact ⟨hs, by omega⟩
            · rw [hEn112]; exact (subE_cons rfl (subE_cons rfl (subE_cons rfl (subE_cons rfl (subE_cons rfl (subE_cons rfl (subE_cons rfl (subE_cons rfl (subE_cons rfl (subE_cons rfl (subE_cons rfl subE_nil)))))))))))
            rintro ⟨j, zs⟩ wr6 hI115
            rw [hIv113] at hI115
            obtain ⟨hs, hj⟩ := hI115
            refine St_eqE (hEn112 _ _) ?_
            refine St_seq ?_
            refine St_seq ?_
            refine St_region ?_
            refine Ls_run (run_move rfl) rfl ?_
            refine Ls_run (run_move rfl) rfl ?_
            refine Ls_run (run_len Try.underlying22 rfl) rfl ?_
            refine Ls_run (run_lss rfl rfl) rfl ?_
            refine Ls_nil ?_
            refine Jm_seq ?_
            refine St_ifP rfl (fun h116 => ?_) (fun h116 => ?_)
            · skip
              refine St_skip ?_
              refine Jm_seq ?_
              refine St_seq ?_
              refine St_block ?_
              refine St_region ?_
              refine Ls_run (run_move rfl) rfl ?_
              refine Ls_run (run_move rfl) rfl ?_
              obtain ⟨gr, rfl⟩ := (hs.front 0 rfl).own_addr (by omega)
              refine Ls_run (run_index Try.underlying22 inf5 rfl rfl rfl (by omega) (by omega)) rfl ?_
              refine Ls_storeOwn hs inf5 rfl rfl rfl (by omega) ?_
              intro w117 hs
              refine Ls_nil ?_
              refine Jm_block_normal (Jm_seq ?_)
              refine St_region ?_
              refine Ls_run (run_move rfl) rfl ?_
              refine Ls_run (run_add rfl rfl (w64 (by omega))) rfl ?_
              refine Ls_run (run_assign rfl) rfl ?_
              refine Ls_nil ?_
              refine Jm_round (j + 1, zs.set (0 + (j : Int).toNat * 1) (.int .u8 119)) ?_ ?_ ?_
              · rw [hEn112]; exact (subE_cons rfl (subE_cons rfl (subE_cons rfl (subE_cons rfl (subE_cons rfl (subE_cons rfl (subE_cons rfl (subE_cons rfl (subE_cons rfl (subE_cons rfl (subE_cons rfl subE_nil)))))))))))
              · skip
                rw [hIv113]
                exact ⟨hs, by omega⟩
              · skip
                rw [hms114, hms114]
                omega
            · skip
              refine St_exit ?_
              refine Jm_then_exit (Jm_then_exit (Jm_block_same (Jm_seq ?_)))
              refine St_seq ?_
              refine St_draw (fun x => Below wr6.heap.size wr6 x) mixed ?_
              intro w118 q119
              have hH := q119.below
              replace hs := hs.quiet q119
              refine An_grow hH ?_
              replace hH := Below.refl w118.heap.size w118
              refine An_take 0 rfl (by kernel_rfl) (by kernel_rfl) (by kernel_rfl) (fun _ _ _ h => h) hH (fun x hx => run_move rfl) rfl ?_
              refine An_take 1 rfl (by kernel_rfl) (by kernel_rfl) (by kernel_rfl) (fun _ _ _ h => h) hH (fun x hx => run_asB (c := false) (run_neq rfl rfl) (by simp)) rfl ?_
              refine An_take 2 rfl (by kernel_rfl) (by kernel_rfl) (by kernel_rfl) (fun _ _ _ h => h) hH (fun x hx => run_move rfl) rfl ?_
              refine An_take_on 3 rfl (by kernel_rfl) (by kernel_rfl) (by kernel_rfl) rfl rfl (fun _ _ _ h => h) hH (fun x hx => run_move rfl) rfl ?_
              refine An_take_on 4 rfl (by kernel_rfl) (by kernel_rfl) (by kernel_rfl) rfl rfl (fun _ _ _ h => h) hH (fun x hx => run_move rfl) rfl ?_
              refine An_take_on 5 rfl (by kernel_rfl) (by kernel_rfl) (by kernel_rfl) rfl rfl (fun _ _ _ h => h) hH (fun x hx => run_len Try.underlying22 rfl) rfl ?_
              refine An_take_on 6 rfl (by kernel_rfl) (by kernel_rfl) (by kernel_rfl) rfl rfl (fun _ _ _ h => h) hH (fun x hx => run_asB (c := false) (run_neq rfl rfl) (decide_eq_false (by omega))) rfl ?_
              refine An_take 7 rfl (by kernel_rfl) (by kernel_rfl) (by kernel_rfl) (fun _ _ _ h => h) hH (fun x hx => run_pick_f rfl rfl) rfl ?_
              refine An_take 8 rfl (by kernel_rfl) (by kernel_rfl) (by kernel_rfl) (fun _ _ _ h => h) hH (fun x hx => run_move rfl) rfl ?_
              refine An_take_on 9 rfl (by kernel_rfl) (by kernel_rfl) (by kernel_rfl) rfl rfl (fun _ _ _ h => h) hH (fun x hx => run_move rfl) rfl ?_
              refine An_take_on 10 rfl (by kernel_rfl) (by kernel_rfl) (by kernel_rfl) rfl rfl (fun _ _ _ h => h) hH (fun x hx => run_string Try.underlying22 Try.underlying5 Try.underlying9 rfl ((hs.rd_at 1 rfl).grow hx)) rfl ?_
              refine An_take_on 11 rfl (by kernel_rfl) (by kernel_rfl) (by kernel_rfl) rfl rfl (fun _ _ _ h => h) hH (fun x hx => run_move rfl) rfl ?_
              refine An_take_on 12 rfl (by kernel_rfl) (by kernel_rfl) (by kernel_rfl) rfl rfl (fun _ _ _ h => h) hH (fun x hx => run_move rfl) rfl ?_
              refine An_index_on 13  (El.val) rfl (by kernel_rfl) (by kernel_rfl) (by kernel_rfl) rfl rfl (fun _ _ _ _ h => h) hH (fun x hx => ((hr.inB hs).grow hx)) Try.underlying58 inf22 rfl rfl (by omega) (by omega) hvi rfl ?_
              intro b120 o121 hc122
              refine An_take_on 14 rfl (by kernel_rfl) (by kernel_rfl) (by kernel_rfl) rfl rfl (fun _ _ _ h => h) hH (fun x hx => run_load sc22 rfl ((hc122 x hx) 0 _ rfl)) rfl ?_
              refine An_take_on 15 rfl (by kernel_rfl) (by kernel_rfl) (by kernel_rfl) rfl rfl (fun _ _ _ h => h) hH (fun x hx => run_string Try.underlying22 Try.underlying5 Try.underlying9 rfl ((hri.inB hs).grow hx)) rfl ?_
              refine An_take_on 16 rfl (by kernel_rfl) (by kernel_rfl) (by kernel_rfl) rfl rfl (fun _ _ _ h => h) hH (fun x hx => run_asB (c := false) (run_neq_str rfl rfl) (by simp)) rfl ?_
              refine An_take 17 rfl (by kernel_rfl) (by kernel_rfl) (by kernel_rfl) (fun _ _ _ h => h) hH (fun x hx => run_pick_f rfl rfl) rfl ?_
              refine An_take 18 rfl (by kernel_rfl) (by kernel_rfl) (by kernel_rfl) (fun _ _ _ h => h) hH (fun x hx => run_move rfl) rfl ?_
              refine An_take_on 19 rfl (by kernel_rfl) (by kernel_rfl) (by kernel_rfl) rfl rfl (fun _ _ _ h => h) hH (fun x hx => run_move rfl) rfl ?_
              refine An_take_on 20 rfl (by kernel_rfl) (by kernel_rfl) (by kernel_rfl) rfl rfl (fun _ _ _ h => h) hH (fun x hx => run_move rfl) rfl ?_
              refine An_index_on 21  (El.val) rfl (by kernel_rfl) (by kernel_rfl) (by kernel_rfl) rfl rfl (fun _ _ _ _ h => h) hH (fun x hx => (((hs.kept 2 rfl).1).grow hx)) Try.underlying58 inf22 rfl rfl (by omega) (by omega) hvt rfl ?_
              intro b123 o124 hc125
              refine An_take_on 22 rfl (by kernel_rfl) (by kernel_rfl) (by kernel_rfl) rfl rfl (fun _ _ _ h => h) hH (fun x hx => run_load sc22 rfl ((hc125 x hx) 0 _ rfl)) rfl ?_
              refine An_take_on 23 rfl (by kernel_rfl) (by kernel_rfl) (by kernel_rfl) rfl rfl (fun _ _ _ h => h) hH (fun x hx => run_move rfl) rfl ?_
              refine An_take_on 24 rfl (by kernel_rfl) (by kernel_rfl) (by kernel_rfl) rfl rfl (fun _ _ _ h => h) hH (fun x hx => run_add rfl rfl (w64 (by omega))) rfl ?_
              refine An_take_on 25 rfl (by kernel_rfl) (by kernel_rfl) (by kernel_rfl) rfl rfl (fun _ _ _ h => h) hH (fun x hx => run_slice_h Try.underlying22 inf5 rfl rfl (by omega) (by omega)) rfl ?_
              refine An_take_on 26 rfl (by kernel_rfl) (by kernel_rfl) (by kernel_rfl) rfl rfl (fun _ _ _ h => h) hH (fun x hx => run_string Try.underlying22 Try.underlying5 Try.underlying9 rfl ((id (Tails.rd (hs.kept 2 rfl).2 hlt hli hvt)).grow hx)) rfl ?_
              refine An_take_on 27 rfl (by kernel_rfl) (by kernel_rfl) (by kernel_rfl) rfl rfl (fun _ _ _ h => h) hH (fun x hx => run_move rfl) rfl ?_
              refine An_take_on 28 rfl (by kernel_rfl) (by kernel_rfl) (by kernel_rfl) rfl rfl (fun _ _ _ h => h) hH (fun x hx => run_string Try.underlying22 Try.underlying5 Try.underlying9 rfl ((id (Tails.rd (hs.kept 2 rfl).2 hlt hli hvt)).grow hx)) rfl ?_
              refine An_take_on 29 rfl (by kernel_rfl) (by kernel_rfl) (by kernel_rfl) rfl rfl (fun _ _ _ h => h) hH (fun x hx => run_asB (c := false) (run_neq_str rfl rfl) (by simp)) rfl ?_
              refine An_take 30 rfl (by kernel_rfl) (by kernel_rfl) (by kernel_rfl) (fun _ _ _ h => h) hH (fun x hx => run_pick_f rfl rfl) rfl ?_
              refine An_done (by kernel_rfl) ?_
              refine Jm_seq ?_
              refine St_iff rfl ?_
              refine St_skip ?_
              refine Jm_block_normal (Jm_seq ?_)
              refine St_region ?_
              refine Ls_run (run_move rfl) rfl ?_
              refine Ls_run (run_add rfl rfl (w64 (by omega))) rfl ?_
              refine Ls_run (run_assign rfl) rfl ?_
              refine Ls_nil ?_
              replace hs := hs.erase 0
              simp only [List.cons_append, List.nil_append, List.eraseIdx_cons_zero, List.eraseIdx_cons_succ] at hs
              replace hs := hs.erase 0
              simp only [List.cons_append, List.nil_append, List.eraseIdx_cons_zero, List.eraseIdx_cons_succ] at hs
              refine Jm_round (i + 1) ?_ ?_ ?_
              · rw [hEn88]; exact (subE_cons rfl (subE_cons rfl (subE_cons rfl (subE_cons rfl subE_nil))))
              · skip
                rw [hIv89]
                exact ⟨hs, by omega⟩
              · skip
                rw [hms90, hms90]
                omega
          · skip
            refine St_exit ?_
            refine Jm_then_exit (Jm_then_exit (Jm_block_same (Jm_seq ?_)))
            refine St_seq ?_
            refine St_region ?_
            refine Ls_run (run_assign rfl) rfl ?_
            refine Ls_nil ?_
            refine Jm_seq ?_
            refine St_ret ?_
            refine Jm_ret1 rfl rfl ?_
            exact ⟨_, rfl, rfl, hs.below⟩
end Go.Proofs.Ytnmeaokfcalbbaa.Lg
