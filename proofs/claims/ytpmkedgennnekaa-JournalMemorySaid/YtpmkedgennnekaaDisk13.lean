/-
  The law DiskMemory, walked. By program (gen/disk13.py).
-/
import Derived.Test.YtpmkedgennnekaaDisk12
set_option linter.unusedVariables false
set_option linter.unusedSimpArgs false
namespace Go.Proofs.Ytpmkedgennnekaa.Lg
open Go Go.RowKit
theorem dB_pre {w : World} {A : Option Addr} {m c : Nat} {l1 l2 : List Int} (h : Rd w A m c 1 (bytesV (l1 ++ l2))) (n : Nat) (hn : l1.length = n) (hm : n ≤ m) : Rd w A n c 1 (bytesV l1) := by
  have := rdB_take h n hm
  rwa [List.take_left' hn] at this
theorem dB_suf {w : World} {A : Option Addr} {m c : Nat} {l1 l2 : List Int} (h : Rd w A m c 1 (bytesV (l1 ++ l2))) (n : Nat) (hn : l1.length = n) (hm : n ≤ m) : Rd w (if c = n then A else A.map (·.add (n * 1))) (m - n) (c - n) 1 (bytesV l2) := by
  have := rdB_drop h n hm
  rwa [List.drop_left' hn] at this
/-- Cells that are all bytes. -/
def AllU8 (xs : List Value) : Prop := ∀ v ∈ xs, ∃ x, v = .int .u8 x
theorem AllU8.at {xs : List Value} (h : AllU8 xs) {i : Nat} (hi : i < xs.length) : ∃ x, xs.getD i nilV = .int .u8 x := h _ (by rw [List.getD_eq_getElem?_getD, List.getElem?_eq_getElem hi]; exact List.getElem_mem _)
theorem AllU8.bytes (l : List Int) : AllU8 (bytesV l) := fun v hv => by
  obtain ⟨x, _, rfl⟩ := List.mem_map.1 hv
  exact ⟨x, rfl⟩
theorem AllU8.put {xs : List Value} (h : AllU8 xs) (i : Nat) (x : Int) : AllU8 (xs.set i (.int .u8 x)) := fun v hv => by
  rcases List.mem_or_eq_of_mem_set hv with h1 | rfl
  · exact h v h1
  · exact ⟨x, rfl⟩
theorem AllU8.app {xs : List Value} (h : AllU8 xs) (x : Int) : AllU8 (xs ++ [.int .u8 x]) := fun v hv => by
  rcases List.mem_append.1 hv with h1 | h1
  · exact h v h1
  · simp at h1; exact ⟨x, h1⟩
theorem rowsA_val (T : TypeId) : ∀ (vs : List Value) (xs : List (List Int)), rowsA T (El.int .u8) vs xs = rowsA T El.val vs (xs.map bytesV)
  | [], _ => by simp [rowsA]
  | _ :: _, [] => by simp [rowsA]
  | v :: vs, x :: xs => by
    have e : ((El.int .u8).flat x).length = x.length := by rw [El.flat_length]; exact Nat.mul_one _
    simp only [rowsA, List.map_cons, rowsA_val T vs xs, El.val_flat, bytesV_flat, e]
    rfl
theorem Sat.row_put {B w : World} {pre : List Assn} {T : TypeId} {vs : List Value} {xss : List (List Value)} {k p n c : Nat} {A : Option Addr} {x : Value} (hs : Sat B w (Own T 1 (.slice A n c) n ((El.val.flat (xss.getD k [])).set p x) :: (pre ++ (rowsA T El.val vs xss).eraseIdx k))) (hv : vs.getD k nilV = .slice A n c) (hn : (xss.getD k []).length = n) (hl : vs.length = xss.length) (hk : k < vs.length) :
    Sat B w (pre ++ rowsA T El.val vs (xss.set k ((xss.getD k []).set p x))) := by
  have h := Sat.row_in (K := El.val) k ((xss.getD k []).set p x) hs (by rw [List.length_set]; exact hn.symm) (by simp only [El.val_flat]) hl hk
  rwa [← hv, set_getD_same hk] at h
theorem two_vals {vs : List Value} (h : vs.length = 2) : ∃ a b, vs = [a, b] := by
  match vs, h with
  | [a, b], _ => exact ⟨a, b, rfl⟩
set_option maxRecDepth 100000 in
set_option maxHeartbeats 1000000 in
theorem DiskMemory_c (w : World) (A : Option Addr) (n c : Nat) (dl : List Int) (A2 : Option Addr) (n2 c2 : Nat) (vs : List Value) (bl : List (List Int)) (hr : Rd w A n c 1 (bytesV dl)) (hbs : IsBytes dl) (hr2 : Rd w A2 n2 c2 1 (El.val.flat vs)) (hp : PartsK (El.int .u8) w vs bl) (hba : ∀ r ∈ bl, IsBytes r) (hbz : ∀ r ∈ bl, r.length ≤ 140737488351232) (hn : n ≤ 140737488351232) (hn2 : n2 * 24 ≤ 140737488351232) :
    Calls Try.prog 5 [.slice A n c, .slice A2 n2 c2].toArray w (Ret (fun v' w' => v' = .bool true ∧ Below w.heap.size w w')) := by
  have hs := Sat.start w
  have hcap := hr.cap
  obtain ⟨m, hm0⟩ : ∃ q, q = min n 1024 := ⟨_, rfl⟩
  have hmn : m ≤ n := by omega
  have hm1 : m ≤ 1024 := by omega
  obtain ⟨l, hl0⟩ : ∃ q, q = dl.take m := ⟨_, rfl⟩
  have hrl : Rd w A m c 1 (bytesV l) := by rw [hl0]; exact rdB_take hr m hmn
  have hlm : l.length = m := rdB_len hrl
  have hlb : IsBytes l := by rw [hl0]; exact fun q hq => hbs q (List.mem_of_mem_take hq)
  have hvl : vs.length = n2 := by have := hr2.len; rw [El.flat_length] at this; simpa [El.val] using this
  have hbl : bl.length = n2 := by have := hp.1; omega
  refine Calls_body Try.func5 rfl rfl rfl (envE_cons (i := 0) (v := .slice A n c) rfl (envE_cons (i := 1) (v := .slice A2 n2 c2) rfl envE_nil)) ?_
  refine St_seq ?_
  refine St_region ?_
  refine Ls_run (run_assign rfl) rfl ?_
  refine Ls_nil ?_
  refine Jm_seq ?_
  refine St_seq ?_
  refine St_seq ?_
  refine St_region ?_
  refine Ls_call Try.func12 nm12 rfl rfl (dawake_c w) rfl ?_
  rintro v1 w2 ⟨rfl, hsA3⟩
  replace hs := hs.trans hsA3
  simp only [List.nil_append] at hs
  refine Ls_run (run_not rfl) rfl ?_
  refine Ls_nil ?_
  refine Jm_seq ?_
  refine St_iff rfl ?_
  refine St_skip ?_
  refine Jm_seq ?_
  refine St_seq ?_
  refine St_region ?_
  refine Ls_run (run_move rfl) rfl ?_
  refine Ls_call Try.func15 nm15 rfl rfl (laid_c w2 A n c hcap) rfl ?_
  rintro v5 w6 ⟨rfl, rfl⟩
  rw [← hm0]
  refine Ls_run (run_assign rfl) rfl ?_
  refine Ls_nil ?_
  refine Jm_seq ?_
  refine St_seq ?_
  refine St_region ?_
  refine Ls_run (run_move rfl) rfl ?_
  refine Ls_run (run_len Try.underlying31 rfl) rfl ?_
  refine Ls_run (run_assign rfl) rfl ?_
  refine Ls_nil ?_
  refine Jm_seq ?_
  refine St_seq ?_
  refine St_region ?_
  refine Ls_run (run_move rfl) rfl ?_
  refine Ls_run (run_as (run_add rfl rfl (w64 (by omega))) (show _ = Value.int .i64 ((m + 4 : Nat) : Int) from rfl)) rfl ?_
  refine Ls_make0 (m := (m + 4)) hs Try.underlying31 inf5 (by decide) rfl rfl (by omega) (by omega) rfl ?_
  intro b7 w9 hs
  refine Ls_run (run_assign rfl) rfl ?_
  refine Ls_nil ?_
  refine Jm_seq ?_
  refine St_seq ?_
  refine St_region ?_
  refine Ls_run (run_move rfl) rfl ?_
  refine Ls_run (run_move rfl) rfl ?_
  refine Ls_append hs Try.underlying31 inf5 rfl (by decide) (by decide) rfl rfl (hrl.inB hs) (bytesV_one' _) (by omega) rfl ?_
  intro A10 c11 w12 hs
  refine Ls_run (run_assign rfl) rfl ?_
  refine Ls_nil ?_
  refine Jm_seq ?_
  refine St_seq ?_
  refine St_region ?_
  refine Ls_run (run_move rfl) rfl ?_
  refine Ls_literal [_, _, _, _] hs Try.underlying31 inf5 rfl rfl rfl rfl rfl rfl ?_
  intro b13 w14 hs
  simp only [List.flatMap_cons, List.flatMap_nil, Value.cells, List.cons_append, List.nil_append] at hs
  replace hs := hs.front 1 rfl
  simp only [List.cons_append, List.nil_append, List.eraseIdx_cons_zero, List.eraseIdx_cons_succ] at hs
  refine Ls_append hs Try.underlying31 inf5 rfl (by decide) (by decide) rfl rfl (rd_block (hs.is_at 1 rfl).2 1 4 rfl) (by simp [Value.oneCell']) (by omega) rfl ?_
  intro A15 c16 w17 hs
  replace hs := hs.erase 1
  simp only [List.cons_append, List.nil_append, List.eraseIdx_cons_zero, List.eraseIdx_cons_succ] at hs
  refine Ls_run (run_assign rfl) rfl ?_
  refine Ls_nil ?_
  refine Jm_seq ?_
  refine St_seq ?_
  simp only [Nat.zero_add, List.nil_append] at hs ⊢
  rw [show bytesV l ++ [Value.int .u8 1, Value.int .u8 2, Value.int .u8 3, Value.int .u8 4] = bytesV (l ++ [1, 2, 3, 4]) from by simp [bytesV]] at hs
  obtain ⟨Am, hAm⟩ : ∃ q, q = A15 := ⟨_, rfl⟩
  obtain ⟨cm, hcm⟩ : ∃ q, q = c16 := ⟨_, rfl⟩
  rw [← hAm, ← hcm] at hs ⊢
  have hcapm := (hs.rd_at 0 rfl).cap
  refine St_region ?_
  refine Ls_call Try.func13 nm13 rfl rfl (New_c w17 2 (by decide) (by decide)) rfl ?_
  rintro v18 w19 ⟨b0, rfl, hsD⟩
  replace hs := hs.trans hsD
  simp only [List.cons_append, List.nil_append] at hs
  refine Ls_run (run_move rfl) rfl ?_
  refine Ls_run (run_extract rfl rfl) rfl ?_
  refine Ls_run (run_extract rfl rfl) rfl ?_
  refine Ls_run (run_assign rfl) rfl ?_
  refine Ls_run (run_assign rfl) rfl ?_
  refine Ls_nil ?_
  refine Jm_seq ?_
  refine St_seq ?_
  refine St_seq ?_
  replace hs := hs.front 1 rfl
  simp only [List.cons_append, List.nil_append, List.eraseIdx_cons_zero, List.eraseIdx_cons_succ] at hs
  refine St_hold (Hold.of (Ls := [_]) hs) mixed ?_
  intro w20 q21
  replace hs := hs.quiet q21
  have hH := Hold.of (Ls := [_]) hs
  refine An_take 0 rfl (by kernel_rfl) (by kernel_rfl) (by kernel_rfl) (fun _ _ _ h => h) hH (fun x hx => run_move rfl) rfl ?_
  refine An_take 1 rfl (by kernel_rfl) (by kernel_rfl) (by kernel_rfl) (fun _ _ _ h => h) hH (fun x hx => run_asB (c := false) (run_neq rfl rfl) (by decide)) rfl ?_
  refine An_take 2 rfl (by kernel_rfl) (by kernel_rfl) (by kernel_rfl) (fun _ _ _ h => h) hH (fun x hx => run_move rfl) rfl ?_
  refine An_take_on 3 rfl (by kernel_rfl) (by kernel_rfl) (by kernel_rfl) rfl rfl (fun _ _ _ h => h) hH (fun x hx => run_move rfl) rfl ?_
  refine An_take_on 4 rfl (by kernel_rfl) (by kernel_rfl) (by kernel_rfl) rfl rfl (fun _ _ _ h => h) hH (fun x hx => run_asB (c := false) (run_eql_ptr_nil Try.underlying24 rfl rfl) rfl) rfl ?_
  refine An_take 5 rfl (by kernel_rfl) (by kernel_rfl) (by kernel_rfl) (fun _ _ _ h => h) hH (fun x hx => run_pick_f rfl rfl) rfl ?_
  refine An_take 6 rfl (by kernel_rfl) (by kernel_rfl) (by kernel_rfl) (fun _ _ _ h => h) hH (fun x hx => run_move rfl) rfl ?_
  refine An_take_on 7 rfl (by kernel_rfl) (by kernel_rfl) (by kernel_rfl) rfl rfl (fun _ _ _ h => h) hH (fun x hx => run_move rfl) rfl ?_
  refine An_take_on 8 rfl (by kernel_rfl) (by kernel_rfl) (by kernel_rfl) rfl rfl (fun _ _ _ h => h) hH (fun x hx => run_move rfl) rfl ?_
  refine An_take_on 9 rfl (by kernel_rfl) (by kernel_rfl) (by kernel_rfl) rfl rfl (fun _ _ _ h => h) hH (fun x hx => run_move rfl) rfl ?_
  refine An_take_on 10 rfl (by kernel_rfl) (by kernel_rfl) (by kernel_rfl) rfl rfl (fun _ _ _ h => h) hH (fun x hx => run_slice_h Try.underlying31 inf5 rfl rfl (by omega) (by omega)) rfl ?_
  refine An_only 11 (by kernel_rfl) rfl ?_
  refine Ls_on rfl rfl ?_
  replace hs := hs.front 1 rfl
  simp only [List.cons_append, List.nil_append, List.eraseIdx_cons_zero, List.eraseIdx_cons_succ] at hs
  have hwo := dwrite_ok (s := dnew 2) (k := 1) (l := l) rfl rfl (by decide) (by omega)
  refine Ls_call Try.func17 nm17 rfl rfl (Write_c w w20 _ b0 (dnew 2) hs (fun r hr => by simp [dnew] at hr; subst hr; simp) ((1 : Nat) : Int) Am m cm l (fun w' X q => dB_pre (q.rd_at 1 rfl) m hlm (by omega)) (by omega)) rfl ?_
  rintro v22 w23 ⟨rfl, hs⟩
  rw [hwo.1]
  obtain ⟨s1, hs1⟩ : ∃ q, q = (dwrite (dnew 2) ((1 : Nat) : Int) l).2 := ⟨_, rfl⟩
  rw [← hs1] at hs hwo
  obtain ⟨_, hs1d, ha1, hs1b⟩ := hwo
  replace hs1b : s1.bl = [[], l] := hs1b
  replace hs := hs.front 1 rfl
  simp only [List.cons_append, List.nil_append, List.eraseIdx_cons_zero, List.eraseIdx_cons_succ] at hs
  replace hH := Hold.of (Ls := [_]) hs
  refine Ls_nil (Jm_An hH ?_)
  refine An_take_on 12 rfl (by kernel_rfl) (by kernel_rfl) (by kernel_rfl) rfl rfl (fun _ _ _ h => h) hH (fun x hx => run_asB (c := false) (run_neq rfl rfl) (by decide)) rfl ?_
  refine An_take 13 rfl (by kernel_rfl) (by kernel_rfl) (by kernel_rfl) (fun _ _ _ h => h) hH (fun x hx => run_pick_f rfl rfl) rfl ?_
  refine An_take 14 rfl (by kernel_rfl) (by kernel_rfl) (by kernel_rfl) (fun _ _ _ h => h) hH (fun x hx => run_move rfl) rfl ?_
  refine An_take_on 15 rfl (by kernel_rfl) (by kernel_rfl) (by kernel_rfl) rfl rfl (fun _ _ _ h => h) hH (fun x hx => run_move rfl) rfl ?_
  refine An_take_on 16 rfl (by kernel_rfl) (by kernel_rfl) (by kernel_rfl) rfl rfl (fun _ _ _ h => h) hH (fun x hx => run_move rfl) rfl ?_
  refine An_take_on 17 rfl (by kernel_rfl) (by kernel_rfl) (by kernel_rfl) rfl rfl (fun _ _ _ h => h) hH (fun x hx => run_slice_h Try.underlying31 inf5 rfl rfl (by omega) (by omega)) rfl ?_
  refine An_take_on 18 rfl (by kernel_rfl) (by kernel_rfl) (by kernel_rfl) rfl rfl (fun _ _ _ h => h) hH (fun x hx => run_string Try.underlying31 Try.underlying5 Try.underlying9 rfl (dB_pre (hx.choose_spec.rd_at 0 rfl) m hlm (by omega))) rfl ?_
  refine An_take_on 19 rfl (by kernel_rfl) (by kernel_rfl) (by kernel_rfl) rfl rfl (fun _ _ _ h => h) hH (fun x hx => run_move rfl) rfl ?_
  refine An_take_on 20 rfl (by kernel_rfl) (by kernel_rfl) (by kernel_rfl) rfl rfl (fun _ _ _ h => h) hH (fun x hx => run_string Try.underlying31 Try.underlying5 Try.underlying9 rfl (hrl.inB hx.choose_spec)) rfl ?_
  refine An_take_on 21 rfl (by kernel_rfl) (by kernel_rfl) (by kernel_rfl) rfl rfl (fun _ _ _ h => h) hH (fun x hx => run_asB (c := false) (run_neq_str rfl rfl) (by simp)) rfl ?_
  refine An_take 22 rfl (by kernel_rfl) (by kernel_rfl) (by kernel_rfl) (fun _ _ _ h => h) hH (fun x hx => run_pick_f rfl rfl) rfl ?_
  refine An_take 23 rfl (by kernel_rfl) (by kernel_rfl) (by kernel_rfl) (fun _ _ _ h => h) hH (fun x hx => run_move rfl) rfl ?_
  refine An_take_on 24 rfl (by kernel_rfl) (by kernel_rfl) (by kernel_rfl) rfl rfl (fun _ _ _ h => h) hH (fun x hx => run_move rfl) rfl ?_
  refine An_take_on 25 rfl (by kernel_rfl) (by kernel_rfl) (by kernel_rfl) rfl rfl (fun _ _ _ h => h) hH (fun x hx => run_move rfl) rfl ?_
  refine An_take_on 26 rfl (by kernel_rfl) (by kernel_rfl) (by kernel_rfl) rfl rfl (fun _ _ _ h => h) hH (fun x hx => run_slice_l Try.underlying31 inf5 rfl rfl (by omega) (by omega)) rfl ?_
  refine An_take_on 27 rfl (by kernel_rfl) (by kernel_rfl) (by kernel_rfl) rfl rfl (fun _ _ _ h => h) hH (fun x hx => run_string Try.underlying31 Try.underlying5 Try.underlying9 rfl (dB_suf (hx.choose_spec.rd_at 0 rfl) m hlm (by omega))) rfl ?_
  refine An_take_on 28 rfl (by kernel_rfl) (by kernel_rfl) (by kernel_rfl) rfl rfl (fun _ _ _ h => h) hH (fun x hx => run_asB (c := false) (run_neq_str rfl rfl) (by show (!((strOfNums [1, 2, 3, 4]).toList == (strOfNums [1, 2, 3, 4]).toList)) = false; simp)) rfl ?_
  refine An_take 29 rfl (by kernel_rfl) (by kernel_rfl) (by kernel_rfl) (fun _ _ _ h => h) hH (fun x hx => run_pick_f rfl rfl) rfl ?_
  refine An_done (by kernel_rfl) ?_
  refine Jm_seq ?_
  refine St_iff rfl ?_
  refine St_skip ?_
  refine Jm_seq ?_
  refine St_seq ?_
  refine St_seq ?_
  refine St_region ?_
  refine Ls_run (run_assign rfl) rfl ?_
  refine Ls_nil ?_
  refine Jm_seq ?_
  refine St_block ?_
  replace hs := hs.front 1 rfl
  simp only [List.cons_append, List.nil_append, List.eraseIdx_cons_zero, List.eraseIdx_cons_succ] at hs
  obtain ⟨En25, hEn25⟩ : ∃ F : Nat → Env, ∀ (i : Nat), F i = [(0, .slice A n c), (1, .slice A2 n2 c2), (5, .slice A m c), (6, .int .i64 (m : Int)), (7, .slice Am (m + 4) cm), (8, .pointer (some ⟨b0, 0, none⟩)), (10, .int .i64 (i : Int))] := ⟨(fun (i : Nat) => [(0, .slice A n c), (1, .slice A2 n2 c2), (5, .slice A m c), (6, .int .i64 (m : Int)), (7, .slice Am (m + 4) cm), (8, .pointer (some ⟨b0, 0, none⟩)), (10, .int .i64 (i : Int))]), fun _ => rfl⟩
  obtain ⟨Iv26, hIv26⟩ : ∃ F : Nat → World → Prop, ∀ (i : Nat) (wr : World), F i wr = (∃ xs, Sat w wr [DiskA 85 31 5 b0 s1, Own 5 1 (.slice Am (m + 4) cm) (m + 4) xs] ∧ i ≤ m ∧ AllU8 xs) := ⟨(fun (i : Nat) => fun (wr : World) => ∃ xs, Sat w wr [DiskA 85 31 5 b0 s1, Own 5 1 (.slice Am (m + 4) cm) (m + 4) xs] ∧ i ≤ m ∧ AllU8 xs), fun _ _ => rfl⟩
  obtain ⟨ms27, hms27⟩ : ∃ F : Nat → Nat, ∀ (i : Nat), F i = (m - i) := ⟨(fun (i : Nat) => m - i), fun _ => rfl⟩
  refine St_loop En25 Iv26 ms27 (0) ?_ ?_ ?_
  · skip
    rw [hIv26]
    exact ⟨_, hs, by omega, AllU8.bytes _⟩
  · rw [hEn25]; exact (subE_cons rfl (subE_cons rfl (subE_cons rfl (subE_cons rfl (subE_cons rfl (subE_cons rfl (subE_cons rfl subE_nil)))))))
  rintro i wr hI28
  rw [hIv26] at hI28
  obtain ⟨xs, hs, hi, hxs⟩ := hI28
  refine St_eqE (hEn25 _) ?_
  rw [← El.val_flat xs] at hs
  refine St_seq ?_
  refine St_seq ?_
  refine St_region ?_
  refine Ls_run (run_move rfl) rfl ?_
  refine Ls_run (run_move rfl) rfl ?_
  refine Ls_run (run_lss rfl rfl) rfl ?_
  refine Ls_nil ?_
  refine Jm_seq ?_
  refine St_ifP rfl (fun h29 => ?_) (fun h29 => ?_)
  · skip
    refine St_skip ?_
    refine Jm_seq ?_
    refine St_seq ?_
    refine St_block ?_
    refine St_region ?_
    refine Ls_run (run_move rfl) rfl ?_
    refine Ls_run (run_move rfl) rfl ?_
    refine Ls_run (run_move rfl) rfl ?_
    refine Ls_run (run_move rfl) rfl ?_
    have hlxs := (hs.rd_at 1 rfl).len
    simp only [El.val_flat, Nat.mul_one] at hlxs
    obtain ⟨x0, hx0⟩ := hxs.at (i := i) (by omega)
    refine Ls_index (El.val) (hs.rd_at 1 rfl) Try.underlying31 inf5 rfl rfl (by omega) (by omega) hx0 rfl ?_
    intro b30 o31 hc32
    refine Ls_run (run_load sc5 rfl (hc32 0 _ rfl)) rfl ?_
    refine Ls_run (run_bits (by simp) rfl rfl rfl) rfl ?_
    obtain ⟨gm, rfl⟩ := (hs.front 1 rfl).own_addr (by omega)
    refine Ls_run (run_index Try.underlying31 inf5 rfl rfl rfl (by omega) (by omega)) rfl ?_
    replace hs := hs.front 1 rfl
    simp only [List.cons_append, List.nil_append, List.eraseIdx_cons_zero, List.eraseIdx_cons_succ] at hs
    refine Ls_storeOwn hs inf5 rfl rfl rfl (by omega) ?_
    intro w33 hs
    refine Ls_nil ?_
    refine Jm_block_normal (Jm_seq ?_)
    refine St_region ?_
    refine Ls_run (run_move rfl) rfl ?_
    refine Ls_run (run_add rfl rfl (w64 (by omega))) rfl ?_
    refine Ls_run (run_assign rfl) rfl ?_
    refine Ls_nil ?_
    replace hs := hs.front 1 rfl
    simp only [List.cons_append, List.nil_append, List.eraseIdx_cons_zero, List.eraseIdx_cons_succ] at hs
    simp only [El.val_flat] at hs
    refine Jm_round (i + 1) ?_ ?_ ?_
    · rw [hEn25]; exact (subE_cons rfl (subE_cons rfl (subE_cons rfl (subE_cons rfl (subE_cons rfl (subE_cons rfl (subE_cons rfl subE_nil)))))))
    · skip
      rw [hIv26]
      exact ⟨_, hs, by omega, hxs.put _ _⟩
    · skip
      rw [hms27, hms27]
      omega
  · skip
    refine St_exit ?_
    refine Jm_then_exit (Jm_then_exit (Jm_block_same (Jm_seq ?_)))
    refine St_seq ?_
    refine St_region ?_
    refine Ls_run (run_move rfl) rfl ?_
    have hrs2 := dread_ok (s := s1) (k := 1) hs1d (by rw [hs1b]; simp)
    have hs1ok : ∀ r ∈ s1.bl, r.length ≤ 1024 := by rw [hs1b]; intro r hr; simp at hr; rcases hr with rfl | rfl <;> first | omega | simp
    refine Ls_call Try.func18 nm18 rfl rfl (Read_c w wr _ b0 s1 hs hs1ok ((1 : Nat) : Int)) rfl ?_
    rintro v34 w35 ⟨Arx, crx, rfl, hs⟩
    obtain ⟨s2, hs2⟩ : ∃ x, x = (dread s1 ((1 : Nat) : Int)).2.2 := ⟨_, rfl⟩
    rw [← hs2] at hs hrs2
    have e1 : s1.bl.getD 1 [] = l := by rw [hs1b]; rfl
    rw [hrs2.1, e1, hlm] at hs ⊢
    rw [hrs2.2.1]
    have hs2d : s2.down = false := by rw [hrs2.2.2.1]; exact hs1d
    have hs2b : s2.bl = [[], l] := by rw [hrs2.2.2.2.2]; exact hs1b
    refine Ls_run (run_move rfl) rfl ?_
    refine Ls_run (run_extract rfl rfl) rfl ?_
    refine Ls_run (run_extract rfl rfl) rfl ?_
    refine Ls_run (run_assign rfl) rfl ?_
    refine Ls_run (run_assign rfl) rfl ?_
    refine Ls_nil ?_
    refine Jm_seq ?_
    refine St_seq ?_
    refine St_region ?_
    refine Ls_run (run_move rfl) rfl ?_
    have hrs3 := dread_ok (s := s2) (k := 1) hs2d (by rw [hs2b]; simp)
    have hs2ok : ∀ r ∈ s2.bl, r.length ≤ 1024 := by rw [hs2b]; intro r hr; simp at hr; rcases hr with rfl | rfl <;> first | omega | simp
    refine Ls_call Try.func18 nm18 rfl rfl (Read_c w w35 _ b0 s2 hs hs2ok ((1 : Nat) : Int)) rfl ?_
    rintro v36 w37 ⟨Ary, cry, rfl, hs⟩
    obtain ⟨s3, hs3⟩ : ∃ x, x = (dread s2 ((1 : Nat) : Int)).2.2 := ⟨_, rfl⟩
    rw [← hs3] at hs hrs3
    have e1 : s2.bl.getD 1 [] = l := by rw [hs2b]; rfl
    rw [hrs3.1, e1, hlm] at hs ⊢
    rw [hrs3.2.1]
    have hs3d : s3.down = false := by rw [hrs3.2.2.1]; exact hs2d
    have hs3b : s3.bl = [[], l] := by rw [hrs3.2.2.2.2]; exact hs2b
    refine Ls_run (run_move rfl) rfl ?_
    refine Ls_run (run_extract rfl rfl) rfl ?_
    refine Ls_run (run_extract rfl rfl) rfl ?_
    refine Ls_run (run_assign rfl) rfl ?_
    refine Ls_run (run_assign rfl) rfl ?_
    refine Ls_nil ?_
    refine Jm_seq ?_
    refine St_seq ?_
    refine St_region ?_
    refine Ls_run (run_move rfl) rfl ?_
    refine Ls_call Try.func21 nm21 rfl rfl (Image_c w w37 _ b0 s3 hs (by rw [hs3b]; intro r hr; simp at hr; rcases hr with rfl | rfl <;> first | omega | simp) (by rw [hs3b]; simp)) rfl ?_
    rintro v38 w39 ⟨Az, cz, vz, rfl, hvz, hs⟩
    simp only [hs3b] at hvz hs ⊢
    obtain ⟨v0, v1, rfl⟩ := two_vals hvz
    simp only [rowsA, List.cons_append, List.nil_append, List.length_cons, List.length_nil, Nat.zero_add, Nat.reduceAdd] at hs ⊢
    rw [show (El.int .u8).size = 1 from rfl, hlm, ← bytesV_flat l] at hs
    obtain ⟨A1, c1, hv1, _, _, _⟩ := (hs.front 2 rfl).own_form
    subst hv1
    refine Ls_run (run_assign rfl) rfl ?_
    refine Ls_nil ?_
    refine Jm_seq ?_
    refine St_seq ?_
    refine St_seq ?_
    refine St_draw (fun x => Below w39.heap.size w39 x) mixed ?_
    intro w40 q41
    have hH := q41.below
    replace hs := hs.quiet q41
    refine An_grow hH ?_
    replace hH := Below.refl w40.heap.size w40
    refine An_take 0 rfl (by kernel_rfl) (by kernel_rfl) (by kernel_rfl) (fun _ _ _ h => h) hH (fun x hx => run_move rfl) rfl ?_
    refine An_take 1 rfl (by kernel_rfl) (by kernel_rfl) (by kernel_rfl) (fun _ _ _ h => h) hH (fun x hx => run_len Try.underlying28 rfl) rfl ?_
    refine An_take 2 rfl (by kernel_rfl) (by kernel_rfl) (by kernel_rfl) (fun _ _ _ h => h) hH (fun x hx => run_asB (c := false) (run_neq rfl rfl) (by decide)) rfl ?_
    refine An_take 3 rfl (by kernel_rfl) (by kernel_rfl) (by kernel_rfl) (fun _ _ _ h => h) hH (fun x hx => run_move rfl) rfl ?_
    refine An_take_on 4 rfl (by kernel_rfl) (by kernel_rfl) (by kernel_rfl) rfl rfl (fun _ _ _ h => h) hH (fun x hx => run_move rfl) rfl ?_
    refine An_take_on 5 rfl (by kernel_rfl) (by kernel_rfl) (by kernel_rfl) rfl rfl (fun _ _ _ h => h) hH (fun x hx => run_string Try.underlying31 Try.underlying5 Try.underlying9 rfl ((hs.rd_at 5 rfl).grow hx)) rfl ?_
    refine An_take_on 6 rfl (by kernel_rfl) (by kernel_rfl) (by kernel_rfl) rfl rfl (fun _ _ _ h => h) hH (fun x hx => run_move rfl) rfl ?_
    refine An_take_on 7 rfl (by kernel_rfl) (by kernel_rfl) (by kernel_rfl) rfl rfl (fun _ _ _ h => h) hH (fun x hx => run_string Try.underlying31 Try.underlying5 Try.underlying9 rfl ((hrl.inB hs).grow hx)) rfl ?_
    refine An_take_on 8 rfl (by kernel_rfl) (by kernel_rfl) (by kernel_rfl) rfl rfl (fun _ _ _ h => h) hH (fun x hx => run_asB (c := false) (run_neq_str rfl rfl) (by simp)) rfl ?_
    refine An_take 9 rfl (by kernel_rfl) (by kernel_rfl) (by kernel_rfl) (fun _ _ _ h => h) hH (fun x hx => run_pick_f rfl rfl) rfl ?_
    refine An_take 10 rfl (by kernel_rfl) (by kernel_rfl) (by kernel_rfl) (fun _ _ _ h => h) hH (fun x hx => run_move rfl) rfl ?_
    refine An_take_on 11 rfl (by kernel_rfl) (by kernel_rfl) (by kernel_rfl) rfl rfl (fun _ _ _ h => h) hH (fun x hx => run_move rfl) rfl ?_
    refine An_take_on 12 rfl (by kernel_rfl) (by kernel_rfl) (by kernel_rfl) rfl rfl (fun _ _ _ h => h) hH (fun x hx => run_string Try.underlying31 Try.underlying5 Try.underlying9 rfl ((hs.rd_at 4 rfl).grow hx)) rfl ?_
    refine An_take_on 13 rfl (by kernel_rfl) (by kernel_rfl) (by kernel_rfl) rfl rfl (fun _ _ _ h => h) hH (fun x hx => run_move rfl) rfl ?_
    refine An_take_on 14 rfl (by kernel_rfl) (by kernel_rfl) (by kernel_rfl) rfl rfl (fun _ _ _ h => h) hH (fun x hx => run_string Try.underlying31 Try.underlying5 Try.underlying9 rfl ((hrl.inB hs).grow hx)) rfl ?_
    refine An_take_on 15 rfl (by kernel_rfl) (by kernel_rfl) (by kernel_rfl) rfl rfl (fun _ _ _ h => h) hH (fun x hx => run_asB (c := false) (run_neq_str rfl rfl) (by simp)) rfl ?_
    refine An_take 16 rfl (by kernel_rfl) (by kernel_rfl) (by kernel_rfl) (fun _ _ _ h => h) hH (fun x hx => run_pick_f rfl rfl) rfl ?_
    refine An_take 17 rfl (by kernel_rfl) (by kernel_rfl) (by kernel_rfl) (fun _ _ _ h => h) hH (fun x hx => run_move rfl) rfl ?_
    refine An_take_on 18 rfl (by kernel_rfl) (by kernel_rfl) (by kernel_rfl) rfl rfl (fun _ _ _ h => h) hH (fun x hx => run_move rfl) rfl ?_
    refine An_index_on 19  (El.val) rfl (by kernel_rfl) (by kernel_rfl) (by kernel_rfl) rfl rfl (fun _ _ _ _ h => h) hH (fun x hx => ((hs.rd_at 0 rfl).grow hx)) Try.underlying28 inf31 rfl rfl (by decide) (by decide) rfl rfl ?_
    intro b42 o43 hc44
    refine An_take_on 20 rfl (by kernel_rfl) (by kernel_rfl) (by kernel_rfl) rfl rfl (fun _ _ _ h => h) hH (fun x hx => run_load sc31 rfl ((hc44 x hx) 0 _ rfl)) rfl ?_
    refine An_take_on 21 rfl (by kernel_rfl) (by kernel_rfl) (by kernel_rfl) rfl rfl (fun _ _ _ h => h) hH (fun x hx => run_string Try.underlying31 Try.underlying5 Try.underlying9 rfl ((hs.rd_at 2 rfl).grow hx)) rfl ?_
    refine An_take_on 22 rfl (by kernel_rfl) (by kernel_rfl) (by kernel_rfl) rfl rfl (fun _ _ _ h => h) hH (fun x hx => run_move rfl) rfl ?_
    refine An_take_on 23 rfl (by kernel_rfl) (by kernel_rfl) (by kernel_rfl) rfl rfl (fun _ _ _ h => h) hH (fun x hx => run_string Try.underlying31 Try.underlying5 Try.underlying9 rfl ((hrl.inB hs).grow hx)) rfl ?_
    refine An_take_on 24 rfl (by kernel_rfl) (by kernel_rfl) (by kernel_rfl) rfl rfl (fun _ _ _ h => h) hH (fun x hx => run_asB (c := false) (run_neq_str rfl rfl) (by simp)) rfl ?_
    refine An_take 25 rfl (by kernel_rfl) (by kernel_rfl) (by kernel_rfl) (fun _ _ _ h => h) hH (fun x hx => run_pick_f rfl rfl) rfl ?_
    refine An_done (by kernel_rfl) ?_
    refine Jm_seq ?_
    refine St_iff rfl ?_
    refine St_skip ?_
    refine Jm_seq ?_
    refine St_seq ?_
    refine St_seq ?_
    refine St_region ?_
    refine Ls_run (run_assign rfl) rfl ?_
    refine Ls_nil ?_
    refine Jm_seq ?_
    refine St_block ?_
    replace hs := hs.erase 1
    simp only [List.cons_append, List.nil_append, List.eraseIdx_cons_zero, List.eraseIdx_cons_succ] at hs
    replace hs := hs.erase 5
    simp only [List.cons_append, List.nil_append, List.eraseIdx_cons_zero, List.eraseIdx_cons_succ] at hs
    replace hs := hs.front 3 rfl
    simp only [List.cons_append, List.nil_append, List.eraseIdx_cons_zero, List.eraseIdx_cons_succ] at hs
    replace hs := hs.front 3 rfl
    simp only [List.cons_append, List.nil_append, List.eraseIdx_cons_zero, List.eraseIdx_cons_succ] at hs
    replace hs := hs.front 4 rfl
    simp only [List.cons_append, List.nil_append, List.eraseIdx_cons_zero, List.eraseIdx_cons_succ] at hs
    replace hs := hs.front 4 rfl
    simp only [List.cons_append, List.nil_append, List.eraseIdx_cons_zero, List.eraseIdx_cons_succ] at hs
    replace hs := hs.front 4 rfl
    simp only [List.cons_append, List.nil_append, List.eraseIdx_cons_zero, List.eraseIdx_cons_succ] at hs
    obtain ⟨En46, hEn46⟩ : ∃ F : Nat → Env, ∀ (i : Nat), F i = [(0, .slice A n c), (1, .slice A2 n2 c2), (5, .slice A m c), (6, .int .i64 (m : Int)), (8, .pointer (some ⟨b0, 0, none⟩)), (13, .slice Ary m cry), (15, .slice Az 2 cz), (11, .slice Arx m crx), (16, .int .i64 (i : Int))] := ⟨(fun (i : Nat) => [(0, .slice A n c), (1, .slice A2 n2 c2), (5, .slice A m c), (6, .int .i64 (m : Int)), (8, .pointer (some ⟨b0, 0, none⟩)), (13, .slice Ary m cry), (15, .slice Az 2 cz), (11, .slice Arx m crx), (16, .int .i64 (i : Int))]), fun _ => rfl⟩
    obtain ⟨Iv47, hIv47⟩ : ∃ F : Nat → World → Prop, ∀ (i : Nat) (wr2 : World), F i wr2 = (∃ xs zs, Sat w wr2 [Own 31 1 (.slice Az 2 cz) 2 (El.val.flat [v0, (.slice A1 m c1)]), Own 5 1 (.slice A1 m c1) m zs, Own 5 1 (.slice Arx m crx) m xs, DiskA 85 31 5 b0 s3, Own 5 1 (.slice Ary m cry) m (bytesV l)] ∧ i ≤ m ∧ AllU8 xs ∧ AllU8 zs) := ⟨(fun (i : Nat) => fun (wr2 : World) => ∃ xs zs, Sat w wr2 [Own 31 1 (.slice Az 2 cz) 2 (El.val.flat [v0, (.slice A1 m c1)]), Own 5 1 (.slice A1 m c1) m zs, Own 5 1 (.slice Arx m crx) m xs, DiskA 85 31 5 b0 s3, Own 5 1 (.slice Ary m cry) m (bytesV l)] ∧ i ≤ m ∧ AllU8 xs ∧ AllU8 zs), fun _ _ => rfl⟩
    obtain ⟨ms48, hms48⟩ : ∃ F : Nat → Nat, ∀ (i : Nat), F i = (m - i) := ⟨(fun (i : Nat) => m - i), fun _ => rfl⟩
    refine St_loop En46 Iv47 ms48 (0) ?_ ?_ ?_
    · skip
      rw [hIv47]
      exact ⟨_, _, hs, by omega, AllU8.bytes _, AllU8.bytes _⟩
    · rw [hEn46]; exact (subE_cons rfl (subE_cons rfl (subE_cons rfl (subE_cons rfl (subE_cons rfl (subE_cons rfl (subE_cons rfl (subE_cons rfl (subE_cons rfl subE_nil)))))))))
    rintro i wr2 hI49
    rw [hIv47] at hI49
    obtain ⟨xs, zs, hs, hi, hxs, hzs⟩ := hI49
    refine St_eqE (hEn46 _) ?_
    rw [← El.val_flat xs, ← El.val_flat zs] at hs
    refine St_seq ?_
    refine St_seq ?_
    refine St_region ?_
    refine Ls_run (run_move rfl) rfl ?_
    refine Ls_run (run_move rfl) rfl ?_
    refine Ls_run (run_lss rfl rfl) rfl ?_
    refine Ls_nil ?_
    refine Jm_seq ?_
    refine St_ifP rfl (fun h50 => ?_) (fun h50 => ?_)
    · skip
      refine St_skip ?_
      refine Jm_seq ?_
      refine St_seq ?_
      refine St_block ?_
      refine St_seq ?_
      refine St_region ?_
      refine Ls_run (run_move rfl) rfl ?_
      refine Ls_run (run_move rfl) rfl ?_
      refine Ls_run (run_move rfl) rfl ?_
      refine Ls_run (run_move rfl) rfl ?_
      have hlxs := (hs.rd_at 2 rfl).len
      simp only [El.val_flat, Nat.mul_one] at hlxs
      obtain ⟨x1, hx1⟩ := hxs.at (i := i) (by omega)
      refine Ls_index (El.val) (hs.rd_at 2 rfl) Try.underlying31 inf5 rfl rfl (by omega) (by omega) hx1 rfl ?_
      intro b51 o52 hc53
      refine Ls_run (run_load sc5 rfl (hc53 0 _ rfl)) rfl ?_
      refine Ls_run (run_bits (by simp) rfl rfl rfl) rfl ?_
      obtain ⟨gx, rfl⟩ := (hs.front 2 rfl).own_addr (by omega)
      refine Ls_run (run_index Try.underlying31 inf5 rfl rfl rfl (by omega) (by omega)) rfl ?_
      replace hs := hs.front 2 rfl
      simp only [List.cons_append, List.nil_append, List.eraseIdx_cons_zero, List.eraseIdx_cons_succ] at hs
      refine Ls_storeOwn hs inf5 rfl rfl rfl (by omega) ?_
      intro w54 hs
      refine Ls_nil ?_
      refine Jm_seq ?_
      refine St_drawC 12 (fun x => Below w54.heap.size w54 x) mixed ?_
      intro w55 q56
      have hH := q56.below
      replace hs := hs.quiet q56
      refine AnC_grow hH ?_
      replace hH := Below.refl w55.heap.size w55
      refine AnC_takeP 0 (by kernel_rfl) rfl (by kernel_rfl) (by kernel_rfl) (by kernel_rfl) (fun _ _ _ h => h) (fun _ => hH) (fun x => run_move rfl) rfl ?_
      refine AnC_index 1 [12, 1] (El.val) rfl (by kernel_rfl) (by kernel_rfl) (by kernel_rfl) (by kernel_rfl) (fun _ _ _ _ h => h) hH (fun x hx => ((hs.rd_at 1 rfl).grow hx)) Try.underlying28 inf31 rfl rfl (by decide) (by decide) rfl rfl ?_
      intro b57 o58 hc59
      refine AnC_take 2 [12, 2] rfl (by kernel_rfl) (by kernel_rfl) (by kernel_rfl) (by kernel_rfl) (fun _ _ _ h => h) hH (fun x hx => run_load sc31 rfl ((hc59 x hx) 0 _ rfl)) rfl ?_
      refine AnC_takeP 3 (by kernel_rfl) rfl (by kernel_rfl) (by kernel_rfl) (by kernel_rfl) (fun _ _ _ h => h) (fun _ => hH) (fun x => run_move rfl) rfl ?_
      refine AnC_takeP 4 (by kernel_rfl) rfl (by kernel_rfl) (by kernel_rfl) (by kernel_rfl) (fun _ _ _ h => h) (fun _ => hH) (fun x => run_move rfl) rfl ?_
      refine AnC_index 5 [12, 5] (El.val) rfl (by kernel_rfl) (by kernel_rfl) (by kernel_rfl) (by kernel_rfl) (fun _ _ _ _ h => h) hH (fun x hx => ((hs.rd_at 1 rfl).grow hx)) Try.underlying28 inf31 rfl rfl (by decide) (by decide) rfl rfl ?_
      intro b60 o61 hc62
      refine AnC_take 6 [12, 6] rfl (by kernel_rfl) (by kernel_rfl) (by kernel_rfl) (by kernel_rfl) (fun _ _ _ h => h) hH (fun x hx => run_load sc31 rfl ((hc62 x hx) 0 _ rfl)) rfl ?_
      refine AnC_takeP 7 (by kernel_rfl) rfl (by kernel_rfl) (by kernel_rfl) (by kernel_rfl) (fun _ _ _ h => h) (fun _ => hH) (fun x => run_move rfl) rfl ?_
      have hlzs := (hs.rd_at 2 rfl).len
      simp only [El.val_flat, Nat.mul_one] at hlzs
      obtain ⟨x2, hx2⟩ := hzs.at (i := i) (by omega)
      refine AnC_index 8 [12, 8] (El.val) rfl (by kernel_rfl) (by kernel_rfl) (by kernel_rfl) (by kernel_rfl) (fun _ _ _ _ h => h) hH (fun x hx => ((hs.rd_at 2 rfl).grow hx)) Try.underlying31 inf5 rfl rfl (by omega) (by omega) hx2 rfl ?_
      intro b63 o64 hc65
      refine AnC_take 9 [12, 9] rfl (by kernel_rfl) (by kernel_rfl) (by kernel_rfl) (by kernel_rfl) (fun _ _ _ h => h) hH (fun x hx => run_load sc5 rfl ((hc65 x hx) 0 _ rfl)) rfl ?_
      refine AnC_takeP 10 (by kernel_rfl) rfl (by kernel_rfl) (by kernel_rfl) (by kernel_rfl) (fun _ _ _ h => h) (fun _ => hH) (fun x => run_bits (by simp) rfl rfl rfl) rfl ?_
      obtain ⟨gz, rfl⟩ := (hs.front 2 rfl).own_addr (by omega)
      refine AnC_takeP 11 (by kernel_rfl) rfl (by kernel_rfl) (by kernel_rfl) (by kernel_rfl) (fun _ _ _ h => h) (fun _ => hH) (fun x => run_index Try.underlying31 inf5 rfl rfl rfl (by omega) (by omega)) rfl ?_
      refine AnC_only 12 (by kernel_rfl) rfl ?_
      replace hs := hs.front 2 rfl
      simp only [List.cons_append, List.nil_append, List.eraseIdx_cons_zero, List.eraseIdx_cons_succ] at hs
      refine Ls_storeOwn hs inf5 rfl rfl rfl (by omega) ?_
      intro w66 hs
      refine Ls_nil (Jm_AnC_closed (by kernel_rfl) ?_)
      refine AnC_switch (H' := fun x => Below w66.heap.size w66 x) 13 (by kernel_rfl) ?_
      replace hH := Below.refl w66.heap.size w66
      refine AnC_done (by kernel_rfl) ?_
      refine Jm_block_normal (Jm_seq ?_)
      refine St_region ?_
      refine Ls_run (run_move rfl) rfl ?_
      refine Ls_run (run_add rfl rfl (w64 (by omega))) rfl ?_
      refine Ls_run (run_assign rfl) rfl ?_
      refine Ls_nil ?_
      replace hs := hs.front 4 rfl
      simp only [List.cons_append, List.nil_append, List.eraseIdx_cons_zero, List.eraseIdx_cons_succ] at hs
      replace hs := hs.front 4 rfl
      simp only [List.cons_append, List.nil_append, List.eraseIdx_cons_zero, List.eraseIdx_cons_succ] at hs
      replace hs := hs.front 3 rfl
      simp only [List.cons_append, List.nil_append, List.eraseIdx_cons_zero, List.eraseIdx_cons_succ] at hs
      replace hs := hs.front 3 rfl
      simp only [List.cons_append, List.nil_append, List.eraseIdx_cons_zero, List.eraseIdx_cons_succ] at hs
      replace hs := hs.front 4 rfl
      simp only [List.cons_append, List.nil_append, List.eraseIdx_cons_zero, List.eraseIdx_cons_succ] at hs
      simp only [El.val_flat] at hs
      rw [← El.val_flat [v0, Value.slice (some ⟨gz, 0, none⟩) m c1]] at hs
      refine Jm_round (i + 1) ?_ ?_ ?_
      · rw [hEn46]; exact (subE_cons rfl (subE_cons rfl (subE_cons rfl (subE_cons rfl (subE_cons rfl (subE_cons rfl (subE_cons rfl (subE_cons rfl (subE_cons rfl subE_nil)))))))))
      · skip
        rw [hIv47]
        exact ⟨_, _, hs, by omega, hxs.put _ _, hzs.put _ _⟩
      · skip
        rw [hms48, hms48]
        omega
    · skip
      refine St_exit ?_
      refine Jm_then_exit (Jm_then_exit (Jm_block_same (Jm_seq ?_)))
      refine St_seq ?_
      refine St_seq ?_
      refine St_region ?_
      refine Ls_run (run_assign rfl) rfl ?_
      refine Ls_nil ?_
      refine Jm_seq ?_
      refine St_block ?_
      obtain ⟨En67, hEn67⟩ : ∃ F : Nat × Value → Env, ∀ (i : Nat) (xv : Value), F (i, xv) = [(0, .slice A n c), (1, .slice A2 n2 c2), (5, .slice A m c), (6, .int .i64 (m : Int)), (8, .pointer (some ⟨b0, 0, none⟩)), (13, .slice Ary m cry), (15, .slice Az 2 cz), (11, xv), (17, .int .i64 (i : Int))] := ⟨(fun (s : Nat × Value) => match s with | (i, xv) => [(0, .slice A n c), (1, .slice A2 n2 c2), (5, .slice A m c), (6, .int .i64 (m : Int)), (8, .pointer (some ⟨b0, 0, none⟩)), (13, .slice Ary m cry), (15, .slice Az 2 cz), (11, xv), (17, .int .i64 (i : Int))]), fun _ _ => rfl⟩
      obtain ⟨Iv68, hIv68⟩ : ∃ F : Nat × Value → World → Prop, ∀ (i : Nat) (xv : Value) (wr3 : World), F (i, xv) wr3 = (∃ zv ya za, Sat w wr3 [Own 31 1 (.slice Az 2 cz) 2 (El.val.flat [v0, zv]), Own 5 1 zv (m + i) za, Own 5 1 xv (m + i) ya, DiskA 85 31 5 b0 s3, Own 5 1 (.slice Ary m cry) m (bytesV l)] ∧ i ≤ 9 ∧ ∃ A c, xv = .slice A (m + i) c) := ⟨(fun (s : Nat × Value) => match s with | (i, xv) => fun (wr3 : World) => ∃ zv ya za, Sat w wr3 [Own 31 1 (.slice Az 2 cz) 2 (El.val.flat [v0, zv]), Own 5 1 zv (m + i) za, Own 5 1 xv (m + i) ya, DiskA 85 31 5 b0 s3, Own 5 1 (.slice Ary m cry) m (bytesV l)] ∧ i ≤ 9 ∧ ∃ A c, xv = .slice A (m + i) c), fun _ _ _ => rfl⟩
      obtain ⟨ms69, hms69⟩ : ∃ F : Nat × Value → Nat, ∀ (i : Nat) (xv : Value), F (i, xv) = (9 - i) := ⟨(fun (s : Nat × Value) => match s with | (i, xv) => 9 - i), fun _ _ => rfl⟩
      refine St_loop En67 Iv68 ms69 (0, .slice Arx m crx) ?_ ?_ ?_
      · skip
        rw [hIv68]
        exact ⟨_, _, _, hs, by omega, _, _, rfl⟩
      · rw [hEn67]; exact (subE_cons rfl (subE_cons rfl (subE_cons rfl (subE_cons rfl (subE_cons rfl (subE_cons rfl (subE_cons rfl (subE_cons rfl (subE_cons rfl subE_nil)))))))))
      rintro ⟨i, xv⟩ wr3 hI70
      rw [hIv68] at hI70
      obtain ⟨zv, ya, za, hs, hi, Ax9, cx9, hxv⟩ := hI70
      refine St_eqE (hEn67 _ _) ?_
      subst hxv
      refine St_seq ?_
      refine St_seq ?_
      refine St_region ?_
      refine Ls_run (run_move rfl) rfl ?_
      refine Ls_run (run_lss rfl rfl) rfl ?_
      refine Ls_nil ?_
      refine Jm_seq ?_
      refine St_ifP rfl (fun h71 => ?_) (fun h71 => ?_)
      · skip
        refine St_skip ?_
        refine Jm_seq ?_
        refine St_seq ?_
        refine St_block ?_
        refine St_seq ?_
        refine St_region ?_
        refine Ls_run (run_move rfl) rfl ?_
        refine Ls_literal [_] hs Try.underlying31 inf5 rfl rfl rfl rfl rfl rfl ?_
        intro b72 w73 hs
        simp only [List.flatMap_cons, List.flatMap_nil, Value.cells, List.cons_append, List.nil_append] at hs
        replace hs := hs.front 3 rfl
        simp only [List.cons_append, List.nil_append, List.eraseIdx_cons_zero, List.eraseIdx_cons_succ] at hs
        refine Ls_append hs Try.underlying31 inf5 rfl (by decide) (by decide) rfl rfl (rd_block (hs.is_at 1 rfl).2 1 1 rfl) (by simp [Value.oneCell']) (by omega) rfl ?_
        intro A74 c75 w76 hs
        replace hs := hs.erase 1
        simp only [List.cons_append, List.nil_append, List.eraseIdx_cons_zero, List.eraseIdx_cons_succ] at hs
        refine Ls_run (run_assign rfl) rfl ?_
        refine Ls_nil ?_
        refine Jm_seq ?_
        refine St_region ?_
        refine Ls_run (run_move rfl) rfl ?_
        refine Ls_run (run_move rfl) rfl ?_
        refine Ls_index (El.val) (hs.rd_at 1 rfl) Try.underlying28 inf31 rfl rfl (by decide) (by decide) rfl rfl ?_
        intro b77 o78 hc79
        refine Ls_run (run_load sc31 rfl (hc79 0 _ rfl)) rfl ?_
        refine Ls_literal [_] hs Try.underlying31 inf5 rfl rfl rfl rfl rfl rfl ?_
        intro b80 w81 hs
        simp only [List.flatMap_cons, List.flatMap_nil, Value.cells, List.cons_append, List.nil_append] at hs
        replace hs := hs.front 3 rfl
        simp only [List.cons_append, List.nil_append, List.eraseIdx_cons_zero, List.eraseIdx_cons_succ] at hs
        refine Ls_append hs Try.underlying31 inf5 rfl (by decide) (by decide) rfl rfl (rd_block (hs.is_at 1 rfl).2 1 1 rfl) (by simp [Value.oneCell']) (by omega) rfl ?_
        intro A82 c83 w84 hs
        replace hs := hs.erase 1
        simp only [List.cons_append, List.nil_append, List.eraseIdx_cons_zero, List.eraseIdx_cons_succ] at hs
        obtain ⟨gk, rfl⟩ := (hs.front 2 rfl).own_addr (by decide)
        refine Ls_run (run_index Try.underlying28 inf31 rfl rfl rfl (by decide) (by decide)) rfl ?_
        replace hs := hs.front 2 rfl
        simp only [List.cons_append, List.nil_append, List.eraseIdx_cons_zero, List.eraseIdx_cons_succ] at hs
        refine Ls_storeOwn hs inf31 rfl rfl rfl (by decide) ?_
        intro w85 hs
        refine Ls_nil ?_
        refine Jm_block_normal (Jm_seq ?_)
        refine St_region ?_
        refine Ls_run (run_move rfl) rfl ?_
        refine Ls_run (run_add rfl rfl (w64 (by omega))) rfl ?_
        refine Ls_run (run_assign rfl) rfl ?_
        refine Ls_nil ?_
        refine Jm_round (i + 1, Value.slice A74 (m + i + 1) c75) ?_ ?_ ?_
        · rw [hEn67]; exact (subE_cons rfl (subE_cons rfl (subE_cons rfl (subE_cons rfl (subE_cons rfl (subE_cons rfl (subE_cons rfl (subE_cons rfl (subE_cons rfl subE_nil)))))))))
        · skip
          rw [hIv68]
          exact ⟨_, _, _, by simp only [El.val_flat] at hs ⊢; exact hs, by omega, _, _, rfl⟩
        · skip
          rw [hms69, hms69]
          omega
      · skip
        refine St_exit ?_
        refine Jm_then_exit (Jm_then_exit (Jm_block_same (Jm_seq ?_)))
        refine St_seq ?_
        refine St_region ?_
        refine Ls_run (run_move rfl) rfl ?_
        replace hs := hs.front 3 rfl
        simp only [List.cons_append, List.nil_append, List.eraseIdx_cons_zero, List.eraseIdx_cons_succ] at hs
        have hrs4 := dread_ok (s := s3) (k := 1) hs3d (by rw [hs3b]; simp)
        have hs3ok : ∀ r ∈ s3.bl, r.length ≤ 1024 := by rw [hs3b]; intro r hr; simp at hr; rcases hr with rfl | rfl <;> first | omega | simp
        refine Ls_call Try.func18 nm18 rfl rfl (Read_c w wr3 _ b0 s3 hs hs3ok ((1 : Nat) : Int)) rfl ?_
        rintro v86 w87 ⟨Arv, crv, rfl, hs⟩
        obtain ⟨s4, hs4⟩ : ∃ x, x = (dread s3 ((1 : Nat) : Int)).2.2 := ⟨_, rfl⟩
        rw [← hs4] at hs hrs4
        have e1 : s3.bl.getD 1 [] = l := by rw [hs3b]; rfl
        rw [hrs4.1, e1, hlm] at hs ⊢
        rw [hrs4.2.1]
        have hs4d : s4.down = false := by rw [hrs4.2.2.1]; exact hs3d
        have hs4b : s4.bl = [[], l] := by rw [hrs4.2.2.2.2]; exact hs3b
        refine Ls_run (run_move rfl) rfl ?_
        refine Ls_run (run_extract rfl rfl) rfl ?_
        refine Ls_run (run_extract rfl rfl) rfl ?_
        refine Ls_run (run_assign rfl) rfl ?_
        refine Ls_run (run_assign rfl) rfl ?_
        refine Ls_nil ?_
        refine Jm_seq ?_
        refine St_seq ?_
        refine St_seq ?_
        refine St_region ?_
        refine Ls_run (run_move rfl) rfl ?_
        refine Ls_run (run_string Try.underlying31 Try.underlying5 Try.underlying9 rfl (hs.rd_at 1 rfl)) rfl ?_
        refine Ls_run (run_move rfl) rfl ?_
        refine Ls_run (run_string Try.underlying31 Try.underlying5 Try.underlying9 rfl (hrl.inB hs)) rfl ?_
        refine Ls_run (run_asB (c := false) (run_neq_str rfl rfl) (by simp)) rfl ?_
        refine Ls_run (run_move rfl) rfl ?_
        refine Ls_on rfl rfl ?_
        refine Ls_run (run_move rfl) rfl ?_
        refine Ls_on rfl rfl ?_
        refine Ls_run (run_string Try.underlying31 Try.underlying5 Try.underlying9 rfl (hs.rd_at 5 rfl)) rfl ?_
        refine Ls_on rfl rfl ?_
        refine Ls_run (run_move rfl) rfl ?_
        refine Ls_on rfl rfl ?_
        refine Ls_run (run_string Try.underlying31 Try.underlying5 Try.underlying9 rfl (hrl.inB hs)) rfl ?_
        refine Ls_on rfl rfl ?_
        refine Ls_run (run_asB (c := false) (run_neq_str rfl rfl) (by simp)) rfl ?_
        refine Ls_run (run_pick_f rfl rfl) rfl ?_
        refine Ls_run (run_move rfl) rfl ?_
        refine Ls_on rfl rfl ?_
        refine Ls_run (run_move rfl) rfl ?_
        refine Ls_on rfl rfl ?_
        refine Ls_run (run_len Try.underlying31 rfl) rfl ?_
        refine Ls_on rfl rfl ?_
        refine Ls_run (run_move rfl) rfl ?_
        refine Ls_on rfl rfl ?_
        refine Ls_run (run_add rfl rfl (w64 (by omega))) rfl ?_
        refine Ls_on rfl rfl ?_
        refine Ls_run (run_asB (c := false) (run_neq rfl rfl) (decide_eq_false (by omega))) rfl ?_
        refine Ls_run (run_pick_f rfl rfl) rfl ?_
        refine Ls_nil ?_
        refine Jm_seq ?_
        refine St_iff rfl ?_
        refine St_skip ?_
        refine Jm_seq ?_
        refine St_seq ?_
        refine St_region ?_
        refine Ls_run (run_assign rfl) rfl ?_
        refine Ls_nil ?_
        refine Jm_seq ?_
        refine St_seq ?_
        refine St_seq ?_
        refine St_region ?_
        refine Ls_run (run_assign rfl) rfl ?_
        refine Ls_nil ?_
        refine Jm_seq ?_
        refine St_block ?_
        replace hs := hs.erase 0
        simp only [List.cons_append, List.nil_append, List.eraseIdx_cons_zero, List.eraseIdx_cons_succ] at hs
        replace hs := hs.erase 0
        simp only [List.cons_append, List.nil_append, List.eraseIdx_cons_zero, List.eraseIdx_cons_succ] at hs
        replace hs := hs.erase 0
        simp only [List.cons_append, List.nil_append, List.eraseIdx_cons_zero, List.eraseIdx_cons_succ] at hs
        replace hs := hs.erase 0
        simp only [List.cons_append, List.nil_append, List.eraseIdx_cons_zero, List.eraseIdx_cons_succ] at hs
        replace hs := hs.erase 0
        simp only [List.cons_append, List.nil_append, List.eraseIdx_cons_zero, List.eraseIdx_cons_succ] at hs
        replace hs := hs.erase 0
        simp only [List.cons_append, List.nil_append, List.eraseIdx_cons_zero, List.eraseIdx_cons_succ] at hs
        replace hs := hs.own_nil 31 1
        obtain ⟨En89, hEn89⟩ : ∃ F : Nat × List Value × Value → Env, ∀ (i : Nat) (ws : List Value) (ov : Value), F (i, ws, ov) = [(1, .slice A2 n2 c2), (20, ov), (21, .int .i64 (i : Int))] := ⟨(fun (s : Nat × List Value × Value) => match s with | (i, ws, ov) => [(1, .slice A2 n2 c2), (20, ov), (21, .int .i64 (i : Int))]), fun _ _ _ => rfl⟩
        obtain ⟨Iv90, hIv90⟩ : ∃ F : Nat × List Value × Value → World → Prop, ∀ (i : Nat) (ws : List Value) (ov : Value) (wr4 : World), F (i, ws, ov) wr4 = (Sat w wr4 (Own 31 1 ov i (El.val.flat ws) :: rowsA 5 (El.int .u8) ws (bl.take i)) ∧ i ≤ n2 ∧ ws.length = i ∧ ∃ A c, ov = .slice A i c) := ⟨(fun (s : Nat × List Value × Value) => match s with | (i, ws, ov) => fun (wr4 : World) => Sat w wr4 (Own 31 1 ov i (El.val.flat ws) :: rowsA 5 (El.int .u8) ws (bl.take i)) ∧ i ≤ n2 ∧ ws.length = i ∧ ∃ A c, ov = .slice A i c), fun _ _ _ _ => rfl⟩
        obtain ⟨ms91, hms91⟩ : ∃ F : Nat × List Value × Value → Nat, ∀ (i : Nat) (ws : List Value) (ov : Value), F (i, ws, ov) = (n2 - i) := ⟨(fun (s : Nat × List Value × Value) => match s with | (i, ws, ov) => n2 - i), fun _ _ _ => rfl⟩
        refine St_loop En89 Iv90 ms91 (0, [], .slice none 0 0) ?_ ?_ ?_
        · skip
          rw [hIv90]
          exact ⟨hs, by omega, rfl, _, _, rfl⟩
        · rw [hEn89]; exact (subE_cons rfl (subE_cons rfl (subE_cons rfl subE_nil)))
        rintro ⟨i, ws, ov⟩ wr4 hI92
        rw [hIv90] at hI92
        obtain ⟨hs, hi, hws, Ao, co, hov⟩ := hI92
        refine St_eqE (hEn89 _ _ _) ?_
        subst hov
        refine St_seq ?_
        refine St_seq ?_
        refine St_region ?_
        refine Ls_run (run_move rfl) rfl ?_
        refine Ls_run (run_move rfl) rfl ?_
        refine Ls_run (run_len Try.underlying28 rfl) rfl ?_
        refine Ls_run (run_lss rfl rfl) rfl ?_
        refine Ls_nil ?_
        refine Jm_seq ?_
        refine St_ifP rfl (fun h93 => ?_) (fun h93 => ?_)
        · skip
          refine St_skip ?_
          refine Jm_seq ?_
          refine St_seq ?_
          refine St_block ?_
          refine St_region ?_
          refine Ls_run (run_move rfl) rfl ?_
          refine Ls_literal [] hs Try.underlying31 inf5 rfl rfl rfl rfl rfl rfl ?_
          intro b94 w95 hs
          simp only [List.flatMap_cons, List.flatMap_nil, Value.cells, List.cons_append, List.nil_append] at hs
          replace hs := Sat.own_block hs 1 0 rfl (by decide)
          refine Ls_run (run_move rfl) rfl ?_
          refine Ls_run (run_move rfl) rfl ?_
          obtain ⟨Ai, ni, ci, hvi, hri⟩ := hp.2 i (by omega)
          rw [← bytesV_flat] at hri
          have hmi := rdB_len hri
          have hzi := hbz _ (getD_mem_bl (i := i) (ls := bl) (by omega))
          refine Ls_index (El.val) (hr2.inB hs) Try.underlying28 inf31 rfl rfl (by omega) (by omega) hvi rfl ?_
          intro b96 o97 hc98
          refine Ls_run (run_load sc31 rfl (hc98 0 _ rfl)) rfl ?_
          refine Ls_append hs Try.underlying31 inf5 rfl (by decide) (by decide) rfl rfl (hri.inB hs) (bytesV_one' _) (by omega) rfl ?_
          intro A99 c100 w101 hs
          refine Ls_literal [_] hs Try.underlying28 inf31 rfl rfl rfl rfl rfl rfl ?_
          intro b102 w103 hs
          simp only [List.flatMap_cons, List.flatMap_nil, Value.cells, List.cons_append, List.nil_append] at hs
          replace hs := hs.front 2 rfl
          simp only [List.cons_append, List.nil_append, List.eraseIdx_cons_zero, List.eraseIdx_cons_succ] at hs
          refine Ls_append hs Try.underlying28 inf31 rfl (by decide) (by decide) rfl rfl (rd_block (hs.is_at 1 rfl).2 1 1 rfl) (by simp [El.val, El.flat, Value.oneCell']) (by omega) rfl ?_
          intro A104 c105 w106 hs
          replace hs := hs.erase 1
          simp only [List.cons_append, List.nil_append, List.eraseIdx_cons_zero, List.eraseIdx_cons_succ] at hs
          replace hs := hs.front 1 rfl
          simp only [List.cons_append, List.nil_append, List.eraseIdx_cons_zero, List.eraseIdx_cons_succ] at hs
          replace hs := hs.front 1 rfl
          simp only [List.cons_append, List.nil_append, List.eraseIdx_cons_zero, List.eraseIdx_cons_succ] at hs
          replace hs := hs.front 1 rfl
          simp only [List.cons_append, List.eraseIdx_cons_zero, List.eraseIdx_cons_succ, Nat.zero_add, List.nil_append] at hs ⊢
          have hs5 := Sat.row_add (pre := [_]) (bl.getD i []) hs hmi.symm (bytesV_flat _) (by rw [List.length_take]; omega)
          replace hs := hs5
          simp only [List.cons_append, List.nil_append] at hs
          have eF : El.val.flat ws ++ [Value.slice A99 ni c100] = El.val.flat (ws ++ [Value.slice A99 ni c100]) := by rw [El.val_flat, El.val_flat]
          rw [eF] at hs
          refine Ls_run (run_assign rfl) rfl ?_
          refine Ls_nil ?_
          refine Jm_block_normal (Jm_seq ?_)
          refine St_region ?_
          refine Ls_run (run_move rfl) rfl ?_
          refine Ls_run (run_add rfl rfl (w64 (by omega))) rfl ?_
          refine Ls_run (run_assign rfl) rfl ?_
          refine Ls_nil ?_
          refine Jm_round (i + 1, ws ++ [Value.slice A99 ni c100], (.slice A104 (i + 1) c105)) ?_ ?_ ?_
          · rw [hEn89]; exact (subE_cons rfl (subE_cons rfl (subE_cons rfl subE_nil)))
          · skip
            rw [hIv90]
            refine ⟨?_, by omega, by simp [hws], _, _, rfl⟩
            rw [take_snoc4 (d := []) (by omega)]
            exact hs
          · skip
            rw [hms91, hms91]
            omega
        · skip
          refine St_exit ?_
          refine Jm_then_exit (Jm_then_exit (Jm_block_same (Jm_seq ?_)))
          refine St_seq ?_
          refine St_region ?_
          have hi9 : i = n2 := by omega
          rw [hi9, List.take_of_length_le (by omega)] at hs
          rw [hi9]
          rw [hi9] at hws
          refine Ls_run (run_move rfl) rfl ?_
          refine Ls_call Try.func24 nm24 rfl rfl (LoadO_c wr4 Ao n2 co ws bl (hs.rd_at 0 rfl) (Sat.parts (pre := [_]) hs (by omega)) (by omega)) rfl ?_
          rintro v107 w108 ⟨pl, rfl, hpl, hsL⟩
          replace hs := hs.trans hsL
          simp only [List.cons_append, List.nil_append] at hs
          refine Ls_run (run_move rfl) rfl ?_
          refine Ls_run (run_extract rfl rfl) rfl ?_
          refine Ls_run (run_extract rfl rfl) rfl ?_
          refine Ls_run (run_assign rfl) rfl ?_
          refine Ls_run (run_assign rfl) rfl ?_
          refine Ls_nil ?_
          refine Jm_seq ?_
          refine St_seq ?_
          refine St_seq ?_
          refine St_region ?_
          refine Ls_run (run_move rfl) rfl ?_
          refine Ls_run (run_neq rfl rfl) rfl ?_
          refine Ls_nil ?_
          refine Jm_seq ?_
          refine St_ifP rfl (fun h109 => ?_) (fun h109 => ?_)
          · skip
            refine St_seq ?_
            refine St_region ?_
            refine Ls_run (run_assign rfl) rfl ?_
            refine Ls_nil ?_
            refine Jm_seq ?_
            refine St_ret ?_
            refine Jm_then_ret  ?_
            refine Jm_ret1 rfl rfl ?_
            exact ⟨_, rfl, rfl, hs.below⟩
          · skip
            have hcs : (¬ (bl.length < 1 ∨ 64 < bl.length)) ∧ dlong bl = false := by
              unfold loadE at h109
              split at h109
              · simp at h109
              · rename_i h1
                split at h109
                · simp at h109
                · rename_i h2; exact ⟨h1, by simpa using h2⟩
            obtain ⟨hcs, hlo⟩ := hcs
            have hlo2 : loadO bl = some (dload bl) := by unfold loadO; rw [if_neg hcs, hlo]; rfl
            rw [hlo2] at hs
            obtain ⟨b1, hpb, h9⟩ := hs.doSome
            subst hpb
            rw [rowsA_val] at h9
            replace hs := h9
            refine St_skip ?_
            refine Jm_seq ?_
            refine St_seq ?_
            refine St_seq ?_
            refine St_region ?_
            refine Ls_run (run_assign rfl) rfl ?_
            refine Ls_nil ?_
            refine Jm_seq ?_
            refine St_block ?_
            obtain ⟨En110, hEn110⟩ : ∃ F : Nat → Env, ∀ (i : Nat), F i = [(1, .slice A2 n2 c2), (20, .slice Ao n2 co), (22, .pointer (some ⟨b1, 0, none⟩)), (23, .int .i64 (i : Int))] := ⟨(fun (i : Nat) => [(1, .slice A2 n2 c2), (20, .slice Ao n2 co), (22, .pointer (some ⟨b1, 0, none⟩)), (23, .int .i64 (i : Int))]), fun _ => rfl⟩
            obtain ⟨Iv111, hIv111⟩ : ∃ F : Nat → World → Prop, ∀ (i : Nat) (wr5 : World), F i wr5 = (∃ xss, Sat w wr5 ([DiskA 85 31 5 b1 (dload bl), Own 31 1 (.slice Ao n2 co) n2 (El.val.flat ws)] ++ rowsA 5 El.val ws xss) ∧ i ≤ n2 ∧ xss.length = n2 ∧ ∀ x ∈ xss, AllU8 x) := ⟨(fun (i : Nat) => fun (wr5 : World) => ∃ xss, Sat w wr5 ([DiskA 85 31 5 b1 (dload bl), Own 31 1 (.slice Ao n2 co) n2 (El.val.flat ws)] ++ rowsA 5 El.val ws xss) ∧ i ≤ n2 ∧ xss.length = n2 ∧ ∀ x ∈ xss, AllU8 x), fun _ _ => rfl⟩
            obtain ⟨ms112, hms112⟩ : ∃ F : Nat → Nat, ∀ (i : Nat), F i = (n2 - i) := ⟨(fun (i : Nat) => n2 - i), fun _ => rfl⟩
            refine St_loop En110 Iv111 ms112 (0) ?_ ?_ ?_
            · skip
              rw [hIv111]
              exact ⟨bl.map bytesV, hs, by omega, by rw [List.length_map]; exact hbl, fun x hx => by obtain ⟨y, _, rfl⟩ := List.mem_map.1 hx; exact AllU8.bytes y⟩
            · rw [hEn110]; exact (subE_cons rfl (subE_cons rfl (subE_cons rfl (subE_cons rfl subE_nil))))
            rintro i wr5 hI113
            rw [hIv111] at hI113
            obtain ⟨xss, hs, hi, hxl, hxa⟩ := hI113
            refine St_eqE (hEn110 _) ?_
            refine St_seq ?_
            refine St_seq ?_
            refine St_region ?_
            refine Ls_run (run_move rfl) rfl ?_
            refine Ls_run (run_move rfl) rfl ?_
            refine Ls_run (run_len Try.underlying28 rfl) rfl ?_
            refine Ls_run (run_lss rfl rfl) rfl ?_
            refine Ls_nil ?_
            refine Jm_seq ?_
            refine St_ifP rfl (fun h114 => ?_) (fun h114 => ?_)
            · skip
              refine St_skip ?_
              refine Jm_seq ?_
              refine St_seq ?_
              refine St_block ?_
              refine St_seq ?_
              refine St_region ?_
              refine Ls_run (run_assign rfl) rfl ?_
              refine Ls_nil ?_
              refine Jm_seq ?_
              refine St_block ?_
              obtain ⟨ni, hni0⟩ : ∃ q, q = (xss.getD i []).length := ⟨_, rfl⟩
              obtain ⟨En115, hEn115⟩ : ∃ F : Nat → Env, ∀ (k : Nat), F k = [(1, .slice A2 n2 c2), (20, .slice Ao n2 co), (22, .pointer (some ⟨b1, 0, none⟩)), (23, .int .i64 (i : Int)), (24, .int .i64 (k : Int))] := ⟨(fun (k : Nat) => [(1, .slice A2 n2 c2), (20, .slice Ao n2 co), (22, .pointer (some ⟨b1, 0, none⟩)), (23, .int .i64 (i : Int)), (24, .int .i64 (k : Int))]), fun _ => rfl⟩
              obtain ⟨Iv116, hIv116⟩ : ∃ F : Nat → World → Prop, ∀ (k : Nat) (wr6 : World), F k wr6 = (∃ yss, Sat w wr6 ([DiskA 85 31 5 b1 (dload bl), Own 31 1 (.slice Ao n2 co) n2 (El.val.flat ws)] ++ rowsA 5 El.val ws yss) ∧ k ≤ ni ∧ yss.length = n2 ∧ (∀ x ∈ yss, AllU8 x) ∧ (yss.getD i []).length = ni) := ⟨(fun (k : Nat) => fun (wr6 : World) => ∃ yss, Sat w wr6 ([DiskA 85 31 5 b1 (dload bl), Own 31 1 (.slice Ao n2 co) n2 (El.val.flat ws)] ++ rowsA 5 El.val ws yss) ∧ k ≤ ni ∧ yss.length = n2 ∧ (∀ x ∈ yss, AllU8 x) ∧ (yss.getD i []).length = ni), fun _ _ => rfl⟩
              obtain ⟨ms117, hms117⟩ : ∃ F : Nat → Nat, ∀ (k : Nat), F k = (ni - k) := ⟨(fun (k : Nat) => ni - k), fun _ => rfl⟩
              refine St_loop En115 Iv116 ms117 (0) ?_ ?_ ?_
              · skip
                rw [hIv116]
                exact ⟨xss, hs, by omega, hxl, hxa, hni0.symm⟩
              · rw [hEn115]; exact (subE_cons rfl (subE_cons rfl (subE_cons rfl (subE_cons rfl (subE_cons rfl subE_nil)))))
              rintro k wr6 hI118
              rw [hIv116] at hI118
              obtain ⟨yss, hs, hk, hyl, hya, hyn⟩ := hI118
              refine St_eqE (hEn115 _) ?_
              have hwx : ws.length = yss.length := by omega
              obtain ⟨Aj, nj, cj, hvj, hrj⟩ := (Sat.parts (pre := [_, _]) hs hwx).2 i (by omega)
              have hnj : nj = ni := by have := hrj.len; rw [El.flat_length] at this; simp only [El.val, Nat.mul_one] at this; omega
              subst hnj
              obtain ⟨_, cq, _, hq1, hq2, _⟩ := (Sat.row_out (pre := [_, _]) i hs hwx (by omega)).own_form
              have hq3 : nj ≤ 9223372036854775807 := by have e : maxLen = 9223372036854775807 := rfl; omega
              refine St_seq ?_
              refine St_seq ?_
              refine St_region ?_
              refine Ls_run (run_move rfl) rfl ?_
              refine Ls_run (run_move rfl) rfl ?_
              refine Ls_run (run_move rfl) rfl ?_
              refine Ls_index (El.val) (hs.rd_at 1 rfl) Try.underlying28 inf31 rfl rfl (by omega) (by omega) hvj rfl ?_
              intro b119 o120 hc121
              refine Ls_run (run_load sc31 rfl (hc121 0 _ rfl)) rfl ?_
              refine Ls_run (run_len Try.underlying31 rfl) rfl ?_
              refine Ls_run (run_lss rfl rfl) rfl ?_
              refine Ls_nil ?_
              refine Jm_seq ?_
              refine St_ifP rfl (fun h122 => ?_) (fun h122 => ?_)
              · skip
                refine St_skip ?_
                refine Jm_seq ?_
                refine St_seq ?_
                refine St_block ?_
                refine St_drawC 14 (fun x => Below wr6.heap.size wr6 x) mixed ?_
                intro w123 q124
                have hH := q124.below
                replace hs := hs.quiet q124
                refine AnC_grow hH ?_
                replace hH := Below.refl w123.heap.size w123
                replace hs := Sat.row_out (pre := [_, _]) i hs hwx (by omega)
                rw [hvj, hyn] at hs
                simp only [List.cons_append, List.nil_append] at hs
                refine AnC_takeP 0 (by kernel_rfl) rfl (by kernel_rfl) (by kernel_rfl) (by kernel_rfl) (fun _ _ _ h => h) (fun _ => hH) (fun x => run_move rfl) rfl ?_
                refine AnC_takeP 1 (by kernel_rfl) rfl (by kernel_rfl) (by kernel_rfl) (by kernel_rfl) (fun _ _ _ h => h) (fun _ => hH) (fun x => run_move rfl) rfl ?_
                refine AnC_index 2 [14, 2] (El.val) rfl (by kernel_rfl) (by kernel_rfl) (by kernel_rfl) (by kernel_rfl) (fun _ _ _ _ h => h) hH (fun x hx => ((hs.rd_at 2 rfl).grow hx)) Try.underlying28 inf31 rfl rfl (by omega) (by omega) hvj rfl ?_
                intro b125 o126 hc127
                refine AnC_take 3 [14, 3] rfl (by kernel_rfl) (by kernel_rfl) (by kernel_rfl) (by kernel_rfl) (fun _ _ _ h => h) hH (fun x hx => run_load sc31 rfl ((hc127 x hx) 0 _ rfl)) rfl ?_
                refine AnC_takeP 4 (by kernel_rfl) rfl (by kernel_rfl) (by kernel_rfl) (by kernel_rfl) (fun _ _ _ h => h) (fun _ => hH) (fun x => run_move rfl) rfl ?_
                refine AnC_takeP 5 (by kernel_rfl) rfl (by kernel_rfl) (by kernel_rfl) (by kernel_rfl) (fun _ _ _ h => h) (fun _ => hH) (fun x => run_move rfl) rfl ?_
                refine AnC_takeP 6 (by kernel_rfl) rfl (by kernel_rfl) (by kernel_rfl) (by kernel_rfl) (fun _ _ _ h => h) (fun _ => hH) (fun x => run_move rfl) rfl ?_
                refine AnC_index 7 [14, 7] (El.val) rfl (by kernel_rfl) (by kernel_rfl) (by kernel_rfl) (by kernel_rfl) (fun _ _ _ _ h => h) hH (fun x hx => ((hs.rd_at 2 rfl).grow hx)) Try.underlying28 inf31 rfl rfl (by omega) (by omega) hvj rfl ?_
                intro b128 o129 hc130
                refine AnC_take 8 [14, 8] rfl (by kernel_rfl) (by kernel_rfl) (by kernel_rfl) (by kernel_rfl) (fun _ _ _ h => h) hH (fun x hx => run_load sc31 rfl ((hc130 x hx) 0 _ rfl)) rfl ?_
                refine AnC_takeP 9 (by kernel_rfl) rfl (by kernel_rfl) (by kernel_rfl) (by kernel_rfl) (fun _ _ _ h => h) (fun _ => hH) (fun x => run_move rfl) rfl ?_
                have hlyr := (hs.rd_at 0 rfl).len
                simp only [El.val_flat, Nat.mul_one] at hlyr
                obtain ⟨x3, hx3⟩ := (show AllU8 (yss.getD i []) from hya _ (getElem_mem3 (by omega))).at (i := k) (by omega)
                refine AnC_index 10 [14, 10] (El.val) rfl (by kernel_rfl) (by kernel_rfl) (by kernel_rfl) (by kernel_rfl) (fun _ _ _ _ h => h) hH (fun x hx => ((hs.rd_at 0 rfl).grow hx)) Try.underlying31 inf5 rfl rfl (by omega) (by omega) hx3 rfl ?_
                intro b131 o132 hc133
                refine AnC_take 11 [14, 11] rfl (by kernel_rfl) (by kernel_rfl) (by kernel_rfl) (by kernel_rfl) (fun _ _ _ h => h) hH (fun x hx => run_load sc5 rfl ((hc133 x hx) 0 _ rfl)) rfl ?_
                refine AnC_takeP 12 (by kernel_rfl) rfl (by kernel_rfl) (by kernel_rfl) (by kernel_rfl) (fun _ _ _ h => h) (fun _ => hH) (fun x => run_bits (by simp) rfl rfl rfl) rfl ?_
                obtain ⟨gr, rfl⟩ := (hs.front 0 rfl).own_addr (by omega)
                refine AnC_takeP 13 (by kernel_rfl) rfl (by kernel_rfl) (by kernel_rfl) (by kernel_rfl) (fun _ _ _ h => h) (fun _ => hH) (fun x => run_index Try.underlying31 inf5 rfl rfl rfl (by omega) (by omega)) rfl ?_
                refine AnC_only 14 (by kernel_rfl) rfl ?_
                refine Ls_storeOwn hs inf5 rfl rfl rfl (by omega) ?_
                intro w134 hs
                refine Ls_nil (Jm_AnC_closed (by kernel_rfl) ?_)
                refine AnC_switch (H' := fun x => Below w134.heap.size w134 x) 15 (by kernel_rfl) ?_
                replace hH := Below.refl w134.heap.size w134
                refine AnC_done (by kernel_rfl) ?_
                refine Jm_block_normal (Jm_seq ?_)
                refine St_region ?_
                replace hs := hs.front 2 rfl
                simp only [List.cons_append, List.nil_append, List.eraseIdx_cons_zero, List.eraseIdx_cons_succ] at hs
                replace hs := hs.front 2 rfl
                simp only [List.cons_append, List.nil_append, List.eraseIdx_cons_zero, List.eraseIdx_cons_succ] at hs
                replace hs := hs.front 2 rfl
                simp only [List.cons_append, List.nil_append, List.eraseIdx_cons_zero, List.eraseIdx_cons_succ] at hs
                replace hs := Sat.row_put (pre := [_, _]) hs hvj hyn hwx (by omega)
                refine Ls_run (run_move rfl) rfl ?_
                refine Ls_run (run_add rfl rfl (w64 (by omega))) rfl ?_
                refine Ls_run (run_assign rfl) rfl ?_
                refine Ls_nil ?_
                refine Jm_round (k + 1) ?_ ?_ ?_
                · rw [hEn115]; exact (subE_cons rfl (subE_cons rfl (subE_cons rfl (subE_cons rfl (subE_cons rfl subE_nil)))))
                · skip
                  rw [hIv116]
                  refine ⟨_, hs, by omega, by rw [List.length_set]; exact hyl, ?_, ?_⟩
                  · intro x hx; rcases List.mem_or_eq_of_mem_set hx with h9 | rfl
                    · exact hya x h9
                    · exact (hya _ (getElem_mem3 (by omega))).put _ _
                  · rw [getD_set_same (by omega), List.length_set]; exact hyn
                · skip
                  rw [hms117, hms117]
                  omega
              · skip
                refine St_exit ?_
                refine Jm_then_exit (Jm_then_exit (Jm_block_same (Jm_block_normal (Jm_seq ?_))))
                refine St_region ?_
                refine Ls_run (run_move rfl) rfl ?_
                refine Ls_run (run_add rfl rfl (w64 (by omega))) rfl ?_
                refine Ls_run (run_assign rfl) rfl ?_
                refine Ls_nil ?_
                refine Jm_round (i + 1) ?_ ?_ ?_
                · rw [hEn110]; exact (subE_cons rfl (subE_cons rfl (subE_cons rfl (subE_cons rfl subE_nil))))
                · skip
                  rw [hIv111]
                  exact ⟨yss, hs, by omega, hyl, hya⟩
                · skip
                  rw [hms112, hms112]
                  omega
            · skip
              refine St_exit ?_
              refine Jm_then_exit (Jm_then_exit (Jm_block_same (Jm_seq ?_)))
              refine St_seq ?_
              refine St_region ?_
              refine Ls_run (run_move rfl) rfl ?_
              refine Ls_call Try.func21 nm21 rfl rfl (Image_c w wr5 _ b1 (dload bl) hs (dlong_ok hlo) (by show bl.length ≤ 64; omega)) rfl ?_
              rintro v135 w136 ⟨Ai, ci, vi, rfl, hvi, hs⟩
              replace hs := Sat.toKeep (F := fun w => Rd w Ai bl.length ci 1 (El.val.flat vi) ∧ PartsK (El.int .u8) w vi bl) (fun B w q => ⟨q.rd_at 0 rfl, Sat.parts (pre := [_]) q hvi⟩) hs
              refine Ls_run (run_move rfl) rfl ?_
              refine Ls_call Try.func20 nm20 rfl rfl (images_c w136 _ _ _ vi bl _ _ _ vs bl ((hs.kept 0 rfl).1) (hr2.inB hs) (hs.kept 0 rfl).2 (hp.inB hs) hba hba (show bl.length ≤ _ by omega)) rfl ?_
              rintro v137 w138 ⟨rfl, hsI⟩
              replace hs := hs.trans hsI
              simp only [List.nil_append] at hs
              rw [decide_eq_true (rfl : bl = bl)]
              refine Ls_run (run_assign rfl) rfl ?_
              refine Ls_nil ?_
              refine Jm_seq ?_
              refine St_ret ?_
              refine Jm_ret1 rfl rfl ?_
              exact ⟨_, rfl, rfl, hs.below⟩
end Go.Proofs.Ytpmkedgennnekaa.Lg
