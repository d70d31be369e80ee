/-
  The law MsgMemory, walked. By program (gen/msg7m.py).
-/
import Derived.Test.YtipkfdeiallifaaMsg7
set_option linter.unusedVariables false
set_option linter.unusedSimpArgs false
namespace Go.Proofs.Ytipkfdeiallifaa.Lg
open Go Go.RowKit Go.Proofs.Ytipkfdeiallifaa.WirePure
theorem flatI_take {k : IntKind} {l m : List Int} {n : Nat} (h : l.length = n) : ((El.int k).flat (l ++ m)).take (n * 1) = (El.int k).flat l := by
  subst h
  rw [Nat.mul_one, show (El.int k).flat (l ++ m) = (El.int k).flat l ++ (El.int k).flat m from by simp [El.flat]]
  exact List.take_left' (by rw [El.flat_length]; exact Nat.mul_one _)
theorem flatP_take {l m : List Pr} {n : Nat} (h : l.length = n) : (KP.flat (l ++ m)).take (n * 3) = KP.flat l := by
  subst h
  rw [show KP.flat (l ++ m) = KP.flat l ++ KP.flat m from by simp [El.flat]]
  exact List.take_left' (by rw [El.flat_length]; rfl)
theorem getD_end {α : Type} {l m : List α} {d a : α} {n : Nat} (h : l.length = n) : (l ++ a :: m).getD n d = a := by
  subst h; simp [List.getD_eq_getElem?_getD]
theorem flatI_one {k : IntKind} (l : List Int) : ∀ u ∈ (El.int k).flat l, u.oneCell' = true := by
  intro u hu; rw [El.int_flat] at hu; obtain ⟨x, _, rfl⟩ := List.mem_map.1 hu; rfl
theorem flatKP_one (l : List Pr) : ∀ u ∈ KP.flat l, u.oneCell' = true := by
  intro u hu
  obtain ⟨y, _, hy⟩ := List.mem_flatMap.1 hu
  simp only [KP, List.mem_cons, List.not_mem_nil, or_false] at hy
  rcases hy with rfl | rfl | rfl <;> rfl
theorem flatI_app (k : IntKind) (l m : List Int) : (El.int k).flat (l ++ m) = (El.int k).flat l ++ (El.int k).flat m := by simp [El.flat]
theorem flatKP_app (l m : List Pr) : KP.flat (l ++ m) = KP.flat l ++ KP.flat m := by simp [El.flat]
set_option maxRecDepth 100000 in
set_option maxHeartbeats 1000000 in
theorem MsgMemory_c (w : World) (x : MC) (p : MP) (hm : MRd w x p) (hze : p.en ≤ 9223372036854775807) (hzk : p.kn ≤ 9223372036854775807) (hzp : p.pn ≤ 9223372036854775807) (hin : MIn x) (hbe : p.en * 8 + 16 ≤ 140737488355328) (hbk : p.kn * 8 + 16 ≤ 140737488355328) (hbp : p.pn * 24 + 48 ≤ 140737488355328) :
    Calls Try.prog 8 [.agg #[.int .i64 x.k, .int .i64 x.f, .int .i64 x.t, .int .i64 x.b, .int .i64 x.a, .int .i64 x.c, .slice p.eA p.en p.ec, .slice p.kA p.kn p.kc, .slice p.pA p.pn p.pc]].toArray w (Ret (fun v' w' => v' = .bool true ∧ Below w.heap.size w w')) := by
  have hs := Sat.start w
  have hen := hm.en
  have hkn := hm.kn
  have hpn := hm.pn
  have hmr := mof_range x.k
  refine Calls_body Try.func8 rfl rfl rfl (envE_cons (i := 0) (v := .agg #[.int .i64 x.k, .int .i64 x.f, .int .i64 x.t, .int .i64 x.b, .int .i64 x.a, .int .i64 x.c, .slice p.eA p.en p.ec, .slice p.kA p.kn p.kc, .slice p.pA p.pn p.pc]) rfl envE_nil) ?_
  refine St_seq ?_
  refine St_region ?_
  refine Ls_box hs rfl rfl ?_
  intro b2 w1 hs
  refine Ls_run (run_assign rfl) rfl ?_
  refine Ls_nil ?_
  refine Jm_seq ?_
  refine St_seq ?_
  refine St_seq ?_
  refine St_region ?_
  refine Ls_call Try.func15 nm15 rfl rfl (mawake_c w1) rfl ?_
  rintro v3 w4 ⟨rfl, hsA5⟩
  replace hs := hs.trans hsA5
  simp only [List.nil_append, List.cons_append] at hs
  refine Ls_run (run_not rfl) rfl ?_
  refine Ls_nil ?_
  refine Jm_seq ?_
  refine St_iff rfl ?_
  refine St_skip ?_
  refine Jm_seq ?_
  refine St_seq ?_
  refine St_region ?_
  refine Ls_run (run_as (run_load_agg agg26 inf26 rfl rfl (hs.blk_cells 0 rfl 0 9)) (show _ = Value.agg #[.int .i64 x.k, .int .i64 x.f, .int .i64 x.t, .int .i64 x.b, .int .i64 x.a, .int .i64 x.c, .slice p.eA p.en p.ec, .slice p.kA p.kn p.kc, .slice p.pA p.pn p.pc] from rfl)) rfl ?_
  refine Ls_alloc hs inf26 rfl ?_
  intro b8 w7 hs
  refine Ls_storeAgg hs inf26 rfl rfl rfl rfl (by simp [KP, Value.oneCell']) ?_
  intro w9 hs
  refine Ls_nil ?_
  refine Jm_seq ?_
  refine St_seq ?_
  refine St_region ?_
  refine Ls_run (run_as (run_field Try.underlying26 rfl inf22 (by decide) rfl) (show _ = Value.pointer (some ⟨b2, 6, none⟩) from rfl)) rfl ?_
  refine Ls_run (run_load sc22 rfl (hs.blk_at 1 rfl 6 rfl)) rfl ?_
  refine Ls_run (run_len Try.underlying22 rfl) rfl ?_
  refine Ls_run (run_add rfl rfl (show _ = ((p.en + 2 : Nat) : Int) by rw [w64 (by omega)]; omega)) rfl ?_
  refine Ls_make0 (m := (p.en + 2)) hs Try.underlying22 inf3 (by decide) rfl rfl (by omega) (by omega) rfl ?_
  intro b10 w11 hs
  refine Ls_run (run_assign rfl) rfl ?_
  refine Ls_nil ?_
  refine Jm_seq ?_
  refine St_seq ?_
  refine St_region ?_
  refine Ls_run (run_move rfl) rfl ?_
  refine Ls_run (run_as (run_field Try.underlying26 rfl inf22 (by decide) rfl) (show _ = Value.pointer (some ⟨b2, 6, none⟩) from rfl)) rfl ?_
  refine Ls_run (run_load sc22 rfl (hs.blk_at 2 rfl 6 rfl)) rfl ?_
  refine Ls_append hs Try.underlying22 inf3 rfl (by decide) (by decide) rfl rfl (hm.e.inB hs) (flatI_one _) (by omega) rfl ?_
  intro A12 c13 w14 hs
  refine Ls_run (run_assign rfl) rfl ?_
  refine Ls_nil ?_
  refine Jm_seq ?_
  refine St_seq ?_
  refine St_region ?_
  refine Ls_run (run_move rfl) rfl ?_
  refine Ls_literal [_, _] hs Try.underlying22 inf3 rfl rfl rfl rfl rfl rfl ?_
  intro b15 w16 hs
  simp only [List.flatMap_cons, List.flatMap_nil, Value.cells, List.cons_append, List.nil_append] at hs
  replace hs := hs.front 1 rfl
  simp only [List.cons_append, List.nil_append, List.eraseIdx_cons_zero, List.eraseIdx_cons_succ] at hs
  refine Ls_append hs Try.underlying22 inf3 rfl (by decide) (by decide) rfl rfl (rd_block (hs.is_at 1 rfl).2 1 2 rfl) (by simp [Value.oneCell']) (by omega) rfl ?_
  intro A17 c18 w19 hs
  replace hs := hs.erase 1
  simp only [List.cons_append, List.nil_append, List.eraseIdx_cons_zero, List.eraseIdx_cons_succ] at hs
  try simp only [List.nil_append, List.cons_append] at hs
  rw [show ((El.int .i64).flat x.es ++ [Value.int .i64 71, .int .i64 72] : List Value) = (El.int .i64).flat (x.es ++ [71, 72]) from by rw [flatI_app]; rfl] at hs
  refine Ls_run (run_assign rfl) rfl ?_
  refine Ls_nil ?_
  refine Jm_seq ?_
  refine St_seq ?_
  refine St_region ?_
  refine Ls_run (run_as (run_field Try.underlying26 rfl inf23 (by decide) rfl) (show _ = Value.pointer (some ⟨b2, 7, none⟩) from rfl)) rfl ?_
  refine Ls_run (run_load sc23 rfl (hs.blk_at 2 rfl 7 rfl)) rfl ?_
  refine Ls_run (run_len Try.underlying23 rfl) rfl ?_
  refine Ls_run (run_add rfl rfl (show _ = ((p.kn + 2 : Nat) : Int) by rw [w64 (by omega)]; omega)) rfl ?_
  refine Ls_make0 (m := (p.kn + 2)) hs Try.underlying23 inf38 (by decide) rfl rfl (by omega) (by omega) rfl ?_
  intro b20 w21 hs
  refine Ls_run (run_assign rfl) rfl ?_
  refine Ls_nil ?_
  refine Jm_seq ?_
  refine St_seq ?_
  refine St_region ?_
  refine Ls_run (run_move rfl) rfl ?_
  refine Ls_run (run_as (run_field Try.underlying26 rfl inf23 (by decide) rfl) (show _ = Value.pointer (some ⟨b2, 7, none⟩) from rfl)) rfl ?_
  refine Ls_run (run_load sc23 rfl (hs.blk_at 3 rfl 7 rfl)) rfl ?_
  refine Ls_append hs Try.underlying23 inf38 rfl (by decide) (by decide) rfl rfl (hm.k.inB hs) (flatI_one _) (by omega) rfl ?_
  intro A22 c23 w24 hs
  refine Ls_run (run_assign rfl) rfl ?_
  refine Ls_nil ?_
  refine Jm_seq ?_
  refine St_seq ?_
  refine St_region ?_
  refine Ls_run (run_move rfl) rfl ?_
  refine Ls_literal [_, _] hs Try.underlying23 inf38 rfl rfl rfl rfl rfl rfl ?_
  intro b25 w26 hs
  simp only [List.flatMap_cons, List.flatMap_nil, Value.cells, List.cons_append, List.nil_append] at hs
  replace hs := hs.front 1 rfl
  simp only [List.cons_append, List.nil_append, List.eraseIdx_cons_zero, List.eraseIdx_cons_succ] at hs
  refine Ls_append hs Try.underlying23 inf38 rfl (by decide) (by decide) rfl rfl (rd_block (hs.is_at 1 rfl).2 1 2 rfl) (by simp [Value.oneCell']) (by omega) rfl ?_
  intro A27 c28 w29 hs
  replace hs := hs.erase 1
  simp only [List.cons_append, List.nil_append, List.eraseIdx_cons_zero, List.eraseIdx_cons_succ] at hs
  try simp only [List.nil_append, List.cons_append] at hs
  rw [show ((El.int .u64).flat x.ks ++ [Value.int .u64 73, .int .u64 74] : List Value) = (El.int .u64).flat (x.ks ++ [73, 74]) from by rw [flatI_app]; rfl] at hs
  refine Ls_run (run_assign rfl) rfl ?_
  refine Ls_nil ?_
  refine Jm_seq ?_
  refine St_seq ?_
  refine St_region ?_
  refine Ls_run (run_as (run_field Try.underlying26 rfl inf24 (by decide) rfl) (show _ = Value.pointer (some ⟨b2, 8, none⟩) from rfl)) rfl ?_
  refine Ls_run (run_load sc24 rfl (hs.blk_at 3 rfl 8 rfl)) rfl ?_
  refine Ls_run (run_len Try.underlying24 rfl) rfl ?_
  refine Ls_run (run_add rfl rfl (show _ = ((p.pn + 2 : Nat) : Int) by rw [w64 (by omega)]; omega)) rfl ?_
  refine Ls_make0 (m := (p.pn + 2)) hs Try.underlying24 inf42 (by decide) rfl rfl (by omega) (by omega) rfl ?_
  intro b30 w31 hs
  refine Ls_run (run_assign rfl) rfl ?_
  refine Ls_nil ?_
  refine Jm_seq ?_
  refine St_seq ?_
  refine St_region ?_
  refine Ls_run (run_move rfl) rfl ?_
  refine Ls_run (run_as (run_field Try.underlying26 rfl inf24 (by decide) rfl) (show _ = Value.pointer (some ⟨b2, 8, none⟩) from rfl)) rfl ?_
  refine Ls_run (run_load sc24 rfl (hs.blk_at 4 rfl 8 rfl)) rfl ?_
  refine Ls_append hs Try.underlying24 inf42 rfl (by decide) (by decide) rfl rfl (hm.p.inB hs) (flatKP_one _) (by omega) rfl ?_
  intro A32 c33 w34 hs
  refine Ls_run (run_assign rfl) rfl ?_
  refine Ls_nil ?_
  refine Jm_seq ?_
  refine St_seq ?_
  refine St_region ?_
  refine Ls_run (run_move rfl) rfl ?_
  refine Ls_run (run_buildO (pv := [(0, _)]) rfl (bld42_0 _)) rfl ?_
  refine Ls_run (run_buildO (pv := [(0, _)]) rfl (bld42_0 _)) rfl ?_
  refine Ls_literal [_, _] hs Try.underlying24 inf42 rfl rfl rfl rfl rfl rfl ?_
  intro b35 w36 hs
  simp only [List.flatMap_cons, List.flatMap_nil, Value.cells, List.cons_append, List.nil_append] at hs
  replace hs := hs.front 1 rfl
  simp only [List.cons_append, List.nil_append, List.eraseIdx_cons_zero, List.eraseIdx_cons_succ] at hs
  refine Ls_append hs Try.underlying24 inf42 rfl (by decide) (by decide) rfl rfl (rd_block (hs.is_at 1 rfl).2 3 2 rfl) (by simp [Value.oneCell']) (by omega) rfl ?_
  intro A37 c38 w39 hs
  replace hs := hs.erase 1
  simp only [List.cons_append, List.nil_append, List.eraseIdx_cons_zero, List.eraseIdx_cons_succ] at hs
  try simp only [List.nil_append, List.cons_append] at hs
  rw [show (KP.flat x.ps ++ [Value.int .u64 75, .bool false, .int .u64 0, .int .u64 76, .bool false, .int .u64 0] : List Value) = KP.flat (x.ps ++ [(75, false, 0), (76, false, 0)]) from by rw [flatKP_app]; rfl] at hs
  refine Ls_run (run_assign rfl) rfl ?_
  refine Ls_nil ?_
  refine Jm_seq ?_
  refine St_seq ?_
  refine St_region ?_
  have hc31 := (hs.rd_at 2 rfl).cap
  refine Ls_run (run_move rfl) rfl ?_
  refine Ls_run (run_as (run_field Try.underlying26 rfl inf22 (by decide) rfl) (show _ = Value.pointer (some ⟨b2, 6, none⟩) from rfl)) rfl ?_
  refine Ls_run (run_load sc22 rfl (hs.blk_at 4 rfl 6 rfl)) rfl ?_
  refine Ls_run (run_len Try.underlying22 rfl) rfl ?_
  refine Ls_run (run_as (run_slice_h Try.underlying22 inf3 rfl rfl (by omega) (by omega)) (show _ = Value.slice _ p.en _ from rfl)) rfl ?_
  refine Ls_run (run_as (run_field Try.underlying26 rfl inf22 (by decide) rfl) (show _ = Value.pointer (some ⟨b8, 6, none⟩) from rfl)) rfl ?_
  replace hs := hs.front 3 rfl
  simp only [List.cons_append, List.nil_append, List.eraseIdx_cons_zero, List.eraseIdx_cons_succ] at hs
  refine Ls_store hs inf22 rfl rfl rfl rfl ?_
  intro w40 hs
  try simp only [List.set_cons_zero, List.set_cons_succ] at hs
  refine Ls_nil ?_
  refine Jm_seq ?_
  refine St_seq ?_
  refine St_region ?_
  have hc43 := (hs.rd_at 2 rfl).cap
  refine Ls_run (run_move rfl) rfl ?_
  refine Ls_run (run_as (run_field Try.underlying26 rfl inf23 (by decide) rfl) (show _ = Value.pointer (some ⟨b2, 7, none⟩) from rfl)) rfl ?_
  refine Ls_run (run_load sc23 rfl (hs.blk_at 4 rfl 7 rfl)) rfl ?_
  refine Ls_run (run_len Try.underlying23 rfl) rfl ?_
  refine Ls_run (run_as (run_slice_h Try.underlying23 inf38 rfl rfl (by omega) (by omega)) (show _ = Value.slice _ p.kn _ from rfl)) rfl ?_
  refine Ls_run (run_as (run_field Try.underlying26 rfl inf23 (by decide) rfl) (show _ = Value.pointer (some ⟨b8, 7, none⟩) from rfl)) rfl ?_
  refine Ls_store hs inf23 rfl rfl rfl rfl ?_
  intro w41 hs
  try simp only [List.set_cons_zero, List.set_cons_succ] at hs
  refine Ls_nil ?_
  refine Jm_seq ?_
  refine St_seq ?_
  refine St_region ?_
  have hc57 := (hs.rd_at 1 rfl).cap
  refine Ls_run (run_move rfl) rfl ?_
  refine Ls_run (run_as (run_field Try.underlying26 rfl inf24 (by decide) rfl) (show _ = Value.pointer (some ⟨b2, 8, none⟩) from rfl)) rfl ?_
  refine Ls_run (run_load sc24 rfl (hs.blk_at 4 rfl 8 rfl)) rfl ?_
  refine Ls_run (run_len Try.underlying24 rfl) rfl ?_
  refine Ls_run (run_as (run_slice_h Try.underlying24 inf42 rfl rfl (by omega) (by omega)) (show _ = Value.slice _ p.pn _ from rfl)) rfl ?_
  refine Ls_run (run_as (run_field Try.underlying26 rfl inf24 (by decide) rfl) (show _ = Value.pointer (some ⟨b8, 8, none⟩) from rfl)) rfl ?_
  refine Ls_store hs inf24 rfl rfl rfl rfl ?_
  intro w42 hs
  try simp only [List.set_cons_zero, List.set_cons_succ] at hs
  refine Ls_nil ?_
  refine Jm_seq ?_
  refine St_seq ?_
  refine St_region ?_
  refine Ls_run (run_as (run_load_agg agg26 inf26 rfl rfl (hs.blk_cells 0 rfl 0 9)) (show _ = Value.agg #[.int .i64 x.k, .int .i64 x.f, .int .i64 x.t, .int .i64 x.b, .int .i64 x.a, .int .i64 x.c, .slice (⟨A17, p.en, c18, A27, p.kn, c28, A37, p.pn, c38⟩ : MP).eA (⟨A17, p.en, c18, A27, p.kn, c28, A37, p.pn, c38⟩ : MP).en (⟨A17, p.en, c18, A27, p.kn, c28, A37, p.pn, c38⟩ : MP).ec, .slice (⟨A17, p.en, c18, A27, p.kn, c28, A37, p.pn, c38⟩ : MP).kA (⟨A17, p.en, c18, A27, p.kn, c28, A37, p.pn, c38⟩ : MP).kn (⟨A17, p.en, c18, A27, p.kn, c28, A37, p.pn, c38⟩ : MP).kc, .slice (⟨A17, p.en, c18, A27, p.kn, c28, A37, p.pn, c38⟩ : MP).pA (⟨A17, p.en, c18, A27, p.kn, c28, A37, p.pn, c38⟩ : MP).pn (⟨A17, p.en, c18, A27, p.kn, c28, A37, p.pn, c38⟩ : MP).pc] from rfl)) rfl ?_
  refine Ls_call Try.func16 nm16 rfl rfl (EncodeU_c w42 x (⟨A17, p.en, c18, A27, p.kn, c28, A37, p.pn, c38⟩ : MP) ⟨by have q := (hs.rd_at 3 rfl).take p.en (by omega); rw [flatI_take hen] at q; exact q, by have q := (hs.rd_at 2 rfl).take p.kn (by omega); rw [flatI_take hkn] at q; exact q, by have q := (hs.rd_at 1 rfl).take p.pn (by omega); rw [flatP_take hpn] at q; exact q⟩ hze hzk hzp hin ) rfl ?_
  rintro v43 w44 ⟨AE, cE, rfl, hsE⟩
  replace hs := hs.trans hsE
  simp only [List.nil_append, List.cons_append] at hs
  refine Ls_run (run_move rfl) rfl ?_
  refine Ls_run (run_extract rfl rfl) rfl ?_
  refine Ls_run (run_extract rfl rfl) rfl ?_
  refine Ls_run (run_assign rfl) rfl ?_
  refine Ls_run (run_assign rfl) rfl ?_
  refine Ls_nil ?_
  refine Jm_seq ?_
  refine St_seq ?_
  refine St_region ?_
  refine Ls_run (run_as (run_load_agg agg26 inf26 rfl rfl (hs.blk_cells 1 rfl 0 9)) (show _ = Value.agg #[.int .i64 x.k, .int .i64 x.f, .int .i64 x.t, .int .i64 x.b, .int .i64 x.a, .int .i64 x.c, .slice (⟨A17, p.en, c18, A27, p.kn, c28, A37, p.pn, c38⟩ : MP).eA (⟨A17, p.en, c18, A27, p.kn, c28, A37, p.pn, c38⟩ : MP).en (⟨A17, p.en, c18, A27, p.kn, c28, A37, p.pn, c38⟩ : MP).ec, .slice (⟨A17, p.en, c18, A27, p.kn, c28, A37, p.pn, c38⟩ : MP).kA (⟨A17, p.en, c18, A27, p.kn, c28, A37, p.pn, c38⟩ : MP).kn (⟨A17, p.en, c18, A27, p.kn, c28, A37, p.pn, c38⟩ : MP).kc, .slice (⟨A17, p.en, c18, A27, p.kn, c28, A37, p.pn, c38⟩ : MP).pA (⟨A17, p.en, c18, A27, p.kn, c28, A37, p.pn, c38⟩ : MP).pn (⟨A17, p.en, c18, A27, p.kn, c28, A37, p.pn, c38⟩ : MP).pc] from rfl)) rfl ?_
  refine Ls_call Try.func16 nm16 rfl rfl (EncodeU_c w44 x (⟨A17, p.en, c18, A27, p.kn, c28, A37, p.pn, c38⟩ : MP) ⟨by have q := (hs.rd_at 4 rfl).take p.en (by omega); rw [flatI_take hen] at q; exact q, by have q := (hs.rd_at 3 rfl).take p.kn (by omega); rw [flatI_take hkn] at q; exact q, by have q := (hs.rd_at 2 rfl).take p.pn (by omega); rw [flatP_take hpn] at q; exact q⟩ hze hzk hzp hin ) rfl ?_
  rintro v45 w46 ⟨AF, cF, rfl, hsF⟩
  replace hs := hs.trans hsF
  simp only [List.nil_append, List.cons_append] at hs
  refine Ls_run (run_move rfl) rfl ?_
  refine Ls_run (run_extract rfl rfl) rfl ?_
  refine Ls_run (run_extract rfl rfl) rfl ?_
  refine Ls_run (run_assign rfl) rfl ?_
  refine Ls_run (run_assign rfl) rfl ?_
  refine Ls_nil ?_
  refine Jm_seq ?_
  refine St_seq ?_
  refine St_seq ?_
  refine St_region ?_
  refine Ls_run (run_move rfl) rfl ?_
  refine Ls_run (run_move rfl) rfl ?_
  refine Ls_run (run_asB (c := false) (run_neq rfl rfl) (by simp)) rfl ?_
  refine Ls_run (run_move rfl) rfl ?_
  refine Ls_on rfl rfl ?_
  refine Ls_run (run_move rfl) rfl ?_
  refine Ls_on rfl rfl ?_
  refine Ls_run (run_string Try.underlying28 Try.underlying5 Try.underlying9 rfl (hs.rd_at 1 rfl)) rfl ?_
  refine Ls_on rfl rfl ?_
  refine Ls_run (run_move rfl) rfl ?_
  refine Ls_on rfl rfl ?_
  refine Ls_run (run_string Try.underlying28 Try.underlying5 Try.underlying9 rfl (hs.rd_at 0 rfl)) rfl ?_
  refine Ls_on rfl rfl ?_
  refine Ls_run (run_asB (c := false) (run_neq_str rfl rfl) (by simp)) rfl ?_
  refine Ls_run (run_pick_f rfl rfl) rfl ?_
  refine Ls_run (run_move rfl) rfl ?_
  refine Ls_on rfl rfl ?_
  refine Ls_run (run_as (run_load_agg agg26 inf26 rfl rfl (hs.blk_cells 2 rfl 0 9)) (show _ = Value.agg #[.int .i64 x.k, .int .i64 x.f, .int .i64 x.t, .int .i64 x.b, .int .i64 x.a, .int .i64 x.c, .slice (⟨A17, p.en, c18, A27, p.kn, c28, A37, p.pn, c38⟩ : MP).eA (⟨A17, p.en, c18, A27, p.kn, c28, A37, p.pn, c38⟩ : MP).en (⟨A17, p.en, c18, A27, p.kn, c28, A37, p.pn, c38⟩ : MP).ec, .slice (⟨A17, p.en, c18, A27, p.kn, c28, A37, p.pn, c38⟩ : MP).kA (⟨A17, p.en, c18, A27, p.kn, c28, A37, p.pn, c38⟩ : MP).kn (⟨A17, p.en, c18, A27, p.kn, c28, A37, p.pn, c38⟩ : MP).kc, .slice (⟨A17, p.en, c18, A27, p.kn, c28, A37, p.pn, c38⟩ : MP).pA (⟨A17, p.en, c18, A27, p.kn, c28, A37, p.pn, c38⟩ : MP).pn (⟨A17, p.en, c18, A27, p.kn, c28, A37, p.pn, c38⟩ : MP).pc] from rfl)) rfl ?_
  refine Ls_on rfl rfl ?_
  refine Ls_run (run_as (run_load_agg agg26 inf26 rfl rfl (hs.blk_cells 6 rfl 0 9)) (show _ = Value.agg #[.int .i64 x.k, .int .i64 x.f, .int .i64 x.t, .int .i64 x.b, .int .i64 x.a, .int .i64 x.c, .slice p.eA p.en p.ec, .slice p.kA p.kn p.kc, .slice p.pA p.pn p.pc] from rfl)) rfl ?_
  refine Ls_on rfl rfl ?_
  refine Ls_call Try.func22 nm22 rfl rfl (same_c w46 x (⟨A17, p.en, c18, A27, p.kn, c28, A37, p.pn, c38⟩ : MP) ⟨by have q := (hs.rd_at 5 rfl).take p.en (by omega); rw [flatI_take hen] at q; exact q, by have q := (hs.rd_at 4 rfl).take p.kn (by omega); rw [flatI_take hkn] at q; exact q, by have q := (hs.rd_at 3 rfl).take p.pn (by omega); rw [flatP_take hpn] at q; exact q⟩ hze hzk hzp x p (hm.inB hs)) rfl ?_
  rintro v47 w48 ⟨rfl, hsS⟩
  replace hs := hs.trans hsS
  simp only [List.nil_append, List.cons_append] at hs
  rw [decide_eq_true (rfl)]
  refine Ls_on rfl rfl ?_
  refine Ls_run (run_not rfl) rfl ?_
  refine Ls_run (run_pick_f rfl rfl) rfl ?_
  refine Ls_run (run_move rfl) rfl ?_
  refine Ls_on rfl rfl ?_
  refine Ls_run (run_move rfl) rfl ?_
  refine Ls_on rfl rfl ?_
  refine Ls_run (run_as (run_field Try.underlying26 rfl inf22 (by decide) rfl) (show _ = Value.pointer (some ⟨b2, 6, none⟩) from rfl)) rfl ?_
  refine Ls_on rfl rfl ?_
  refine Ls_run (run_load sc22 rfl (hs.blk_at 6 rfl 6 rfl)) rfl ?_
  refine Ls_on rfl rfl ?_
  refine Ls_run (run_len Try.underlying22 rfl) rfl ?_
  refine Ls_on rfl rfl ?_
  refine Ls_index (El.int .i64) (hs.rd_at 5 rfl) Try.underlying22 inf3 rfl rfl (by omega) (by omega) (getD_end hen) rfl ?_
  intro b49 o50 hc51
  refine Ls_on rfl rfl ?_
  refine Ls_run (run_load sc3 rfl (hc51 0 _ rfl)) rfl ?_
  refine Ls_on rfl rfl ?_
  refine Ls_run (run_asB (c := false) (run_neq rfl rfl) rfl) rfl ?_
  refine Ls_run (run_pick_f rfl rfl) rfl ?_
  refine Ls_run (run_move rfl) rfl ?_
  refine Ls_on rfl rfl ?_
  refine Ls_run (run_move rfl) rfl ?_
  refine Ls_on rfl rfl ?_
  refine Ls_run (run_as (run_field Try.underlying26 rfl inf23 (by decide) rfl) (show _ = Value.pointer (some ⟨b2, 7, none⟩) from rfl)) rfl ?_
  refine Ls_on rfl rfl ?_
  refine Ls_run (run_load sc23 rfl (hs.blk_at 6 rfl 7 rfl)) rfl ?_
  refine Ls_on rfl rfl ?_
  refine Ls_run (run_len Try.underlying23 rfl) rfl ?_
  refine Ls_on rfl rfl ?_
  refine Ls_index (El.int .u64) (hs.rd_at 4 rfl) Try.underlying23 inf38 rfl rfl (by omega) (by omega) (getD_end hkn) rfl ?_
  intro b52 o53 hc54
  refine Ls_on rfl rfl ?_
  refine Ls_run (run_load sc38 rfl (hc54 0 _ rfl)) rfl ?_
  refine Ls_on rfl rfl ?_
  refine Ls_run (run_asB (c := false) (run_neq rfl rfl) rfl) rfl ?_
  refine Ls_run (run_pick_f rfl rfl) rfl ?_
  refine Ls_run (run_move rfl) rfl ?_
  refine Ls_on rfl rfl ?_
  refine Ls_run (run_move rfl) rfl ?_
  refine Ls_on rfl rfl ?_
  refine Ls_run (run_as (run_field Try.underlying26 rfl inf24 (by decide) rfl) (show _ = Value.pointer (some ⟨b2, 8, none⟩) from rfl)) rfl ?_
  refine Ls_on rfl rfl ?_
  refine Ls_run (run_load sc24 rfl (hs.blk_at 6 rfl 8 rfl)) rfl ?_
  refine Ls_on rfl rfl ?_
  refine Ls_run (run_len Try.underlying24 rfl) rfl ?_
  refine Ls_on rfl rfl ?_
  refine Ls_index (KP) (hs.rd_at 3 rfl) Try.underlying24 inf42 rfl rfl (by omega) (by omega) (getD_end hpn) rfl ?_
  intro b55 o56 hc57
  refine Ls_on rfl rfl ?_
  refine Ls_run (run_load_agg agg42 inf42 rfl rfl hc57) rfl ?_
  refine Ls_on rfl rfl ?_
  refine Ls_run (run_buildO (pv := [(0, _)]) rfl (bld42_0 _)) rfl ?_
  refine Ls_on rfl rfl ?_
  refine Ls_run (run_asB (c := false) (run_neq_agg rfl rfl (by kernel_rfl) (eqs42 9997 _ _ _ _ _ _)) rfl) rfl ?_
  refine Ls_run (run_pick_f rfl rfl) rfl ?_
  refine Ls_nil ?_
  refine Jm_seq ?_
  refine St_iff rfl ?_
  refine St_skip ?_
  refine Jm_seq ?_
  refine St_seq ?_
  refine St_seq ?_
  refine St_region ?_
  refine Ls_run (run_move rfl) rfl ?_
  refine Ls_run (run_neq rfl rfl) rfl ?_
  refine Ls_nil ?_
  refine Jm_seq ?_
  refine St_ifP rfl (fun h59 => ?_) (fun h59 => ?_)
  · skip
    refine St_seq ?_
    refine St_region ?_
    refine Ls_run (run_assign rfl) rfl ?_
    refine Ls_nil ?_
    refine Jm_seq ?_
    refine St_ret ?_
    refine Jm_then_ret  ?_
    refine Jm_ret1 rfl rfl ?_
    exact ⟨_, rfl, rfl, hs.below⟩
  · skip
    have hso : Msound x := Decidable.not_not.1 (fun q => by simp [Merr, q] at *)
    have hou : Mout x = Menc x := by unfold Mout; rw [if_pos hso]
    have hbt := Menc_bytes x
    rw [hou] at hs ⊢
    refine St_skip ?_
    refine Jm_seq ?_
    refine St_seq ?_
    refine St_region ?_
    refine Ls_run (run_move rfl) rfl ?_
    refine Ls_call Try.func20 nm20 rfl rfl (Decode_c w48 _ _ _ (Menc x) (hs.rd_at 1 rfl) hbt (hs.own_le 1 rfl)) rfl ?_
    rintro v60 w61 ⟨⟨eAD, enD, ecD, kAD, knD, kcD, pAD, pnD, pcD⟩, rfl, hsD⟩
    obtain ⟨yD, eD, hMD⟩ : ∃ y e, Mdec (Menc x) = (y, e) := ⟨_, _, rfl⟩
    rw [hMD] at hsD ⊢
    replace hs := hs.trans hsD
    simp only [List.nil_append, List.cons_append] at hs
    have hq9 := Mdec_back hso hin []
    rw [List.append_nil, hMD, if_pos (show ([] : List Int).length = 0 from rfl), Prod.mk.injEq] at hq9
    obtain ⟨hyx, rfl⟩ := hq9
    replace hyx := hyx.symm
    subst hyx
    refine Ls_run (run_move rfl) rfl ?_
    refine Ls_run (run_extract rfl rfl) rfl ?_
    refine Ls_run (run_extract rfl rfl) rfl ?_
    refine Ls_alloc hs inf26 rfl ?_
    intro b63 w62 hs
    refine Ls_storeAgg hs inf26 rfl rfl rfl rfl (by simp [KP, Value.oneCell']) ?_
    intro w65 hs
    refine Ls_run (run_assign rfl) rfl ?_
    refine Ls_nil ?_
    refine Jm_seq ?_
    refine St_seq ?_
    refine St_region ?_
    refine Ls_run (run_move rfl) rfl ?_
    refine Ls_call Try.func20 nm20 rfl rfl (Decode_c w65 _ _ _ (Menc x) (hs.rd_at 5 rfl) hbt (hs.own_le 5 rfl)) rfl ?_
    rintro v66 w67 ⟨⟨eAG, enG, ecG, kAG, knG, kcG, pAG, pnG, pcG⟩, rfl, hsG⟩
    obtain ⟨yG, eG, hMG⟩ : ∃ y e, Mdec (Menc x) = (y, e) := ⟨_, _, rfl⟩
    rw [hMG] at hsG ⊢
    replace hs := hs.trans hsG
    simp only [List.nil_append, List.cons_append] at hs
    have hq9 := Mdec_back hso hin []
    rw [List.append_nil, hMG, if_pos (show ([] : List Int).length = 0 from rfl), Prod.mk.injEq] at hq9
    obtain ⟨hyx, rfl⟩ := hq9
    replace hyx := hyx.symm
    subst hyx
    refine Ls_run (run_move rfl) rfl ?_
    refine Ls_run (run_extract rfl rfl) rfl ?_
    refine Ls_run (run_extract rfl rfl) rfl ?_
    refine Ls_alloc hs inf26 rfl ?_
    intro b69 w68 hs
    refine Ls_storeAgg hs inf26 rfl rfl rfl rfl (by simp [KP, Value.oneCell']) ?_
    intro w70 hs
    refine Ls_run (run_assign rfl) rfl ?_
    refine Ls_nil ?_
    refine Jm_seq ?_
    refine St_seq ?_
    refine St_seq ?_
    refine St_region ?_
    refine Ls_run (run_assign rfl) rfl ?_
    refine Ls_nil ?_
    refine Jm_seq ?_
    refine St_block ?_
    replace hs := hs.erase 8
    simp only [List.cons_append, List.nil_append, List.eraseIdx_cons_zero, List.eraseIdx_cons_succ] at hs
    replace hs := hs.erase 9
    simp only [List.cons_append, List.nil_append, List.eraseIdx_cons_zero, List.eraseIdx_cons_succ] at hs
    replace hs := hs.erase 9
    simp only [List.cons_append, List.nil_append, List.eraseIdx_cons_zero, List.eraseIdx_cons_succ] at hs
    replace hs := hs.erase 9
    simp only [List.cons_append, List.nil_append, List.eraseIdx_cons_zero, List.eraseIdx_cons_succ] at hs
    replace hs := hs.erase 9
    simp only [List.cons_append, List.nil_append, List.eraseIdx_cons_zero, List.eraseIdx_cons_succ] at hs
    replace hs := hs.front 9 rfl
    simp only [List.cons_append, List.nil_append, List.eraseIdx_cons_zero, List.eraseIdx_cons_succ] at hs
    replace hs := hs.front 1 rfl
    simp only [List.cons_append, List.nil_append, List.eraseIdx_cons_zero, List.eraseIdx_cons_succ] at hs
    replace hs := hs.front 5 rfl
    simp only [List.cons_append, List.nil_append, List.eraseIdx_cons_zero, List.eraseIdx_cons_succ] at hs
    replace hs := hs.front 5 rfl
    simp only [List.cons_append, List.nil_append, List.eraseIdx_cons_zero, List.eraseIdx_cons_succ] at hs
    replace hs := hs.front 5 rfl
    simp only [List.cons_append, List.nil_append, List.eraseIdx_cons_zero, List.eraseIdx_cons_succ] at hs
    replace hs := hs.front 5 rfl
    simp only [List.cons_append, List.nil_append, List.eraseIdx_cons_zero, List.eraseIdx_cons_succ] at hs
    replace hs := hs.front 8 rfl
    simp only [List.cons_append, List.nil_append, List.eraseIdx_cons_zero, List.eraseIdx_cons_succ] at hs
    replace hs := hs.front 8 rfl
    simp only [List.cons_append, List.nil_append, List.eraseIdx_cons_zero, List.eraseIdx_cons_succ] at hs
    replace hs := hs.front 8 rfl
    simp only [List.cons_append, List.nil_append, List.eraseIdx_cons_zero, List.eraseIdx_cons_succ] at hs
    replace hs := hs.front 9 rfl
    simp only [List.cons_append, List.nil_append, List.eraseIdx_cons_zero, List.eraseIdx_cons_succ] at hs
    obtain ⟨En71, hEn71⟩ : ∃ F : Nat × List Value → Env, ∀ (i : Nat) (xs : List Value), F (i, xs) = [(7, .slice AE (Menc x).length cE), (1, .pointer (some ⟨b2, 0, none⟩)), (11, .pointer (some ⟨b63, 0, none⟩)), (12, .pointer (some ⟨b69, 0, none⟩)), (13, .int .i64 (i : Int)), (8, .int .i64 0), (10, .int .i64 0)] := ⟨(fun (s : Nat × List Value) => match s with | (i, xs) => [(7, .slice AE (Menc x).length cE), (1, .pointer (some ⟨b2, 0, none⟩)), (11, .pointer (some ⟨b63, 0, none⟩)), (12, .pointer (some ⟨b69, 0, none⟩)), (13, .int .i64 (i : Int)), (8, .int .i64 0), (10, .int .i64 0)]), fun _ _ => rfl⟩
    obtain ⟨Iv72, hIv72⟩ : ∃ F : Nat × List Value → World → Prop, ∀ (i : Nat) (xs : List Value) (wr : World), F (i, xs) wr = (Sat w wr [Own 5 1 (.slice AE (Menc x).length cE) (Menc x).length xs, Own 3 1 (.slice eAD enD ecD) enD ((El.int .i64).flat x.es), Own 38 1 (.slice kAD knD kcD) knD ((El.int .u64).flat x.ks), Own 42 3 (.slice pAD pnD pcD) pnD (KP.flat x.ps), Own 3 1 (.slice eAG enG ecG) enG ((El.int .i64).flat x.es), Own 38 1 (.slice kAG knG kcG) knG ((El.int .u64).flat x.ks), Own 42 3 (.slice pAG pnG pcG) pnG (KP.flat x.ps), Blk b63 [.int .i64 x.k, .int .i64 x.f, .int .i64 x.t, .int .i64 x.b, .int .i64 x.a, .int .i64 x.c, .slice eAD enD ecD, .slice kAD knD kcD, .slice pAD pnD pcD] 26, Blk b69 [.int .i64 x.k, .int .i64 x.f, .int .i64 x.t, .int .i64 x.b, .int .i64 x.a, .int .i64 x.c, .slice eAG enG ecG, .slice kAG knG kcG, .slice pAG pnG pcG] 26, Blk b2 [.int .i64 x.k, .int .i64 x.f, .int .i64 x.t, .int .i64 x.b, .int .i64 x.a, .int .i64 x.c, .slice p.eA p.en p.ec, .slice p.kA p.kn p.kc, .slice p.pA p.pn p.pc] 26] ∧ i ≤ (Menc x).length) := ⟨(fun (s : Nat × List Value) => match s with | (i, xs) => fun (wr : World) => Sat w wr [Own 5 1 (.slice AE (Menc x).length cE) (Menc x).length xs, Own 3 1 (.slice eAD enD ecD) enD ((El.int .i64).flat x.es), Own 38 1 (.slice kAD knD kcD) knD ((El.int .u64).flat x.ks), Own 42 3 (.slice pAD pnD pcD) pnD (KP.flat x.ps), Own 3 1 (.slice eAG enG ecG) enG ((El.int .i64).flat x.es), Own 38 1 (.slice kAG knG kcG) knG ((El.int .u64).flat x.ks), Own 42 3 (.slice pAG pnG pcG) pnG (KP.flat x.ps), Blk b63 [.int .i64 x.k, .int .i64 x.f, .int .i64 x.t, .int .i64 x.b, .int .i64 x.a, .int .i64 x.c, .slice eAD enD ecD, .slice kAD knD kcD, .slice pAD pnD pcD] 26, Blk b69 [.int .i64 x.k, .int .i64 x.f, .int .i64 x.t, .int .i64 x.b, .int .i64 x.a, .int .i64 x.c, .slice eAG enG ecG, .slice kAG knG kcG, .slice pAG pnG pcG] 26, Blk b2 [.int .i64 x.k, .int .i64 x.f, .int .i64 x.t, .int .i64 x.b, .int .i64 x.a, .int .i64 x.c, .slice p.eA p.en p.ec, .slice p.kA p.kn p.kc, .slice p.pA p.pn p.pc] 26] ∧ i ≤ (Menc x).length), fun _ _ _ => rfl⟩
    obtain ⟨ms73, hms73⟩ : ∃ F : Nat × List Value → Nat, ∀ (i : Nat) (xs : List Value), F (i, xs) = ((Menc x).length - i) := ⟨(fun (s : Nat × List Value) => match s with | (i, xs) => (Menc x).length - i), fun _ _ => rfl⟩
    refine St_loop En71 Iv72 ms73 (0, (bytesV (Menc x))) ?_ ?_ ?_
    · skip
      rw [hIv72]
      exact ⟨hs, by omega⟩
    · rw [hEn71]; exact (subE_cons rfl (subE_cons rfl (subE_cons rfl (subE_cons rfl (subE_cons rfl (subE_cons rfl (subE_cons rfl subE_nil)))))))
    rintro ⟨i, xs⟩ wr hI74
    rw [hIv72] at hI74
    obtain ⟨hs, hi⟩ := hI74
    refine St_eqE (hEn71 _ _) ?_
    have hle := hs.own_le 0 rfl
    refine St_seq ?_
    refine St_seq ?_
    refine St_region ?_
    refine Ls_run (run_move rfl) rfl ?_
    refine Ls_run (run_move rfl) rfl ?_
    refine Ls_run (run_len Try.underlying28 rfl) rfl ?_
    refine Ls_run (run_lss rfl rfl) rfl ?_
    refine Ls_nil ?_
    refine Jm_seq ?_
    refine St_ifP rfl (fun h75 => ?_) (fun h75 => ?_)
    · skip
      refine St_skip ?_
      refine Jm_seq ?_
      refine St_seq ?_
      refine St_block ?_
      refine St_region ?_
      refine Ls_run (run_move rfl) rfl ?_
      refine Ls_run (run_move rfl) rfl ?_
      obtain ⟨gE, rfl⟩ := (hs.front 0 rfl).own_addr (by omega)
      refine Ls_run (run_index Try.underlying28 inf5 rfl rfl rfl (by omega) (by omega)) rfl ?_
      refine Ls_storeOwn hs inf5 rfl rfl rfl (by omega) ?_
      intro w76 hs
      refine Ls_nil ?_
      refine Jm_block_normal (Jm_seq ?_)
      refine St_region ?_
      refine Ls_run (run_move rfl) rfl ?_
      refine Ls_run (run_add rfl rfl (w64 (by omega))) rfl ?_
      refine Ls_run (run_assign rfl) rfl ?_
      refine Ls_nil ?_
      refine Jm_round (i + 1, (xs.set (0 + (i : Int).toNat * 1) (.int .u8 85))) ?_ ?_ ?_
      · rw [hEn71]; exact (subE_cons rfl (subE_cons rfl (subE_cons rfl (subE_cons rfl (subE_cons rfl (subE_cons rfl (subE_cons rfl subE_nil)))))))
      · skip
        rw [hIv72]
        exact ⟨hs, by omega⟩
      · skip
        rw [hms73, hms73]
        omega
    · skip
      refine St_exit ?_
      refine Jm_then_exit (Jm_then_exit (Jm_block_same (Jm_seq ?_)))
      refine St_seq ?_
      refine St_seq ?_
      refine St_region ?_
      refine Ls_run (run_assign rfl) rfl ?_
      refine Ls_nil ?_
      refine Jm_seq ?_
      refine St_block ?_
      replace hs := hs.erase 0
      simp only [List.cons_append, List.nil_append, List.eraseIdx_cons_zero, List.eraseIdx_cons_succ] at hs
      replace hs := hs.front 8 rfl
      simp only [List.cons_append, List.nil_append, List.eraseIdx_cons_zero, List.eraseIdx_cons_succ] at hs
      replace hs := hs.front 8 rfl
      simp only [List.cons_append, List.nil_append, List.eraseIdx_cons_zero, List.eraseIdx_cons_succ] at hs
      replace hs := hs.front 8 rfl
      simp only [List.cons_append, List.nil_append, List.eraseIdx_cons_zero, List.eraseIdx_cons_succ] at hs
      replace hs := hs.front 8 rfl
      simp only [List.cons_append, List.nil_append, List.eraseIdx_cons_zero, List.eraseIdx_cons_succ] at hs
      replace hs := hs.front 8 rfl
      simp only [List.cons_append, List.nil_append, List.eraseIdx_cons_zero, List.eraseIdx_cons_succ] at hs
      replace hs := hs.front 8 rfl
      simp only [List.cons_append, List.nil_append, List.eraseIdx_cons_zero, List.eraseIdx_cons_succ] at hs
      replace hs := hs.front 8 rfl
      simp only [List.cons_append, List.nil_append, List.eraseIdx_cons_zero, List.eraseIdx_cons_succ] at hs
      replace hs := hs.front 8 rfl
      simp only [List.cons_append, List.nil_append, List.eraseIdx_cons_zero, List.eraseIdx_cons_succ] at hs
      replace hs := hs.front 8 rfl
      simp only [List.cons_append, List.nil_append, List.eraseIdx_cons_zero, List.eraseIdx_cons_succ] at hs
      obtain ⟨En77, hEn77⟩ : ∃ F : Nat × List Value → Env, ∀ (i : Nat) (xs : List Value), F (i, xs) = [(1, .pointer (some ⟨b2, 0, none⟩)), (11, .pointer (some ⟨b63, 0, none⟩)), (12, .pointer (some ⟨b69, 0, none⟩)), (14, .int .i64 (i : Int)), (8, .int .i64 0), (10, .int .i64 0)] := ⟨(fun (s : Nat × List Value) => match s with | (i, xs) => [(1, .pointer (some ⟨b2, 0, none⟩)), (11, .pointer (some ⟨b63, 0, none⟩)), (12, .pointer (some ⟨b69, 0, none⟩)), (14, .int .i64 (i : Int)), (8, .int .i64 0), (10, .int .i64 0)]), fun _ _ => rfl⟩
      obtain ⟨Iv78, hIv78⟩ : ∃ F : Nat × List Value → World → Prop, ∀ (i : Nat) (xs : List Value) (wr : World), F (i, xs) wr = (Sat w wr [Own 3 1 (.slice eAD enD ecD) enD xs, Own 38 1 (.slice kAD knD kcD) knD ((El.int .u64).flat x.ks), Own 42 3 (.slice pAD pnD pcD) pnD (KP.flat x.ps), Own 3 1 (.slice eAG enG ecG) enG ((El.int .i64).flat x.es), Own 38 1 (.slice kAG knG kcG) knG ((El.int .u64).flat x.ks), Own 42 3 (.slice pAG pnG pcG) pnG (KP.flat x.ps), Blk b63 [.int .i64 x.k, .int .i64 x.f, .int .i64 x.t, .int .i64 x.b, .int .i64 x.a, .int .i64 x.c, .slice eAD enD ecD, .slice kAD knD kcD, .slice pAD pnD pcD] 26, Blk b69 [.int .i64 x.k, .int .i64 x.f, .int .i64 x.t, .int .i64 x.b, .int .i64 x.a, .int .i64 x.c, .slice eAG enG ecG, .slice kAG knG kcG, .slice pAG pnG pcG] 26, Blk b2 [.int .i64 x.k, .int .i64 x.f, .int .i64 x.t, .int .i64 x.b, .int .i64 x.a, .int .i64 x.c, .slice p.eA p.en p.ec, .slice p.kA p.kn p.kc, .slice p.pA p.pn p.pc] 26] ∧ i ≤ enD) := ⟨(fun (s : Nat × List Value) => match s with | (i, xs) => fun (wr : World) => Sat w wr [Own 3 1 (.slice eAD enD ecD) enD xs, Own 38 1 (.slice kAD knD kcD) knD ((El.int .u64).flat x.ks), Own 42 3 (.slice pAD pnD pcD) pnD (KP.flat x.ps), Own 3 1 (.slice eAG enG ecG) enG ((El.int .i64).flat x.es), Own 38 1 (.slice kAG knG kcG) knG ((El.int .u64).flat x.ks), Own 42 3 (.slice pAG pnG pcG) pnG (KP.flat x.ps), Blk b63 [.int .i64 x.k, .int .i64 x.f, .int .i64 x.t, .int .i64 x.b, .int .i64 x.a, .int .i64 x.c, .slice eAD enD ecD, .slice kAD knD kcD, .slice pAD pnD pcD] 26, Blk b69 [.int .i64 x.k, .int .i64 x.f, .int .i64 x.t, .int .i64 x.b, .int .i64 x.a, .int .i64 x.c, .slice eAG enG ecG, .slice kAG knG kcG, .slice pAG pnG pcG] 26, Blk b2 [.int .i64 x.k, .int .i64 x.f, .int .i64 x.t, .int .i64 x.b, .int .i64 x.a, .int .i64 x.c, .slice p.eA p.en p.ec, .slice p.kA p.kn p.kc, .slice p.pA p.pn p.pc] 26] ∧ i ≤ enD), fun _ _ _ => rfl⟩
      obtain ⟨ms79, hms79⟩ : ∃ F : Nat × List Value → Nat, ∀ (i : Nat) (xs : List Value), F (i, xs) = (enD - i) := ⟨(fun (s : Nat × List Value) => match s with | (i, xs) => enD - i), fun _ _ => rfl⟩
      refine St_loop En77 Iv78 ms79 (0, ((El.int .i64).flat x.es)) ?_ ?_ ?_
      · skip
        rw [hIv78]
        exact ⟨hs, by omega⟩
      · rw [hEn77]; exact (subE_cons rfl (subE_cons rfl (subE_cons rfl (subE_cons rfl (subE_cons rfl (subE_cons rfl subE_nil))))))
      rintro ⟨i, xs⟩ wr hI80
      rw [hIv78] at hI80
      obtain ⟨hs, hi⟩ := hI80
      refine St_eqE (hEn77 _ _) ?_
      have hle := hs.own_le 0 rfl
      refine St_seq ?_
      refine St_seq ?_
      refine St_region ?_
      refine Ls_run (run_move rfl) rfl ?_
      refine Ls_run (run_as (run_field Try.underlying26 rfl inf22 (by decide) rfl) (show _ = Value.pointer (some ⟨b63, 6, none⟩) from rfl)) rfl ?_
      refine Ls_run (run_load sc22 rfl (hs.blk_at 6 rfl 6 rfl)) rfl ?_
      refine Ls_run (run_len Try.underlying22 rfl) rfl ?_
      refine Ls_run (run_lss rfl rfl) rfl ?_
      refine Ls_nil ?_
      refine Jm_seq ?_
      refine St_ifP rfl (fun h81 => ?_) (fun h81 => ?_)
      · skip
        refine St_skip ?_
        refine Jm_seq ?_
        refine St_seq ?_
        refine St_block ?_
        refine St_region ?_
        refine Ls_run (run_as (run_field Try.underlying26 rfl inf22 (by decide) rfl) (show _ = Value.pointer (some ⟨b63, 6, none⟩) from rfl)) rfl ?_
        refine Ls_run (run_load sc22 rfl (hs.blk_at 6 rfl 6 rfl)) rfl ?_
        refine Ls_run (run_move rfl) rfl ?_
        obtain ⟨gF, rfl⟩ := (hs.front 0 rfl).own_addr (by omega)
        refine Ls_run (run_index Try.underlying22 inf3 rfl rfl rfl (by omega) (by omega)) rfl ?_
        refine Ls_storeOwn hs inf3 rfl rfl rfl (by omega) ?_
        intro w82 hs
        refine Ls_nil ?_
        refine Jm_block_normal (Jm_seq ?_)
        refine St_region ?_
        refine Ls_run (run_move rfl) rfl ?_
        refine Ls_run (run_add rfl rfl (w64 (by omega))) rfl ?_
        refine Ls_run (run_assign rfl) rfl ?_
        refine Ls_nil ?_
        refine Jm_round (i + 1, (xs.set (0 + (i : Int).toNat * 1) (.int .i64 9))) ?_ ?_ ?_
        · rw [hEn77]; exact (subE_cons rfl (subE_cons rfl (subE_cons rfl (subE_cons rfl (subE_cons rfl (subE_cons rfl subE_nil))))))
        · skip
          rw [hIv78]
          exact ⟨hs, by omega⟩
        · skip
          rw [hms79, hms79]
          omega
      · skip
        refine St_exit ?_
        refine Jm_then_exit (Jm_then_exit (Jm_block_same (Jm_seq ?_)))
        refine St_seq ?_
        refine St_seq ?_
        refine St_region ?_
        refine Ls_run (run_assign rfl) rfl ?_
        refine Ls_nil ?_
        refine Jm_seq ?_
        refine St_block ?_
        replace hs := hs.erase 0
        simp only [List.cons_append, List.nil_append, List.eraseIdx_cons_zero, List.eraseIdx_cons_succ] at hs
        replace hs := hs.front 7 rfl
        simp only [List.cons_append, List.nil_append, List.eraseIdx_cons_zero, List.eraseIdx_cons_succ] at hs
        replace hs := hs.front 7 rfl
        simp only [List.cons_append, List.nil_append, List.eraseIdx_cons_zero, List.eraseIdx_cons_succ] at hs
        replace hs := hs.front 7 rfl
        simp only [List.cons_append, List.nil_append, List.eraseIdx_cons_zero, List.eraseIdx_cons_succ] at hs
        replace hs := hs.front 7 rfl
        simp only [List.cons_append, List.nil_append, List.eraseIdx_cons_zero, List.eraseIdx_cons_succ] at hs
        replace hs := hs.front 7 rfl
        simp only [List.cons_append, List.nil_append, List.eraseIdx_cons_zero, List.eraseIdx_cons_succ] at hs
        replace hs := hs.front 7 rfl
        simp only [List.cons_append, List.nil_append, List.eraseIdx_cons_zero, List.eraseIdx_cons_succ] at hs
        replace hs := hs.front 7 rfl
        simp only [List.cons_append, List.nil_append, List.eraseIdx_cons_zero, List.eraseIdx_cons_succ] at hs
        replace hs := hs.front 7 rfl
        simp only [List.cons_append, List.nil_append, List.eraseIdx_cons_zero, List.eraseIdx_cons_succ] at hs
        obtain ⟨En83, hEn83⟩ : ∃ F : Nat × List Value → Env, ∀ (i : Nat) (xs : List Value), F (i, xs) = [(1, .pointer (some ⟨b2, 0, none⟩)), (11, .pointer (some ⟨b63, 0, none⟩)), (12, .pointer (some ⟨b69, 0, none⟩)), (15, .int .i64 (i : Int)), (8, .int .i64 0), (10, .int .i64 0)] := ⟨(fun (s : Nat × List Value) => match s with | (i, xs) => [(1, .pointer (some ⟨b2, 0, none⟩)), (11, .pointer (some ⟨b63, 0, none⟩)), (12, .pointer (some ⟨b69, 0, none⟩)), (15, .int .i64 (i : Int)), (8, .int .i64 0), (10, .int .i64 0)]), fun _ _ => rfl⟩
        obtain ⟨Iv84, hIv84⟩ : ∃ F : Nat × List Value → World → Prop, ∀ (i : Nat) (xs : List Value) (wr : World), F (i, xs) wr = (Sat w wr [Own 38 1 (.slice kAD knD kcD) knD xs, Own 42 3 (.slice pAD pnD pcD) pnD (KP.flat x.ps), Own 3 1 (.slice eAG enG ecG) enG ((El.int .i64).flat x.es), Own 38 1 (.slice kAG knG kcG) knG ((El.int .u64).flat x.ks), Own 42 3 (.slice pAG pnG pcG) pnG (KP.flat x.ps), Blk b63 [.int .i64 x.k, .int .i64 x.f, .int .i64 x.t, .int .i64 x.b, .int .i64 x.a, .int .i64 x.c, .slice eAD enD ecD, .slice kAD knD kcD, .slice pAD pnD pcD] 26, Blk b69 [.int .i64 x.k, .int .i64 x.f, .int .i64 x.t, .int .i64 x.b, .int .i64 x.a, .int .i64 x.c, .slice eAG enG ecG, .slice kAG knG kcG, .slice pAG pnG pcG] 26, Blk b2 [.int .i64 x.k, .int .i64 x.f, .int .i64 x.t, .int .i64 x.b, .int .i64 x.a, .int .i64 x.c, .slice p.eA p.en p.ec, .slice p.kA p.kn p.kc, .slice p.pA p.pn p.pc] 26] ∧ i ≤ knD) := ⟨(fun (s : Nat × List Value) => match s with | (i, xs) => fun (wr : World) => Sat w wr [Own 38 1 (.slice kAD knD kcD) knD xs, Own 42 3 (.slice pAD pnD pcD) pnD (KP.flat x.ps), Own 3 1 (.slice eAG enG ecG) enG ((El.int .i64).flat x.es), Own 38 1 (.slice kAG knG kcG) knG ((El.int .u64).flat x.ks), Own 42 3 (.slice pAG pnG pcG) pnG (KP.flat x.ps), Blk b63 [.int .i64 x.k, .int .i64 x.f, .int .i64 x.t, .int .i64 x.b, .int .i64 x.a, .int .i64 x.c, .slice eAD enD ecD, .slice kAD knD kcD, .slice pAD pnD pcD] 26, Blk b69 [.int .i64 x.k, .int .i64 x.f, .int .i64 x.t, .int .i64 x.b, .int .i64 x.a, .int .i64 x.c, .slice eAG enG ecG, .slice kAG knG kcG, .slice pAG pnG pcG] 26, Blk b2 [.int .i64 x.k, .int .i64 x.f, .int .i64 x.t, .int .i64 x.b, .int .i64 x.a, .int .i64 x.c, .slice p.eA p.en p.ec, .slice p.kA p.kn p.kc, .slice p.pA p.pn p.pc] 26] ∧ i ≤ knD), fun _ _ _ => rfl⟩
        obtain ⟨ms85, hms85⟩ : ∃ F : Nat × List Value → Nat, ∀ (i : Nat) (xs : List Value), F (i, xs) = (knD - i) := ⟨(fun (s : Nat × List Value) => match s with | (i, xs) => knD - i), fun _ _ => rfl⟩
        refine St_loop En83 Iv84 ms85 (0, ((El.int .u64).flat x.ks)) ?_ ?_ ?_
        · skip
          rw [hIv84]
          exact ⟨hs, by omega⟩
        · rw [hEn83]; exact (subE_cons rfl (subE_cons rfl (subE_cons rfl (subE_cons rfl (subE_cons rfl (subE_cons rfl subE_nil))))))
        rintro ⟨i, xs⟩ wr hI86
        rw [hIv84] at hI86
        obtain ⟨hs, hi⟩ := hI86
        refine St_eqE (hEn83 _ _) ?_
        have hle := hs.own_le 0 rfl
        refine St_seq ?_
        refine St_seq ?_
        refine St_region ?_
        refine Ls_run (run_move rfl) rfl ?_
        refine Ls_run (run_as (run_field Try.underlying26 rfl inf23 (by decide) rfl) (show _ = Value.pointer (some ⟨b63, 7, none⟩) from rfl)) rfl ?_
        refine Ls_run (run_load sc23 rfl (hs.blk_at 5 rfl 7 rfl)) rfl ?_
        refine Ls_run (run_len Try.underlying23 rfl) rfl ?_
        refine Ls_run (run_lss rfl rfl) rfl ?_
        refine Ls_nil ?_
        refine Jm_seq ?_
        refine St_ifP rfl (fun h87 => ?_) (fun h87 => ?_)
        · skip
          refine St_skip ?_
          refine Jm_seq ?_
          refine St_seq ?_
          refine St_block ?_
          refine St_region ?_
          refine Ls_run (run_as (run_field Try.underlying26 rfl inf23 (by decide) rfl) (show _ = Value.pointer (some ⟨b63, 7, none⟩) from rfl)) rfl ?_
          refine Ls_run (run_load sc23 rfl (hs.blk_at 5 rfl 7 rfl)) rfl ?_
          refine Ls_run (run_move rfl) rfl ?_
          obtain ⟨gK, rfl⟩ := (hs.front 0 rfl).own_addr (by omega)
          refine Ls_run (run_index Try.underlying23 inf38 rfl rfl rfl (by omega) (by omega)) rfl ?_
          refine Ls_storeOwn hs inf38 rfl rfl rfl (by omega) ?_
          intro w88 hs
          refine Ls_nil ?_
          refine Jm_block_normal (Jm_seq ?_)
          refine St_region ?_
          refine Ls_run (run_move rfl) rfl ?_
          refine Ls_run (run_add rfl rfl (w64 (by omega))) rfl ?_
          refine Ls_run (run_assign rfl) rfl ?_
          refine Ls_nil ?_
          refine Jm_round (i + 1, (xs.set (0 + (i : Int).toNat * 1) (.int .u64 9))) ?_ ?_ ?_
          · rw [hEn83]; exact (subE_cons rfl (subE_cons rfl (subE_cons rfl (subE_cons rfl (subE_cons rfl (subE_cons rfl subE_nil))))))
          · skip
            rw [hIv84]
            exact ⟨hs, by omega⟩
          · skip
            rw [hms85, hms85]
            omega
        · skip
          refine St_exit ?_
          refine Jm_then_exit (Jm_then_exit (Jm_block_same (Jm_seq ?_)))
          refine St_seq ?_
          refine St_seq ?_
          refine St_region ?_
          refine Ls_run (run_assign rfl) rfl ?_
          refine Ls_nil ?_
          refine Jm_seq ?_
          refine St_block ?_
          replace hs := hs.erase 0
          simp only [List.cons_append, List.nil_append, List.eraseIdx_cons_zero, List.eraseIdx_cons_succ] at hs
          replace hs := hs.front 6 rfl
          simp only [List.cons_append, List.nil_append, List.eraseIdx_cons_zero, List.eraseIdx_cons_succ] at hs
          replace hs := hs.front 6 rfl
          simp only [List.cons_append, List.nil_append, List.eraseIdx_cons_zero, List.eraseIdx_cons_succ] at hs
          replace hs := hs.front 6 rfl
          simp only [List.cons_append, List.nil_append, List.eraseIdx_cons_zero, List.eraseIdx_cons_succ] at hs
          replace hs := hs.front 6 rfl
          simp only [List.cons_append, List.nil_append, List.eraseIdx_cons_zero, List.eraseIdx_cons_succ] at hs
          replace hs := hs.front 6 rfl
          simp only [List.cons_append, List.nil_append, List.eraseIdx_cons_zero, List.eraseIdx_cons_succ] at hs
          replace hs := hs.front 6 rfl
          simp only [List.cons_append, List.nil_append, List.eraseIdx_cons_zero, List.eraseIdx_cons_succ] at hs
          replace hs := hs.front 6 rfl
          simp only [List.cons_append, List.nil_append, List.eraseIdx_cons_zero, List.eraseIdx_cons_succ] at hs
          have hpl := (hs.rd_at 0 rfl).len
          rw [El.flat_length] at hpl
          have hpl2 : x.ps.length = pnD := Nat.eq_of_mul_eq_mul_right (by decide) hpl
          obtain ⟨En89, hEn89⟩ : ∃ F : Nat × List Pr → Env, ∀ (i : Nat) (xs : List Pr), F (i, xs) = [(1, .pointer (some ⟨b2, 0, none⟩)), (11, .pointer (some ⟨b63, 0, none⟩)), (12, .pointer (some ⟨b69, 0, none⟩)), (16, .int .i64 (i : Int)), (8, .int .i64 0), (10, .int .i64 0)] := ⟨(fun (s : Nat × List Pr) => match s with | (i, xs) => [(1, .pointer (some ⟨b2, 0, none⟩)), (11, .pointer (some ⟨b63, 0, none⟩)), (12, .pointer (some ⟨b69, 0, none⟩)), (16, .int .i64 (i : Int)), (8, .int .i64 0), (10, .int .i64 0)]), fun _ _ => rfl⟩
          obtain ⟨Iv90, hIv90⟩ : ∃ F : Nat × List Pr → World → Prop, ∀ (i : Nat) (xs : List Pr) (wr : World), F (i, xs) wr = (Sat w wr [Own 42 3 (.slice pAD pnD pcD) pnD (KP.flat xs), Own 3 1 (.slice eAG enG ecG) enG ((El.int .i64).flat x.es), Own 38 1 (.slice kAG knG kcG) knG ((El.int .u64).flat x.ks), Own 42 3 (.slice pAG pnG pcG) pnG (KP.flat x.ps), Blk b63 [.int .i64 x.k, .int .i64 x.f, .int .i64 x.t, .int .i64 x.b, .int .i64 x.a, .int .i64 x.c, .slice eAD enD ecD, .slice kAD knD kcD, .slice pAD pnD pcD] 26, Blk b69 [.int .i64 x.k, .int .i64 x.f, .int .i64 x.t, .int .i64 x.b, .int .i64 x.a, .int .i64 x.c, .slice eAG enG ecG, .slice kAG knG kcG, .slice pAG pnG pcG] 26, Blk b2 [.int .i64 x.k, .int .i64 x.f, .int .i64 x.t, .int .i64 x.b, .int .i64 x.a, .int .i64 x.c, .slice p.eA p.en p.ec, .slice p.kA p.kn p.kc, .slice p.pA p.pn p.pc] 26] ∧ i ≤ pnD ∧ xs.length = pnD) := ⟨(fun (s : Nat × List Pr) => match s with | (i, xs) => fun (wr : World) => Sat w wr [Own 42 3 (.slice pAD pnD pcD) pnD (KP.flat xs), Own 3 1 (.slice eAG enG ecG) enG ((El.int .i64).flat x.es), Own 38 1 (.slice kAG knG kcG) knG ((El.int .u64).flat x.ks), Own 42 3 (.slice pAG pnG pcG) pnG (KP.flat x.ps), Blk b63 [.int .i64 x.k, .int .i64 x.f, .int .i64 x.t, .int .i64 x.b, .int .i64 x.a, .int .i64 x.c, .slice eAD enD ecD, .slice kAD knD kcD, .slice pAD pnD pcD] 26, Blk b69 [.int .i64 x.k, .int .i64 x.f, .int .i64 x.t, .int .i64 x.b, .int .i64 x.a, .int .i64 x.c, .slice eAG enG ecG, .slice kAG knG kcG, .slice pAG pnG pcG] 26, Blk b2 [.int .i64 x.k, .int .i64 x.f, .int .i64 x.t, .int .i64 x.b, .int .i64 x.a, .int .i64 x.c, .slice p.eA p.en p.ec, .slice p.kA p.kn p.kc, .slice p.pA p.pn p.pc] 26] ∧ i ≤ pnD ∧ xs.length = pnD), fun _ _ _ => rfl⟩
          obtain ⟨ms91, hms91⟩ : ∃ F : Nat × List Pr → Nat, ∀ (i : Nat) (xs : List Pr), F (i, xs) = (pnD - i) := ⟨(fun (s : Nat × List Pr) => match s with | (i, xs) => pnD - i), fun _ _ => rfl⟩
          refine St_loop En89 Iv90 ms91 (0, x.ps) ?_ ?_ ?_
          · skip
            rw [hIv90]
            exact ⟨hs, by omega, by omega⟩
          · rw [hEn89]; exact (subE_cons rfl (subE_cons rfl (subE_cons rfl (subE_cons rfl (subE_cons rfl (subE_cons rfl subE_nil))))))
          rintro ⟨i, xs⟩ wr hI92
          rw [hIv90] at hI92
          obtain ⟨hs, hi, hxl⟩ := hI92
          refine St_eqE (hEn89 _ _) ?_
          have hle := hs.own_le 0 rfl
          refine St_seq ?_
          refine St_seq ?_
          refine St_region ?_
          refine Ls_run (run_move rfl) rfl ?_
          refine Ls_run (run_as (run_field Try.underlying26 rfl inf24 (by decide) rfl) (show _ = Value.pointer (some ⟨b63, 8, none⟩) from rfl)) rfl ?_
          refine Ls_run (run_load sc24 rfl (hs.blk_at 4 rfl 8 rfl)) rfl ?_
          refine Ls_run (run_len Try.underlying24 rfl) rfl ?_
          refine Ls_run (run_lss rfl rfl) rfl ?_
          refine Ls_nil ?_
          refine Jm_seq ?_
          refine St_ifP rfl (fun h93 => ?_) (fun h93 => ?_)
          · skip
            refine St_skip ?_
            refine Jm_seq ?_
            refine St_seq ?_
            refine St_block ?_
            refine St_region ?_
            refine Ls_run (run_as (run_field Try.underlying26 rfl inf24 (by decide) rfl) (show _ = Value.pointer (some ⟨b63, 8, none⟩) from rfl)) rfl ?_
            refine Ls_run (run_load sc24 rfl (hs.blk_at 4 rfl 8 rfl)) rfl ?_
            refine Ls_run (run_move rfl) rfl ?_
            refine Ls_run (run_buildO (pv := []) rfl (bld42 )) rfl ?_
            obtain ⟨gP, rfl⟩ := (hs.front 0 rfl).own_addr (by omega)
            refine Ls_run (run_as (run_index Try.underlying24 inf42 rfl rfl rfl (by omega) (by omega)) (show _ = Value.pointer (some ⟨gP, i * KP.size, none⟩) from by simp [KP])) rfl ?_
            refine Ls_storeOwnAgg (KP) (x' := (0, false, 0)) hs inf42 rfl rfl (by simp [KP, Value.oneCell']) hxl (by omega) ?_
            intro w94 hs
            refine Ls_nil ?_
            refine Jm_block_normal (Jm_seq ?_)
            refine St_region ?_
            refine Ls_run (run_move rfl) rfl ?_
            refine Ls_run (run_add rfl rfl (w64 (by omega))) rfl ?_
            refine Ls_run (run_assign rfl) rfl ?_
            refine Ls_nil ?_
            refine Jm_round (i + 1, (xs.set i (0, false, 0))) ?_ ?_ ?_
            · rw [hEn89]; exact (subE_cons rfl (subE_cons rfl (subE_cons rfl (subE_cons rfl (subE_cons rfl (subE_cons rfl subE_nil))))))
            · skip
              rw [hIv90]
              exact ⟨hs, by omega, by simp [hxl]⟩
            · skip
              rw [hms91, hms91]
              omega
          · skip
            refine St_exit ?_
            refine Jm_then_exit (Jm_then_exit (Jm_block_same (Jm_seq ?_)))
            refine St_seq ?_
            refine St_region ?_
            refine Ls_run (run_move rfl) rfl ?_
            refine Ls_run (run_asB (c := true) (run_eql rfl rfl) rfl) rfl ?_
            refine Ls_run (run_move rfl) rfl ?_
            refine Ls_on rfl rfl ?_
            refine Ls_run (run_move rfl) rfl ?_
            refine Ls_on rfl rfl ?_
            refine Ls_run (run_asB (c := true) (run_eql rfl rfl) rfl) rfl ?_
            refine Ls_run (run_pick_t rfl rfl) rfl ?_
            refine Ls_run (run_move rfl) rfl ?_
            refine Ls_on rfl rfl ?_
            refine Ls_run (run_as (run_load_agg agg26 inf26 rfl rfl (hs.blk_cells 5 rfl 0 9)) (show _ = Value.agg #[.int .i64 x.k, .int .i64 x.f, .int .i64 x.t, .int .i64 x.b, .int .i64 x.a, .int .i64 x.c, .slice (⟨eAG, enG, ecG, kAG, knG, kcG, pAG, pnG, pcG⟩ : MP).eA (⟨eAG, enG, ecG, kAG, knG, kcG, pAG, pnG, pcG⟩ : MP).en (⟨eAG, enG, ecG, kAG, knG, kcG, pAG, pnG, pcG⟩ : MP).ec, .slice (⟨eAG, enG, ecG, kAG, knG, kcG, pAG, pnG, pcG⟩ : MP).kA (⟨eAG, enG, ecG, kAG, knG, kcG, pAG, pnG, pcG⟩ : MP).kn (⟨eAG, enG, ecG, kAG, knG, kcG, pAG, pnG, pcG⟩ : MP).kc, .slice (⟨eAG, enG, ecG, kAG, knG, kcG, pAG, pnG, pcG⟩ : MP).pA (⟨eAG, enG, ecG, kAG, knG, kcG, pAG, pnG, pcG⟩ : MP).pn (⟨eAG, enG, ecG, kAG, knG, kcG, pAG, pnG, pcG⟩ : MP).pc] from rfl)) rfl ?_
            refine Ls_on rfl rfl ?_
            refine Ls_run (run_as (run_load_agg agg26 inf26 rfl rfl (hs.blk_cells 6 rfl 0 9)) (show _ = Value.agg #[.int .i64 x.k, .int .i64 x.f, .int .i64 x.t, .int .i64 x.b, .int .i64 x.a, .int .i64 x.c, .slice p.eA p.en p.ec, .slice p.kA p.kn p.kc, .slice p.pA p.pn p.pc] from rfl)) rfl ?_
            refine Ls_on rfl rfl ?_
            refine Ls_call Try.func22 nm22 rfl rfl (same_c wr x (⟨eAG, enG, ecG, kAG, knG, kcG, pAG, pnG, pcG⟩ : MP) ⟨hs.rd_at 1 rfl, hs.rd_at 2 rfl, hs.rd_at 3 rfl⟩ (hs.own_le 1 rfl) (hs.own_le 2 rfl) (hs.own_le 3 rfl) x p (hm.inB hs)) rfl ?_
            rintro v95 w96 ⟨rfl, hsS⟩
            replace hs := hs.trans hsS
            simp only [List.nil_append, List.cons_append] at hs
            rw [decide_eq_true (rfl)]
            refine Ls_run (run_pick_t rfl rfl) rfl ?_
            refine Ls_run (run_assign rfl) rfl ?_
            refine Ls_nil ?_
            refine Jm_seq ?_
            refine St_ret ?_
            refine Jm_ret1 rfl rfl ?_
            exact ⟨_, rfl, rfl, hs.below⟩
end Go.Proofs.Ytipkfdeiallifaa.Lg
