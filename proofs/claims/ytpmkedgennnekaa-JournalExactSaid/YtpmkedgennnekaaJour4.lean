/-
  What Save does where nothing stands in its way; the laws' laid, notes and awake. By program (gen/jour4.py).
-/
import Derived.Test.YtpmkedgennnekaaJour3
set_option linter.unusedVariables false
set_option linter.unusedSimpArgs false
namespace Go.Proofs.Ytpmkedgennnekaa.Lg
open Go Go.RowKit Go.Proofs.Ytpmkedgennnekaa.WirePure
/-- A disk that is on and goes through with every write. -/
def DG (d : DSt) : Prop := d.down = false ∧ d.armed = false ∧ 2 ≤ d.bl.length ∧ d.bl.length ≤ 64 ∧ ∀ x ∈ d.bl, IsBytes x ∧ x.length ≤ 1024
theorem dg_write {d : DSt} {k : Nat} {b : List Int} (h : DG d) (hk : k < 2) (hb : IsBytes b) (hl : b.length ≤ 1024) :
    ∃ d', dwrite d (k : Int) b = (0, d') ∧ DG d' ∧ d'.bl = d.bl.set k b ∧ d'.writes = IntKind.i64.wrap (d.writes + 1) := by
  obtain ⟨h1, h2, h3, h4, h5⟩ := h
  refine ⟨_, dwrite_goes h1 (by omega) hl (by rw [h2]; simp), ⟨h1, h2, by simpa using h3, by simpa using h4, set_mem h5 ⟨hb, hl⟩⟩, rfl, rfl⟩
theorem jend_same {j : JSt} {d : DSt} (he : j.ended = false) (hd : d.down = false) : jend j d = j := by
  cases j; simp only [jend] at *; simp [he, hd]
theorem jsave_ok {j : JSt} {d : DSt} {n : NSt} (hj : JOk j) (he : j.ended = false) (hd : DG d) (hn : noteOk n j.parts) (hf : follows j.n n) (hg : j.gen < 1099511627776) :
    ∃ d', jsave j d n = (0, ⟨j.parts, n, j.gen + 1, 1 - j.slot, false⟩, d') ∧ DG d' ∧ d'.bl = d.bl.set (1 - j.slot).toNat (nbytes (j.gen + 1) n) ∧ d'.writes = IntKind.i64.wrap (d.writes + 1) ∧ JOk ⟨j.parts, n, j.gen + 1, 1 - j.slot, false⟩ := by
  have hl := nbytes_len hn hj.2.2.1 (gen := j.gen + 1) (by have := hj.2.2.2.1; omega)
  obtain ⟨d', h1, h2, h3, h4⟩ := dg_write (k := (1 - j.slot).toNat) hd (by rcases hj.2.2.2.2.2 with e | e <;> rw [e] <;> decide) (nbytes_bytes n (j.gen + 1)) (by omega)
  have e : (((1 - j.slot).toNat : Nat) : Int) = 1 - j.slot := by rcases hj.2.2.2.2.2 with e | e <;> rw [e] <;> rfl
  rw [e] at h1
  refine ⟨d', ?_, h2, h3, h4, hn, hj.2.1, hj.2.2.1, by have := hj.2.2.2.1; show 1 ≤ j.gen + 1; omega, by show j.gen + 1 ≤ _; omega, by show 1 - j.slot = 0 ∨ 1 - j.slot = 1; have := hj.2.2.2.2.2; omega⟩
  unfold jsave
  rw [jend_same he hd.1, if_neg (by simp [he]), if_neg (by simpa using hn), if_neg (by simpa using hf), if_neg (by omega), h1]
  simp only [ne_eq, not_true_eq_false, if_false, he]
theorem jsave_order {j : JSt} {d : DSt} {n : NSt} (he : j.ended = false) (hd : d.down = false) (hn : noteOk n j.parts) (hf : ¬ follows j.n n) : jsave j d n = (7, j, d) := by
  unfold jsave
  rw [jend_same he hd, if_neg (by simp [he]), if_neg (by simpa using hn), if_pos hf]
theorem jsave_arg {j : JSt} {d : DSt} {n : NSt} (he : j.ended = false) (hd : d.down = false) (hn : ¬ noteOk n j.parts) : jsave j d n = (1, j, d) := by
  unfold jsave
  rw [jend_same he hd, if_neg (by simp [he]), if_pos hn]
theorem dg_new : DG (dnew 2) := ⟨rfl, rfl, by simp [dnew], by simp [dnew], fun x hx => by simp [dnew] at hx; subst hx; exact ⟨by simp [IsBytes], by simp⟩⟩
theorem jformat_new {m : Nat} (h1 : 1 ≤ m) (h2 : m ≤ 4) : ∃ d', jformat (dnew 2) m = (0, some (jnew m), d') ∧ DG d' ∧ d'.bl = [nbytes 1 (jnew m).n, []] ∧ d'.writes = 2 := by
  have hok := jnew_ok h1 h2
  have hl := nbytes_len hok.1 hok.2.2.1 (gen := 1) (by decide)
  obtain ⟨d1, a1, a2, a3, a4⟩ := dg_write (k := 1) (b := []) dg_new (by decide) (by simp [IsBytes]) (by simp)
  obtain ⟨d2, b1, b2, b3, b4⟩ := dg_write (k := 0) (b := nbytes 1 (jnew m).n) a2 (by decide) (nbytes_bytes _ _) (by omega)
  refine ⟨d2, ?_, b2, ?_, ?_⟩
  · unfold jformat
    rw [if_neg (by omega), if_neg (by simp [dnew]), show dwrite (dnew 2) 1 [] = (0, d1) from a1]
    simp only [ne_eq, not_true_eq_false, if_false, Int.toNat_natCast]
    rw [show dwrite d1 0 (nbytes 1 (jnew m).n) = (0, d2) from b1]
    simp
  · rw [b3, a3]; rfl
  · rw [b4, a4]; rfl
theorem pbS {n : Nat} (h : n < 128) : pb n = [(n : Int)] := pb_small h
theorem nbytes_31 : nbytes 3 ⟨1, [0], [5], 1⟩ = [3, 1, 1, 1, 0, 1, 5] := by
  simp [nbytes, nm, nmB, pb_small]
theorem nbytes_20 : nbytes 2 ⟨0, [0], [0], 1⟩ = [2, 0, 1, 1, 0, 1, 0] := by
  simp [nbytes, nm, nmB, pb_small]
set_option maxRecDepth 100000 in
set_option maxHeartbeats 1000000 in
theorem laid18_c (w : World) (bt pv cr at_ : Int) :
    Calls Try.prog 64 [.int .i64 bt, .int .i64 pv, .int .i64 cr, .int .i64 at_].toArray w (Ret (fun v' w' => ∃ g1 g2, v' = .agg #[.int .i64 bt, .slice (some ⟨g1, 0, none⟩) 1 1, .slice (some ⟨g2, 0, none⟩) 1 1, .int .i64 at_] ∧ Sat w w' [Own 3 1 (.slice (some ⟨g1, 0, none⟩) 1 1) 1 (KI.flat [pv]), Own 3 1 (.slice (some ⟨g2, 0, none⟩) 1 1) 1 (KI.flat [cr])])) := by
  have hs := Sat.start w
  refine Calls_body Try.func64 rfl rfl rfl (envE_cons (i := 0) (v := .int .i64 bt) rfl (envE_cons (i := 1) (v := .int .i64 pv) rfl (envE_cons (i := 2) (v := .int .i64 cr) rfl (envE_cons (i := 3) (v := .int .i64 at_) rfl envE_nil)))) ?_
  refine St_seq ?_
  refine St_region ?_
  refine Ls_alloc hs inf66 rfl ?_
  intro b2 w1 hs
  refine Ls_nil ?_
  refine Jm_seq ?_
  refine St_seq ?_
  refine St_region ?_
  refine Ls_run (run_move rfl) rfl ?_
  refine Ls_run (run_move rfl) rfl ?_
  refine Ls_literal [_] hs Try.underlying62 inf3 rfl rfl rfl rfl rfl rfl ?_
  intro b3 w4 hs
  simp only [List.flatMap_cons, List.flatMap_nil, Value.cells, List.cons_append, List.nil_append] at hs
  refine Ls_run (run_move rfl) rfl ?_
  refine Ls_literal [_] hs Try.underlying62 inf3 rfl rfl rfl rfl rfl rfl ?_
  intro b5 w6 hs
  simp only [List.flatMap_cons, List.flatMap_nil, Value.cells, List.cons_append, List.nil_append] at hs
  refine Ls_run (run_buildO (pv := [(0, _), (1, _), (2, _)]) rfl (bld64_0_1_2 _ _ _ _ _ _ _)) rfl ?_
  refine Ls_run (run_move rfl) rfl ?_
  refine Ls_run (run_buildO (pv := [(0, _), (1, _)]) rfl (bld66_0_1 _ _ _ _ _ _ _ _)) rfl ?_
  replace hs := hs.front 2 rfl
  simp only [List.cons_append, List.nil_append, List.eraseIdx_cons_zero, List.eraseIdx_cons_succ] at hs
  refine Ls_storeAgg hs inf66 rfl rfl rfl rfl (by simp [Value.oneCell', Value.cells, jcells]) ?_
  intro w7 hs
  refine Ls_nil ?_
  refine Jm_seq ?_
  refine St_ret ?_
  refine Jm_retC rfl agg66 inf66 rfl rfl (hs.blk_cells 0 rfl 0 4) ?_
  replace hs := hs.erase 0
  simp only [List.cons_append, List.nil_append, List.eraseIdx_cons_zero, List.eraseIdx_cons_succ] at hs
  replace hs := hs.front 1 rfl
  simp only [List.cons_append, List.nil_append, List.eraseIdx_cons_zero, List.eraseIdx_cons_succ] at hs
  replace hs := Sat.own_block hs 1 1 rfl (by decide)
  replace hs := (hs.front 1 rfl)
  simp only [List.eraseIdx_cons_zero, List.eraseIdx_cons_succ] at hs
  replace hs := Sat.own_block hs 1 1 rfl (by decide)
  replace hs := (hs.front 1 rfl)
  simp only [List.eraseIdx_cons_zero, List.eraseIdx_cons_succ] at hs
  exact ⟨_, rfl, _, _, rfl, hs⟩
set_option maxRecDepth 100000 in
set_option maxHeartbeats 1000000 in
theorem notes_c (w : World) (n : NSt) (Ap : Option Addr) (cp : Nat) (Ac : Option Addr) (cc : Nat) (Bp : Option Addr) (dp : Nat) (Bc : Option Addr) (dc : Nat) (hn1 : Rd w Ap n.prev.length cp 1 (KI.flat n.prev)) (hn2 : Rd w Ac n.cur.length cc 1 (KI.flat n.cur)) (hn3 : Rd w Bp n.prev.length dp 1 (KI.flat n.prev)) (hn4 : Rd w Bc n.cur.length dc 1 (KI.flat n.cur)) (hz : n.prev.length ≤ 1073741824 ∧ n.cur.length ≤ 1073741824) :
    Calls Try.prog 36 [.agg #[.int .i64 n.batch, .slice Ap n.prev.length cp, .slice Ac n.cur.length cc, .int .i64 n.att], .agg #[.int .i64 n.batch, .slice Bp n.prev.length dp, .slice Bc n.cur.length dc, .int .i64 n.att]].toArray w (Ret (fun v' w' => v' = .bool true ∧ Sat w w' [])) := by
  have hs := Sat.start w
  refine Calls_body Try.func36 rfl rfl rfl (envE_cons (i := 0) (v := .agg #[.int .i64 n.batch, .slice Ap n.prev.length cp, .slice Ac n.cur.length cc, .int .i64 n.att]) rfl (envE_cons (i := 1) (v := .agg #[.int .i64 n.batch, .slice Bp n.prev.length dp, .slice Bc n.cur.length dc, .int .i64 n.att]) rfl envE_nil)) ?_
  refine St_seq ?_
  refine St_region ?_
  refine Ls_box hs rfl rfl ?_
  intro b2 w1 hs
  refine Ls_box hs rfl rfl ?_
  intro b4 w3 hs
  refine Ls_run (run_assign rfl) rfl ?_
  refine Ls_nil ?_
  refine Jm_seq ?_
  refine St_seq ?_
  refine St_region ?_
  refine Ls_run (run_as (run_field Try.underlying66 rfl inf3 (by decide) rfl) (show _ = Value.pointer (some ⟨b2, 3, none⟩) from rfl)) rfl ?_
  refine Ls_run (run_load sc3 rfl (hs.blk_at 1 rfl 3 rfl)) rfl ?_
  refine Ls_run (run_as (run_field Try.underlying66 rfl inf3 (by decide) rfl) (show _ = Value.pointer (some ⟨b4, 3, none⟩) from rfl)) rfl ?_
  refine Ls_run (run_load sc3 rfl (hs.blk_at 0 rfl 3 rfl)) rfl ?_
  refine Ls_run (run_asB (c := true) (run_eql rfl rfl) (by simp)) rfl ?_
  refine Ls_run (run_move rfl) rfl ?_
  refine Ls_on rfl rfl ?_
  refine Ls_run (run_as (run_field Try.underlying66 rfl inf64 (by decide) rfl) (show _ = Value.pointer (some ⟨b2, 0, none⟩) from rfl)) rfl ?_
  refine Ls_on rfl rfl ?_
  refine Ls_run (run_as (run_field Try.underlying64 rfl inf3 (by decide) rfl) (show _ = Value.pointer (some ⟨b2, 0, none⟩) from rfl)) rfl ?_
  refine Ls_on rfl rfl ?_
  refine Ls_run (run_load sc3 rfl (hs.blk_at 1 rfl 0 rfl)) rfl ?_
  refine Ls_on rfl rfl ?_
  refine Ls_run (run_as (run_field Try.underlying66 rfl inf64 (by decide) rfl) (show _ = Value.pointer (some ⟨b4, 0, none⟩) from rfl)) rfl ?_
  refine Ls_on rfl rfl ?_
  refine Ls_run (run_as (run_field Try.underlying64 rfl inf3 (by decide) rfl) (show _ = Value.pointer (some ⟨b4, 0, none⟩) from rfl)) rfl ?_
  refine Ls_on rfl rfl ?_
  refine Ls_run (run_load sc3 rfl (hs.blk_at 0 rfl 0 rfl)) rfl ?_
  refine Ls_on rfl rfl ?_
  refine Ls_run (run_asB (c := true) (run_eql rfl rfl) (by simp)) rfl ?_
  refine Ls_run (run_pick_t rfl rfl) rfl ?_
  refine Ls_run (run_move rfl) rfl ?_
  refine Ls_on rfl rfl ?_
  refine Ls_run (run_as (run_field Try.underlying66 rfl inf64 (by decide) rfl) (show _ = Value.pointer (some ⟨b2, 0, none⟩) from rfl)) rfl ?_
  refine Ls_on rfl rfl ?_
  refine Ls_run (run_as (run_field Try.underlying64 rfl inf62 (by decide) rfl) (show _ = Value.pointer (some ⟨b2, 1, none⟩) from rfl)) rfl ?_
  refine Ls_on rfl rfl ?_
  refine Ls_run (run_load sc62 rfl (hs.blk_at 1 rfl 1 rfl)) rfl ?_
  refine Ls_on rfl rfl ?_
  refine Ls_run (run_as (run_field Try.underlying66 rfl inf64 (by decide) rfl) (show _ = Value.pointer (some ⟨b4, 0, none⟩) from rfl)) rfl ?_
  refine Ls_on rfl rfl ?_
  refine Ls_run (run_as (run_field Try.underlying64 rfl inf62 (by decide) rfl) (show _ = Value.pointer (some ⟨b4, 1, none⟩) from rfl)) rfl ?_
  refine Ls_on rfl rfl ?_
  refine Ls_run (run_load sc62 rfl (hs.blk_at 0 rfl 1 rfl)) rfl ?_
  refine Ls_on rfl rfl ?_
  refine Ls_call Try.func49 nm49 rfl rfl (ints18_c w3 _ _ _ n.prev _ _ _ n.prev (hn1.inB hs) (hn3.inB hs) (by omega)) rfl ?_
  rintro v5 w6 ⟨rfl, hsI⟩
  replace hs := hs.trans hsI
  simp only [List.nil_append, List.cons_append] at hs
  rw [decide_eq_true (rfl : n.prev = n.prev)]
  refine Ls_run (run_pick_t rfl rfl) rfl ?_
  refine Ls_run (run_move rfl) rfl ?_
  refine Ls_on rfl rfl ?_
  refine Ls_run (run_as (run_field Try.underlying66 rfl inf64 (by decide) rfl) (show _ = Value.pointer (some ⟨b2, 0, none⟩) from rfl)) rfl ?_
  refine Ls_on rfl rfl ?_
  refine Ls_run (run_as (run_field Try.underlying64 rfl inf62 (by decide) rfl) (show _ = Value.pointer (some ⟨b2, 2, none⟩) from rfl)) rfl ?_
  refine Ls_on rfl rfl ?_
  refine Ls_run (run_load sc62 rfl (hs.blk_at 1 rfl 2 rfl)) rfl ?_
  refine Ls_on rfl rfl ?_
  refine Ls_run (run_as (run_field Try.underlying66 rfl inf64 (by decide) rfl) (show _ = Value.pointer (some ⟨b4, 0, none⟩) from rfl)) rfl ?_
  refine Ls_on rfl rfl ?_
  refine Ls_run (run_as (run_field Try.underlying64 rfl inf62 (by decide) rfl) (show _ = Value.pointer (some ⟨b4, 2, none⟩) from rfl)) rfl ?_
  refine Ls_on rfl rfl ?_
  refine Ls_run (run_load sc62 rfl (hs.blk_at 0 rfl 2 rfl)) rfl ?_
  refine Ls_on rfl rfl ?_
  refine Ls_call Try.func49 nm49 rfl rfl (ints18_c w6 _ _ _ n.cur _ _ _ n.cur (hn2.inB hs) (hn4.inB hs) (by omega)) rfl ?_
  rintro v7 w9 ⟨rfl, hsI⟩
  replace hs := hs.trans hsI
  simp only [List.nil_append, List.cons_append] at hs
  rw [decide_eq_true (rfl : n.cur = n.cur)]
  refine Ls_run (run_pick_t rfl rfl) rfl ?_
  refine Ls_run (run_assign rfl) rfl ?_
  refine Ls_nil ?_
  refine Jm_seq ?_
  refine St_ret ?_
  refine Jm_ret1 rfl rfl ?_
  exact ⟨_, rfl, rfl, hs.forget⟩
theorem notes_e (w : World) (n : NSt) (Ap : Option Addr) (cp : Nat) (Ac : Option Addr) (cc : Nat) (Bp : Option Addr) (dp : Nat) (Bc : Option Addr) (dc : Nat) (b a l1 l2 : Int) (lp lc : Nat) (hb : n.batch = b) (ha : n.att = a) (hp : n.prev.length = lp) (hc : n.cur.length = lc) (hn1 : Rd w Ap n.prev.length cp 1 (KI.flat n.prev)) (hn2 : Rd w Ac n.cur.length cc 1 (KI.flat n.cur)) (hn3 : Rd w Bp lp dp 1 (KI.flat n.prev)) (hn4 : Rd w Bc lc dc 1 (KI.flat n.cur)) (hz : n.prev.length ≤ 1073741824 ∧ n.cur.length ≤ 1073741824) :
    Calls Try.prog 36 [.agg #[.int .i64 n.batch, .slice Ap n.prev.length cp, .slice Ac n.cur.length cc, .int .i64 n.att], .agg #[.int .i64 b, .slice Bp lp dp, .slice Bc lc dc, .int .i64 a]].toArray w (Ret (fun v' w' => v' = .bool true ∧ Sat w w' [])) := by
  subst hb ha hp hc
  exact notes_c w n Ap cp Ac cc Bp dp Bc dc hn1 hn2 hn3 hn4 hz
theorem nbytes_31s : nbytes ((1 : Int) + 1 + 1) ⟨1, [0], [5], 1⟩ = [3, 1, 1, 1, 0, 1, 5] := nbytes_31
theorem nbytes_20s : nbytes ((1 : Int) + 1) ⟨0, [0], [0], 1⟩ = [2, 0, 1, 1, 0, 1, 0] := nbytes_20
set_option maxRecDepth 100000 in
set_option maxHeartbeats 1000000 in
theorem awake18_c (w : World) :
    Calls Try.prog 31 [].toArray w (Ret (fun v' w' => v' = .bool true ∧ Sat w w' [])) := by
  have hs := Sat.start w
  have hbyl : ∀ r ∈ ([[3, 1, 1, 1, 0, 1, 5], [2, 0, 1, 1, 0, 1, 0]] : List (List Int)), IsBytes r := by intro r hr; simp at hr; rcases hr with rfl | rfl <;> simp [IsBytes]
  refine Calls_body Try.func31 rfl rfl rfl envE_nil ?_
  refine St_seq ?_
  refine St_region ?_
  refine Ls_run (run_assign rfl) rfl ?_
  refine Ls_nil ?_
  refine Jm_seq ?_
  refine St_seq ?_
  refine St_region ?_
  refine Ls_call Try.func13 nm13 rfl rfl (New_c w 2 (by decide) (by decide)) rfl ?_
  rintro v1 w2 ⟨b0, rfl, hsD⟩
  replace hs := hs.trans hsD
  simp only [List.cons_append, List.nil_append] at hs
  refine Ls_run (run_move rfl) rfl ?_
  refine Ls_run (run_extract rfl rfl) rfl ?_
  refine Ls_run (run_extract rfl rfl) rfl ?_
  refine Ls_run (run_assign rfl) rfl ?_
  refine Ls_run (run_assign rfl) rfl ?_
  refine Ls_nil ?_
  refine Jm_seq ?_
  refine St_seq ?_
  refine St_region ?_
  refine Ls_run (run_move rfl) rfl ?_
  obtain ⟨d0, hf0, hdg0, hbl0, _⟩ := jformat_new (m := 1) (by decide) (by decide)
  refine Ls_call Try.func32 nm32 rfl rfl (Format_g w w2 _ b0 (dnew 2) hs (fun x hx => dg_new.2.2.2.2 x hx) 1 (by decide) (by decide)) rfl ?_
  rintro v3 w4 ⟨pj, rfl, hs⟩
  simp only [hf0] at hs ⊢
  obtain ⟨bj, hpj, h9⟩ := hs.joSome
  subst hpj
  replace hs := h9
  have hjo0 := jnew_ok (parts := 1) (by decide) (by decide)
  refine Ls_run (run_move rfl) rfl ?_
  refine Ls_run (run_extract rfl rfl) rfl ?_
  refine Ls_run (run_extract rfl rfl) rfl ?_
  refine Ls_run (run_assign rfl) rfl ?_
  refine Ls_run (run_assign rfl) rfl ?_
  refine Ls_nil ?_
  refine Jm_seq ?_
  refine St_seq ?_
  refine St_seq ?_
  refine St_region ?_
  refine Ls_run (run_move rfl) rfl ?_
  refine Ls_run (run_asB (c := false) (run_eql_ptr_nil Try.underlying24 rfl rfl) rfl) rfl ?_
  refine Ls_run (run_move rfl) rfl ?_
  refine Ls_on rfl rfl ?_
  refine Ls_run (run_move rfl) rfl ?_
  refine Ls_on rfl rfl ?_
  refine Ls_run (run_asB (c := false) (run_eql_ptr_nil Try.underlying59 rfl rfl) rfl) rfl ?_
  refine Ls_run (run_pick_f rfl rfl) rfl ?_
  refine Ls_run (run_move rfl) rfl ?_
  refine Ls_on rfl rfl ?_
  refine Ls_run (run_move rfl) rfl ?_
  refine Ls_on rfl rfl ?_
  refine Ls_run (run_asB (c := false) (run_neq rfl rfl) (by decide)) rfl ?_
  refine Ls_run (run_pick_f rfl rfl) rfl ?_
  refine Ls_run (run_move rfl) rfl ?_
  refine Ls_on rfl rfl ?_
  refine Ls_run (run_move rfl) rfl ?_
  refine Ls_on rfl rfl ?_
  refine Ls_run (run_asB (c := false) (run_neq rfl rfl) (by decide)) rfl ?_
  refine Ls_run (run_pick_f rfl rfl) rfl ?_
  refine Ls_nil ?_
  refine Jm_seq ?_
  refine St_iff rfl ?_
  refine St_skip ?_
  refine Jm_seq ?_
  refine St_seq ?_
  refine St_region ?_
  refine Ls_run (run_move rfl) rfl ?_
  refine Ls_call Try.func64 nm64 rfl rfl (laid18_c w4 0 0 0 1) rfl ?_
  rintro v6 w7 ⟨g1, k1, rfl, hsL⟩
  replace hs := hs.trans hsL
  simp only [List.cons_append, List.nil_append] at hs
  replace hs := hs.front 3 rfl
  simp only [List.cons_append, List.nil_append, List.eraseIdx_cons_zero, List.eraseIdx_cons_succ] at hs
  replace hs := hs.front 3 rfl
  simp only [List.cons_append, List.nil_append, List.eraseIdx_cons_zero, List.eraseIdx_cons_succ] at hs
  obtain ⟨d1, hv1, hdg1, hbl1, _, hjo1⟩ := jsave_ok (n := ⟨0, [0], [0], 1⟩) hjo0 rfl hdg0 (by decide) (by decide) (by decide)
  replace hv1 : jsave (jnew 1) d0 ⟨0, [0], [0], 1⟩ = (0, ⟨1, ⟨0, [0], [0], 1⟩, 2, 1, false⟩, d1) := hv1
  replace hjo1 : JOk ⟨1, ⟨0, [0], [0], 1⟩, 2, 1, false⟩ := hjo1
  refine Ls_call Try.func35 nm35 rfl rfl (Save_c w w7 _ bj b0 (jnew 1) d0 hs hjo0 hdg0.2.2.2.2 ⟨0, [0], [0], 1⟩ _ _ _ _ (fun w' X q => q.rd_at 1 rfl) (fun w' X q => q.rd_at 2 rfl) (by decide)) rfl ?_
  rintro v8 w9 ⟨rfl, hs⟩
  simp only [hv1] at hs ⊢
  refine Ls_run (run_assign rfl) rfl ?_
  refine Ls_nil ?_
  refine Jm_seq ?_
  refine St_seq ?_
  refine St_region ?_
  refine Ls_run (run_move rfl) rfl ?_
  refine Ls_call Try.func64 nm64 rfl rfl (laid18_c w9 1 0 5 1) rfl ?_
  rintro v10 w11 ⟨g2, k2, rfl, hsL⟩
  replace hs := hs.trans hsL
  simp only [List.cons_append, List.nil_append] at hs
  replace hs := hs.front 3 rfl
  simp only [List.cons_append, List.nil_append, List.eraseIdx_cons_zero, List.eraseIdx_cons_succ] at hs
  replace hs := hs.front 3 rfl
  simp only [List.cons_append, List.nil_append, List.eraseIdx_cons_zero, List.eraseIdx_cons_succ] at hs
  obtain ⟨d2, hv2, hdg2, hbl2, _, hjo2⟩ := jsave_ok (n := ⟨1, [0], [5], 1⟩) hjo1 rfl hdg1 (by decide) (by decide) (by decide)
  replace hv2 : jsave ⟨1, ⟨0, [0], [0], 1⟩, 2, 1, false⟩ d1 ⟨1, [0], [5], 1⟩ = (0, ⟨1, ⟨1, [0], [5], 1⟩, 3, 0, false⟩, d2) := hv2
  replace hjo2 : JOk ⟨1, ⟨1, [0], [5], 1⟩, 3, 0, false⟩ := hjo2
  refine Ls_call Try.func35 nm35 rfl rfl (Save_c w w11 _ bj b0 ⟨1, ⟨0, [0], [0], 1⟩, 2, 1, false⟩ d1 hs hjo1 hdg1.2.2.2.2 ⟨1, [0], [5], 1⟩ _ _ _ _ (fun w' X q => q.rd_at 1 rfl) (fun w' X q => q.rd_at 2 rfl) (by decide)) rfl ?_
  rintro v12 w13 ⟨rfl, hs⟩
  simp only [hv2] at hs ⊢
  refine Ls_run (run_assign rfl) rfl ?_
  refine Ls_nil ?_
  refine Jm_seq ?_
  refine St_seq ?_
  refine St_region ?_
  refine Ls_run (run_move rfl) rfl ?_
  refine Ls_call Try.func64 nm64 rfl rfl (laid18_c w13 2 4 6 1) rfl ?_
  rintro v14 w15 ⟨g3, k3, rfl, hsL⟩
  replace hs := hs.trans hsL
  simp only [List.cons_append, List.nil_append] at hs
  replace hs := hs.front 3 rfl
  simp only [List.cons_append, List.nil_append, List.eraseIdx_cons_zero, List.eraseIdx_cons_succ] at hs
  replace hs := hs.front 3 rfl
  simp only [List.cons_append, List.nil_append, List.eraseIdx_cons_zero, List.eraseIdx_cons_succ] at hs
  have hv3 := jsave_order (j := ⟨1, ⟨1, [0], [5], 1⟩, 3, 0, false⟩) (d := d2) (n := ⟨2, [4], [6], 1⟩) rfl hdg2.1 (by decide) (by decide)
  refine Ls_call Try.func35 nm35 rfl rfl (Save_c w w15 _ bj b0 ⟨1, ⟨1, [0], [5], 1⟩, 3, 0, false⟩ d2 hs hjo2 hdg2.2.2.2.2 ⟨2, [4], [6], 1⟩ _ _ _ _ (fun w' X q => q.rd_at 1 rfl) (fun w' X q => q.rd_at 2 rfl) (by decide)) rfl ?_
  rintro v16 w17 ⟨rfl, hs⟩
  simp only [hv3] at hs ⊢
  refine Ls_run (run_assign rfl) rfl ?_
  refine Ls_nil ?_
  refine Jm_seq ?_
  refine St_seq ?_
  refine St_region ?_
  refine Ls_run (run_move rfl) rfl ?_
  refine Ls_run (run_asB (c := true) (run_eql rfl rfl) (by decide)) rfl ?_
  refine Ls_run (run_move rfl) rfl ?_
  refine Ls_on rfl rfl ?_
  refine Ls_run (run_move rfl) rfl ?_
  refine Ls_on rfl rfl ?_
  refine Ls_run (run_asB (c := true) (run_eql rfl rfl) (by decide)) rfl ?_
  refine Ls_run (run_pick_t rfl rfl) rfl ?_
  refine Ls_run (run_move rfl) rfl ?_
  refine Ls_on rfl rfl ?_
  refine Ls_run (run_move rfl) rfl ?_
  refine Ls_on rfl rfl ?_
  refine Ls_run (run_asB (c := true) (run_eql rfl rfl) (by decide)) rfl ?_
  refine Ls_run (run_pick_t rfl rfl) rfl ?_
  refine Ls_run (run_move rfl) rfl ?_
  refine Ls_on rfl rfl ?_
  refine Ls_run (run_move rfl) rfl ?_
  refine Ls_on rfl rfl ?_
  refine Ls_call Try.func33 nm33 rfl rfl (Note_c w w17 _ bj _ ⟨1, ⟨1, [0], [5], 1⟩, 3, 0, false⟩ hs (by decide)) rfl ?_
  rintro v18 w19 ⟨Ap4, cp4, Ac4, cc4, rfl, hs⟩
  refine Ls_on rfl rfl ?_
  refine Ls_call Try.func64 nm64 rfl rfl (laid18_c w19 1 0 5 1) rfl ?_
  rintro v20 w21 ⟨g5, k5, rfl, hsL⟩
  replace hs := hs.trans hsL
  simp only [List.cons_append, List.nil_append] at hs
  refine Ls_on rfl rfl ?_
  refine Ls_call Try.func36 nm36 rfl rfl (notes_c w21 ⟨1, [0], [5], 1⟩ _ _ _ _ _ _ _ _ (hs.rd_at 2 rfl) (hs.rd_at 3 rfl) (hs.rd_at 0 rfl) (hs.rd_at 1 rfl) (by decide)) rfl ?_
  rintro v22 w23 ⟨rfl, hsI⟩
  replace hs := hs.trans hsI
  simp only [List.nil_append, List.cons_append] at hs
  refine Ls_run (run_pick_t rfl rfl) rfl ?_
  refine Ls_run (run_move rfl) rfl ?_
  refine Ls_on rfl rfl ?_
  refine Ls_run (run_move rfl) rfl ?_
  refine Ls_on rfl rfl ?_
  replace hs := hs.front 4 rfl
  simp only [List.cons_append, List.nil_append, List.eraseIdx_cons_zero, List.eraseIdx_cons_succ] at hs
  obtain ⟨Ap6, cp6, Ac6, cc6, hq6⟩ := hs.jopen
  refine Ls_call Try.func45 nm45 rfl rfl (Ended_c w23 bj _ ⟨1, ⟨1, [0], [5], 1⟩, 3, 0, false⟩ Ap6 cp6 Ac6 cc6 (hq6.is_at 0 rfl).2) rfl ?_
  rintro v24 w25 ⟨rfl, rfl⟩
  refine Ls_on rfl rfl ?_
  refine Ls_run (run_not rfl) rfl ?_
  refine Ls_run (run_pick_t rfl rfl) rfl ?_
  refine Ls_run (run_move rfl) rfl ?_
  refine Ls_on rfl rfl ?_
  refine Ls_run (run_move rfl) rfl ?_
  refine Ls_on rfl rfl ?_
  replace hs := hs.front 5 rfl
  simp only [List.cons_append, List.nil_append, List.eraseIdx_cons_zero, List.eraseIdx_cons_succ] at hs
  refine Ls_call Try.func21 nm21 rfl rfl (Image_c w w23 _ b0 d2 hs (fun r hr => (hdg2.2.2.2.2 r hr).2) hdg2.2.2.2.1) rfl ?_
  rintro v26 w27 ⟨Ai, ci, vi, rfl, hvi, hs⟩
  replace hs := Sat.toKeep (F := fun w => Rd w Ai d2.bl.length ci 1 (El.val.flat vi) ∧ PartsK (El.int .u8) w vi d2.bl) (fun B w q => ⟨q.rd_at 0 rfl, Sat.parts (pre := [_]) q hvi⟩) hs
  have hbl2e : d2.bl = [[3, 1, 1, 1, 0, 1, 5], [2, 0, 1, 1, 0, 1, 0]] := by rw [hbl2, hbl1, hbl0]; show [nbytes 3 ⟨1, [0], [5], 1⟩, nbytes 2 ⟨0, [0], [0], 1⟩] = _; rw [nbytes_31, nbytes_20]
  rw [hbl2e] at hs ⊢
  refine Ls_on rfl rfl ?_
  refine Ls_literal [_, _, _, _, _, _, _] hs Try.underlying31 inf5 rfl rfl rfl rfl rfl rfl ?_
  intro b28 w29 hs
  simp only [List.flatMap_cons, List.flatMap_nil, Value.cells, List.cons_append, List.nil_append] at hs
  refine Ls_on rfl rfl ?_
  refine Ls_stringish hs Try.underlying31 Try.underlying5 rfl rfl ?_
  intro w30 hs
  refine Ls_on rfl rfl ?_
  refine Ls_literal [_, _, _, _, _, _, _] hs Try.underlying31 inf5 rfl rfl rfl rfl rfl rfl ?_
  intro b31 w32 hs
  simp only [List.flatMap_cons, List.flatMap_nil, Value.cells, List.cons_append, List.nil_append] at hs
  refine Ls_on rfl rfl ?_
  refine Ls_stringish hs Try.underlying31 Try.underlying5 rfl rfl ?_
  intro w33 hs
  refine Ls_on rfl rfl ?_
  refine Ls_literal [_, _] hs Try.underlying28 inf31 rfl rfl rfl rfl rfl rfl ?_
  intro b34 w35 hs
  simp only [List.flatMap_cons, List.flatMap_nil, Value.cells, List.cons_append, List.nil_append] at hs
  refine Ls_on rfl rfl ?_
  have hrL := (rd_block (hs.is_at 0 rfl).2 1 2 rfl)
  rw [← El.val_flat [_, _]] at hrL
  refine Ls_call Try.func48 nm48 rfl rfl (images18_c w35 _ _ _ vi [[3, 1, 1, 1, 0, 1, 5], [2, 0, 1, 1, 0, 1, 0]] _ _ _ _ [[3, 1, 1, 1, 0, 1, 5], [2, 0, 1, 1, 0, 1, 0]] (hs.kept 3 rfl).1 hrL (hs.kept 3 rfl).2 (PartsK.cons (by rw [← bytesV_flat]; exact (rd_block (hs.is_at 2 rfl).2 1 7 rfl : Rd _ _ 7 7 1 (bytesV [3, 1, 1, 1, 0, 1, 5]))) (PartsK.cons (by rw [← bytesV_flat]; exact (rd_block (hs.is_at 1 rfl).2 1 7 rfl : Rd _ _ 7 7 1 (bytesV [2, 0, 1, 1, 0, 1, 0]))) (PartsK.nil _ _))) hbyl hbyl (by decide)) rfl ?_
  rintro v36 w37 ⟨rfl, hsI⟩
  replace hs := hs.trans hsI
  rw [decide_eq_true rfl]
  refine Ls_run (run_pick_t rfl rfl) rfl ?_
  refine Ls_run (run_assign rfl) rfl ?_
  refine Ls_nil ?_
  refine Jm_seq ?_
  refine St_ret ?_
  refine Jm_ret1 rfl rfl ?_
  exact ⟨_, rfl, rfl, hs.forget⟩
end Go.Proofs.Ytpmkedgennnekaa.Lg
