/-
  The law JournalGoes, walked. By program (gen/jour11.py).
-/
import Derived.Test.YtpmkedgennnekaaJour10
set_option linter.unusedVariables false
set_option linter.unusedSimpArgs false
namespace Go.Proofs.Ytpmkedgennnekaa.Lg
open Go Go.RowKit Go.Proofs.Ytpmkedgennnekaa.WirePure
theorem jsave_gone {j : JSt} {d : DSt} {n : NSt} (hj : JOk j) (he : j.ended = false) (hd : d.down = false) (h2 : 2 ≤ d.bl.length) (ha : d.armed = true) (hl : d.left = 0) (hn : noteOk n j.parts) (hf : follows j.n n) (hg : j.gen < 1099511627776) :
    jsave j d n = (80, { j with ended := true }, doff d) := by
  have hb := nbytes_len hn hj.2.2.1 (gen := j.gen + 1) (by have := hj.2.2.2.1; omega)
  have h1 := dwrite_gone (s := d) (k := (1 - j.slot).toNat) (l := nbytes (j.gen + 1) n) hd (by rcases hj.2.2.2.2.2 with e | e <;> rw [e] <;> simp <;> omega) (by omega) ha hl
  have e : (((1 - j.slot).toNat : Nat) : Int) = 1 - j.slot := by rcases hj.2.2.2.2.2 with e | e <;> rw [e] <;> rfl
  rw [e] at h1
  unfold jsave
  rw [jend_same he hd, if_neg (by simp [he]), if_neg (by simpa using hn), if_neg (by simpa using hf), if_neg (by omega), h1]
  simp
theorem jsave_ended {j : JSt} {d : DSt} {n : NSt} (he : j.ended = true) : jsave j d n = (80, jend j d, d) := by
  unfold jsave
  rw [if_pos (by simp [jend, he])]
theorem jsave_no {j : JSt} {d : DSt} {n : NSt} (he : j.ended = false) (hd : d.down = false) (hf : ¬ follows j.n n) : ∃ e, jsave j d n = (e, j, d) ∧ (e = 7 ∨ e = 1) := by
  by_cases hm : noteOk n j.parts
  · exact ⟨7, jsave_order he hd hm hf, .inl rfl⟩
  · exact ⟨1, jsave_arg he hd hm, .inr rfl⟩
theorem dg_back {d : DSt} (h : DG d) : DG (don (doff (dcut d 0))) := ⟨rfl, rfl, h.2.2.1, h.2.2.2.1, h.2.2.2.2⟩
set_option maxRecDepth 100000 in
set_option maxHeartbeats 1000000 in
theorem JournalGoes_bad (w : World) (A2 : Option Addr) (n2 c2 : Nat) (pl : List (Option Addr × Nat × Nat × Int × Bool × Bool × Int)) (hr : Rd w A2 n2 c2 5 (KTurn.flat pl)) (hput : ∀ x ∈ pl, TurnOk w x) (hn2 : n2 ≤ 9223372036854775807) (parts : Int) (hpb : parts < 1 ∨ 4 < parts) :
    Calls Try.prog 11 [.int .i64 parts, .slice A2 n2 c2].toArray w (Ret (fun v' w' => v' = .bool true ∧ Below w.heap.size w w')) := by
  have hs := Sat.start w
  have hl : pl.length = n2 := by have := hr.len; rw [El.flat_length] at this; exact Nat.eq_of_mul_eq_mul_right (by decide) this
  refine Calls_body Try.func11 rfl rfl rfl (envE_cons (i := 0) (v := .int .i64 parts) rfl (envE_cons (i := 1) (v := .slice A2 n2 c2) rfl envE_nil)) ?_
  refine St_seq ?_
  refine St_region ?_
  refine Ls_run (run_assign rfl) rfl ?_
  refine Ls_nil ?_
  refine Jm_seq ?_
  refine St_seq ?_
  refine St_seq ?_
  refine St_region ?_
  refine Ls_call Try.func31 nm31 rfl rfl (awake18_c w) rfl ?_
  rintro v1 w2 ⟨rfl, hsA⟩
  replace hs := hs.trans hsA
  simp only [List.nil_append] at hs
  refine Ls_run (run_not rfl) rfl ?_
  refine Ls_nil ?_
  refine Jm_seq ?_
  refine St_iff rfl ?_
  refine St_skip ?_
  refine Jm_seq ?_
  refine St_seq ?_
  refine St_region ?_
  refine Ls_call Try.func13 nm13 rfl rfl (New_c w2 2 (by decide) (by decide)) rfl ?_
  rintro v4 w5 ⟨b0, rfl, hsD⟩
  replace hs := hs.trans hsD
  simp only [List.cons_append, List.nil_append] at hs
  refine Ls_run (run_move rfl) rfl ?_
  refine Ls_run (run_extract rfl rfl) rfl ?_
  refine Ls_run (run_extract rfl rfl) rfl ?_
  refine Ls_run (run_assign rfl) rfl ?_
  refine Ls_run (run_assign rfl) rfl ?_
  refine Ls_nil ?_
  refine Jm_seq ?_
  refine St_seq ?_
  refine St_region ?_
  refine Ls_run (run_move rfl) rfl ?_
  refine Ls_run (run_move rfl) rfl ?_
  refine Ls_call Try.func32 nm32 rfl rfl (Format_bad w5 b0 parts hpb) rfl ?_
  rintro v6 w7 ⟨rfl, rfl⟩
  refine Ls_run (run_move rfl) rfl ?_
  refine Ls_run (run_extract rfl rfl) rfl ?_
  refine Ls_run (run_extract rfl rfl) rfl ?_
  refine Ls_run (run_assign rfl) rfl ?_
  refine Ls_run (run_assign rfl) rfl ?_
  refine Ls_nil ?_
  refine Jm_seq ?_
  refine St_seq ?_
  refine St_seq ?_
  refine St_region ?_
  refine Ls_run (run_move rfl) rfl ?_
  refine Ls_run (run_asB (c := false) (run_neq rfl rfl) (by decide)) rfl ?_
  refine Ls_run (run_move rfl) rfl ?_
  refine Ls_on rfl rfl ?_
  refine Ls_run (run_move rfl) rfl ?_
  refine Ls_on rfl rfl ?_
  refine Ls_run (run_asB (c := true) (run_neq rfl rfl) (by decide)) rfl ?_
  refine Ls_run (run_pick_f rfl rfl) rfl ?_
  refine Ls_nil ?_
  refine Jm_seq ?_
  refine St_ift rfl ?_
  refine St_seq ?_
  refine St_region ?_
  refine Ls_run (run_move rfl) rfl ?_
  refine Ls_run (run_asB (c := true) (run_eql rfl rfl) (by decide)) rfl ?_
  refine Ls_run (run_move rfl) rfl ?_
  refine Ls_on rfl rfl ?_
  refine Ls_run (run_move rfl) rfl ?_
  refine Ls_on rfl rfl ?_
  refine Ls_run (run_asB (c := true) (run_eql rfl rfl) (by decide)) rfl ?_
  refine Ls_run (run_pick_t rfl rfl) rfl ?_
  refine Ls_run (run_move rfl) rfl ?_
  refine Ls_on rfl rfl ?_
  refine Ls_run (run_move rfl) rfl ?_
  refine Ls_on rfl rfl ?_
  refine Ls_run (run_asB (c := true) (run_eql_ptr_nil Try.underlying59 rfl rfl) rfl) rfl ?_
  refine Ls_run (run_pick_t rfl rfl) rfl ?_
  refine Ls_run (run_move rfl) rfl ?_
  refine Ls_on rfl rfl ?_
  refine Ls_run (run_move rfl) rfl ?_
  refine Ls_on rfl rfl ?_
  refine Ls_run (run_lss rfl rfl) rfl ?_
  refine Ls_on rfl rfl ?_
  refine Ls_run (run_move rfl) rfl ?_
  refine Ls_partP (t := 49) rfl (fun h9 => ?_) (fun h9 => ?_)
  · skip
    refine Ls_off rfl rfl rfl rfl ?_
    refine Ls_off rfl rfl rfl rfl ?_
    refine Ls_on rfl rfl ?_
    refine Ls_run (run_pick_t rfl rfl) rfl ?_
    refine Ls_run (run_pick_t rfl rfl) rfl ?_
    refine Ls_run (run_assign rfl) rfl ?_
    refine Ls_nil ?_
    refine Jm_seq ?_
    refine St_ret ?_
    refine Jm_then_ret  ?_
    refine Jm_ret1 rfl rfl ?_
    exact ⟨_, rfl, rfl, hs.below⟩
  · skip
    refine Ls_on rfl rfl ?_
    refine Ls_run (run_move rfl) rfl ?_
    refine Ls_on rfl rfl ?_
    refine Ls_run (run_asB (c := true) (run_gtr rfl rfl) (decide_eq_true (by omega))) rfl ?_
    refine Ls_on rfl rfl ?_
    refine Ls_run (run_pick_f rfl rfl) rfl ?_
    refine Ls_run (run_pick_t rfl rfl) rfl ?_
    refine Ls_run (run_assign rfl) rfl ?_
    refine Ls_nil ?_
    refine Jm_seq ?_
    refine St_ret ?_
    refine Jm_then_ret  ?_
    refine Jm_ret1 rfl rfl ?_
    exact ⟨_, rfl, rfl, hs.below⟩
set_option maxRecDepth 100000 in
set_option maxHeartbeats 1000000 in
theorem JournalGoes_ok (w : World) (A2 : Option Addr) (n2 c2 : Nat) (pl : List (Option Addr × Nat × Nat × Int × Bool × Bool × Int)) (hr : Rd w A2 n2 c2 5 (KTurn.flat pl)) (hput : ∀ x ∈ pl, TurnOk w x) (hn2 : n2 ≤ 9223372036854775807) (pp : Nat) (hp1 : 1 ≤ pp) (hp4 : pp ≤ 4) :
    Calls Try.prog 11 [.int .i64 (pp : Int), .slice A2 n2 c2].toArray w (Ret (fun v' w' => v' = .bool true ∧ Below w.heap.size w w')) := by
  have hs := Sat.start w
  have hl : pl.length = n2 := by have := hr.len; rw [El.flat_length] at this; exact Nat.eq_of_mul_eq_mul_right (by decide) this
  refine Calls_body Try.func11 rfl rfl rfl (envE_cons (i := 0) (v := .int .i64 (pp : Int)) rfl (envE_cons (i := 1) (v := .slice A2 n2 c2) rfl envE_nil)) ?_
  refine St_seq ?_
  refine St_region ?_
  refine Ls_run (run_assign rfl) rfl ?_
  refine Ls_nil ?_
  refine Jm_seq ?_
  refine St_seq ?_
  refine St_seq ?_
  refine St_region ?_
  refine Ls_call Try.func31 nm31 rfl rfl (awake18_c w) rfl ?_
  rintro v1 w2 ⟨rfl, hsA⟩
  replace hs := hs.trans hsA
  simp only [List.nil_append] at hs
  refine Ls_run (run_not rfl) rfl ?_
  refine Ls_nil ?_
  refine Jm_seq ?_
  refine St_iff rfl ?_
  refine St_skip ?_
  refine Jm_seq ?_
  refine St_seq ?_
  refine St_region ?_
  refine Ls_call Try.func13 nm13 rfl rfl (New_c w2 2 (by decide) (by decide)) rfl ?_
  rintro v4 w5 ⟨b0, rfl, hsD⟩
  replace hs := hs.trans hsD
  simp only [List.cons_append, List.nil_append] at hs
  refine Ls_run (run_move rfl) rfl ?_
  refine Ls_run (run_extract rfl rfl) rfl ?_
  refine Ls_run (run_extract rfl rfl) rfl ?_
  refine Ls_run (run_assign rfl) rfl ?_
  refine Ls_run (run_assign rfl) rfl ?_
  refine Ls_nil ?_
  refine Jm_seq ?_
  refine St_seq ?_
  refine St_region ?_
  refine Ls_run (run_move rfl) rfl ?_
  refine Ls_run (run_move rfl) rfl ?_
  obtain ⟨d0, hf0, hdg0, hbl0, hwr0⟩ := jformat_new (m := pp) hp1 hp4
  refine Ls_call Try.func32 nm32 rfl rfl (Format_g w w5 _ b0 (dnew 2) hs (fun x hx => dg_new.2.2.2.2 x hx) pp hp1 hp4) rfl ?_
  rintro v6 w7 ⟨pj, rfl, hs⟩
  simp only [hf0] at hs ⊢
  obtain ⟨bj, hpj, h9⟩ := hs.joSome
  subst hpj
  replace hs := h9
  have hjo0 := jnew_ok hp1 hp4
  refine Ls_run (run_move rfl) rfl ?_
  refine Ls_run (run_extract rfl rfl) rfl ?_
  refine Ls_run (run_extract rfl rfl) rfl ?_
  refine Ls_run (run_assign rfl) rfl ?_
  refine Ls_run (run_assign rfl) rfl ?_
  refine Ls_nil ?_
  refine Jm_seq ?_
  refine St_seq ?_
  refine St_seq ?_
  refine St_region ?_
  refine Ls_run (run_move rfl) rfl ?_
  refine Ls_run (run_asB (c := false) (run_neq rfl rfl) (by decide)) rfl ?_
  refine Ls_run (run_move rfl) rfl ?_
  refine Ls_on rfl rfl ?_
  refine Ls_run (run_move rfl) rfl ?_
  refine Ls_on rfl rfl ?_
  refine Ls_run (run_asB (c := false) (run_neq rfl rfl) (by decide)) rfl ?_
  refine Ls_run (run_pick_f rfl rfl) rfl ?_
  refine Ls_nil ?_
  refine Jm_seq ?_
  refine St_iff rfl ?_
  refine St_skip ?_
  refine Jm_seq ?_
  refine St_seq ?_
  refine St_region ?_
  refine Ls_run (run_move rfl) rfl ?_
  refine Ls_call Try.func33 nm33 rfl rfl (Note_c w w7 _ bj _ (jnew pp) hs (by simp [jnew]; omega)) rfl ?_
  rintro v9 w10 ⟨Ap0, cp0, Ac0, cc0, rfl, hs⟩
  replace hs := Sat.toKeep (L1 := [_, _]) (F := fun w => NRd w (jnew pp).n Ap0 cp0 Ac0 cc0) (fun B w q => ⟨q.rd_at 0 rfl, q.rd_at 1 rfl⟩) hs
  refine Ls_alloc hs inf66 rfl ?_
  intro b12 w11 hs
  refine Ls_storeAgg hs inf66 rfl rfl rfl rfl (by simp [Value.oneCell', Value.cells, jcells]) ?_
  intro w13 hs
  refine Ls_nil ?_
  refine Jm_seq ?_
  refine St_seq ?_
  refine St_seq ?_
  refine St_draw (fun x => Below w13.heap.size w13 x) mixed ?_
  intro w14 q15
  have hH := q15.below
  replace hs := hs.quiet q15
  refine An_grow hH ?_
  replace hH := Below.refl w14.heap.size w14
  refine An_take 0 rfl (by kernel_rfl) (by kernel_rfl) (by kernel_rfl) (fun _ _ _ h => h) hH (fun x hx => run_as (run_field Try.underlying66 rfl inf3 (by decide) rfl) (show _ = Value.pointer (some ⟨b12, 3, none⟩) from rfl)) rfl ?_
  refine An_take 1 rfl (by kernel_rfl) (by kernel_rfl) (by kernel_rfl) (fun _ _ _ h => h) hH (fun x hx => run_load sc3 rfl ((hs.grow hx).blk_at 0 rfl 3 rfl)) rfl ?_
  refine An_take 2 rfl (by kernel_rfl) (by kernel_rfl) (by kernel_rfl) (fun _ _ _ h => h) hH (fun x hx => run_asB (c := false) (run_neq rfl rfl) (by simp [jnew])) rfl ?_
  refine An_take 3 rfl (by kernel_rfl) (by kernel_rfl) (by kernel_rfl) (fun _ _ _ h => h) hH (fun x hx => run_move rfl) rfl ?_
  refine An_take_on 4 rfl (by kernel_rfl) (by kernel_rfl) (by kernel_rfl) rfl rfl (fun _ _ _ h => h) hH (fun x hx => run_as (run_field Try.underlying66 rfl inf64 (by decide) rfl) (show _ = Value.pointer (some ⟨b12, 0, none⟩) from rfl)) rfl ?_
  refine An_take_on 5 rfl (by kernel_rfl) (by kernel_rfl) (by kernel_rfl) rfl rfl (fun _ _ _ h => h) hH (fun x hx => run_as (run_field Try.underlying64 rfl inf3 (by decide) rfl) (show _ = Value.pointer (some ⟨b12, 0, none⟩) from rfl)) rfl ?_
  refine An_take_on 6 rfl (by kernel_rfl) (by kernel_rfl) (by kernel_rfl) rfl rfl (fun _ _ _ h => h) hH (fun x hx => run_load sc3 rfl ((hs.grow hx).blk_at 0 rfl 0 rfl)) rfl ?_
  refine An_take_on 7 rfl (by kernel_rfl) (by kernel_rfl) (by kernel_rfl) rfl rfl (fun _ _ _ h => h) hH (fun x hx => run_asB (c := false) (run_neq rfl rfl) (by simp [jnew])) rfl ?_
  refine An_take 8 rfl (by kernel_rfl) (by kernel_rfl) (by kernel_rfl) (fun _ _ _ h => h) hH (fun x hx => run_pick_f rfl rfl) rfl ?_
  refine An_take 9 rfl (by kernel_rfl) (by kernel_rfl) (by kernel_rfl) (fun _ _ _ h => h) hH (fun x hx => run_move rfl) rfl ?_
  refine An_take_on 10 rfl (by kernel_rfl) (by kernel_rfl) (by kernel_rfl) rfl rfl (fun _ _ _ h => h) hH (fun x hx => run_as (run_field Try.underlying66 rfl inf64 (by decide) rfl) (show _ = Value.pointer (some ⟨b12, 0, none⟩) from rfl)) rfl ?_
  refine An_take_on 11 rfl (by kernel_rfl) (by kernel_rfl) (by kernel_rfl) rfl rfl (fun _ _ _ h => h) hH (fun x hx => run_as (run_field Try.underlying64 rfl inf62 (by decide) rfl) (show _ = Value.pointer (some ⟨b12, 2, none⟩) from rfl)) rfl ?_
  refine An_take_on 12 rfl (by kernel_rfl) (by kernel_rfl) (by kernel_rfl) rfl rfl (fun _ _ _ h => h) hH (fun x hx => run_load sc62 rfl ((hs.grow hx).blk_at 0 rfl 2 rfl)) rfl ?_
  refine An_take_on 13 rfl (by kernel_rfl) (by kernel_rfl) (by kernel_rfl) rfl rfl (fun _ _ _ h => h) hH (fun x hx => run_move rfl) rfl ?_
  refine An_only 14 (by kernel_rfl) rfl ?_
  refine Ls_on rfl rfl ?_
  refine Ls_make (m := pp) (Sat.start w14) Try.underlying62 infq3 rfl rfl rfl (by omega) (by omega) rfl ?_
  intro b16 w17 hsN18
  replace hs := hs.trans hsN18
  simp only [List.cons_append, List.nil_append] at hs
  replace hH := (hsN18.below : Below w14.heap.size w14 w17)
  refine Ls_nil (Jm_An hH ?_)
  refine An_grow hH ?_
  replace hH := Below.refl w17.heap.size w17
  refine An_only 15 (by kernel_rfl) rfl ?_
  refine Ls_on rfl rfl ?_
  try rw [← flatKI_rep pp] at hs
  try simp only [List.nil_append, List.cons_append] at hs
  refine Ls_call Try.func49 nm49 rfl rfl (ints18_c w17 _ _ _ (jnew pp).n.cur _ _ _ (List.replicate pp 0) (hs.kept 2 rfl).2 (hs.rd_at 0 rfl) (by simp [jnew]; omega)) rfl ?_
  rintro v19 w20 ⟨rfl, hsI⟩
  replace hs := hs.trans hsI
  simp only [List.nil_append, List.cons_append] at hs
  rw [decide_eq_true (show (jnew pp).n.cur = List.replicate pp 0 from rfl)]
  replace hH := (hsI.below : Below w17.heap.size w17 w20)
  refine Ls_nil (Jm_An hH ?_)
  refine An_grow hH ?_
  replace hH := Below.refl w20.heap.size w20
  refine An_take_on 16 rfl (by kernel_rfl) (by kernel_rfl) (by kernel_rfl) rfl rfl (fun _ _ _ h => h) hH (fun x hx => run_not rfl) rfl ?_
  refine An_take 17 rfl (by kernel_rfl) (by kernel_rfl) (by kernel_rfl) (fun _ _ _ h => h) hH (fun x hx => run_pick_f rfl rfl) rfl ?_
  refine An_take 18 rfl (by kernel_rfl) (by kernel_rfl) (by kernel_rfl) (fun _ _ _ h => h) hH (fun x hx => run_move rfl) rfl ?_
  refine An_take_on 19 rfl (by kernel_rfl) (by kernel_rfl) (by kernel_rfl) rfl rfl (fun _ _ _ h => h) hH (fun x hx => run_as (run_field Try.underlying66 rfl inf64 (by decide) rfl) (show _ = Value.pointer (some ⟨b12, 0, none⟩) from rfl)) rfl ?_
  refine An_take_on 20 rfl (by kernel_rfl) (by kernel_rfl) (by kernel_rfl) rfl rfl (fun _ _ _ h => h) hH (fun x hx => run_as (run_field Try.underlying64 rfl inf62 (by decide) rfl) (show _ = Value.pointer (some ⟨b12, 1, none⟩) from rfl)) rfl ?_
  refine An_take_on 21 rfl (by kernel_rfl) (by kernel_rfl) (by kernel_rfl) rfl rfl (fun _ _ _ h => h) hH (fun x hx => run_load sc62 rfl ((hs.grow hx).blk_at 1 rfl 1 rfl)) rfl ?_
  refine An_take_on 22 rfl (by kernel_rfl) (by kernel_rfl) (by kernel_rfl) rfl rfl (fun _ _ _ h => h) hH (fun x hx => run_as (run_field Try.underlying66 rfl inf64 (by decide) rfl) (show _ = Value.pointer (some ⟨b12, 0, none⟩) from rfl)) rfl ?_
  refine An_take_on 23 rfl (by kernel_rfl) (by kernel_rfl) (by kernel_rfl) rfl rfl (fun _ _ _ h => h) hH (fun x hx => run_as (run_field Try.underlying64 rfl inf62 (by decide) rfl) (show _ = Value.pointer (some ⟨b12, 2, none⟩) from rfl)) rfl ?_
  refine An_take_on 24 rfl (by kernel_rfl) (by kernel_rfl) (by kernel_rfl) rfl rfl (fun _ _ _ h => h) hH (fun x hx => run_load sc62 rfl ((hs.grow hx).blk_at 1 rfl 2 rfl)) rfl ?_
  refine An_only 25 (by kernel_rfl) rfl ?_
  refine Ls_on rfl rfl ?_
  try simp only [List.nil_append, List.cons_append] at hs
  refine Ls_call Try.func49 nm49 rfl rfl (ints18_c w20 _ _ _ (jnew pp).n.prev _ _ _ (jnew pp).n.cur (hs.kept 2 rfl).1 (hs.kept 2 rfl).2 (by simp [jnew]; omega)) rfl ?_
  rintro v21 w22 ⟨rfl, hsI⟩
  replace hs := hs.trans hsI
  simp only [List.nil_append, List.cons_append] at hs
  rw [decide_eq_true (show (jnew pp).n.prev = (jnew pp).n.cur from rfl)]
  replace hH := (hsI.below : Below w20.heap.size w20 w22)
  refine Ls_nil (Jm_An hH ?_)
  refine An_grow hH ?_
  replace hH := Below.refl w22.heap.size w22
  refine An_take_on 26 rfl (by kernel_rfl) (by kernel_rfl) (by kernel_rfl) rfl rfl (fun _ _ _ h => h) hH (fun x hx => run_not rfl) rfl ?_
  refine An_take 27 rfl (by kernel_rfl) (by kernel_rfl) (by kernel_rfl) (fun _ _ _ h => h) hH (fun x hx => run_pick_f rfl rfl) rfl ?_
  refine An_done (by kernel_rfl) ?_
  refine Jm_seq ?_
  refine St_iff rfl ?_
  refine St_skip ?_
  refine Jm_seq ?_
  refine St_seq ?_
  refine St_seq ?_
  refine St_region ?_
  refine Ls_run (run_assign rfl) rfl ?_
  refine Ls_nil ?_
  refine Jm_seq ?_
  refine St_block ?_
  replace hs := hs.erase 0
  simp only [List.cons_append, List.nil_append, List.eraseIdx_cons_zero, List.eraseIdx_cons_succ] at hs
  obtain ⟨En24, hEn24⟩ : ∃ F : Nat × Nat → Env, ∀ (i : Nat) (bj : Nat), F (i, bj) = [(0, .int .i64 (pp : Int)), (1, .slice A2 n2 c2), (5, .pointer (some ⟨b0, 0, none⟩)), (7, .pointer (some ⟨bj, 0, none⟩)), (9, .pointer (some ⟨b12, 0, none⟩)), (10, .int .i64 (i : Int))] := ⟨(fun (s : Nat × Nat) => match s with | (i, bj) => [(0, .int .i64 (pp : Int)), (1, .slice A2 n2 c2), (5, .pointer (some ⟨b0, 0, none⟩)), (7, .pointer (some ⟨bj, 0, none⟩)), (9, .pointer (some ⟨b12, 0, none⟩)), (10, .int .i64 (i : Int))]), fun _ _ => rfl⟩
  obtain ⟨Iv25, hIv25⟩ : ∃ F : Nat × Nat → World → Prop, ∀ (i : Nat) (bj : Nat) (wr : World), F (i, bj) wr = (∃ nn Ap cp Ac cc sl d, Sat w wr [Blk b12 [.int .i64 nn.batch, .slice Ap nn.prev.length cp, .slice Ac nn.cur.length cc, .int .i64 nn.att] 66, Keep (fun w => NRd w nn Ap cp Ac cc), JA 98 3 bj (some ⟨b0, 0, none⟩) ⟨(pp : Int), nn, ((i : Int) + 1), sl, false⟩, DiskA 85 31 5 b0 d] ∧ i ≤ n2 ∧ i ≤ 500 ∧ DG d ∧ JOk ⟨(pp : Int), nn, ((i : Int) + 1), sl, false⟩ ∧ DJ d ⟨(pp : Int), nn, ((i : Int) + 1), sl, false⟩ ∧ nn.att ≤ 3 * i ∧ nn.batch ≤ i) := ⟨(fun (s : Nat × Nat) => match s with | (i, bj) => fun (wr : World) => ∃ nn Ap cp Ac cc sl d, Sat w wr [Blk b12 [.int .i64 nn.batch, .slice Ap nn.prev.length cp, .slice Ac nn.cur.length cc, .int .i64 nn.att] 66, Keep (fun w => NRd w nn Ap cp Ac cc), JA 98 3 bj (some ⟨b0, 0, none⟩) ⟨(pp : Int), nn, ((i : Int) + 1), sl, false⟩, DiskA 85 31 5 b0 d] ∧ i ≤ n2 ∧ i ≤ 500 ∧ DG d ∧ JOk ⟨(pp : Int), nn, ((i : Int) + 1), sl, false⟩ ∧ DJ d ⟨(pp : Int), nn, ((i : Int) + 1), sl, false⟩ ∧ nn.att ≤ 3 * i ∧ nn.batch ≤ i), fun _ _ _ => rfl⟩
  obtain ⟨ms26, hms26⟩ : ∃ F : Nat × Nat → Nat, ∀ (i : Nat) (bj : Nat), F (i, bj) = (n2 - i) := ⟨(fun (s : Nat × Nat) => match s with | (i, bj) => n2 - i), fun _ _ => rfl⟩
  refine St_loop En24 Iv25 ms26 (0, bj) ?_ ?_ ?_
  · skip
    rw [hIv25]
    exact ⟨_, _, _, _, _, _, _, hs, by omega, by omega, hdg0, hjo0, dj_new hbl0, by simp [jnew], by simp [jnew]⟩
  · rw [hEn24]; exact (subE_cons rfl (subE_cons rfl (subE_cons rfl (subE_cons rfl (subE_cons rfl (subE_cons rfl subE_nil))))))
  rintro ⟨i, bj⟩ wr hI27
  rw [hIv25] at hI27
  obtain ⟨nn, Ap, cp, Ac, cc, sl, d, hs, hi, hi500, hdg, hjo, hdj, hat, hbt⟩ := hI27
  refine St_eqE (hEn24 _ _) ?_
  have hlj := noteOk_len hjo.1
  replace hlj : (nn.prev.length : Int) = (pp : Int) ∧ (nn.cur.length : Int) = (pp : Int) := hlj
  have hwb := hjo.1.1
  have hwa := hjo.1.2.1
  unfold within at hwb hwa
  replace hwb : 0 ≤ nn.batch ∧ nn.batch ≤ 1099511627776 := hwb
  have hnok : noteOk nn (pp : Int) := hjo.1
  refine St_seq ?_
  refine St_seq ?_
  refine St_region ?_
  refine Ls_run (run_move rfl) rfl ?_
  refine Ls_run (run_move rfl) rfl ?_
  refine Ls_run (run_len Try.underlying58 rfl) rfl ?_
  refine Ls_run (run_lss rfl rfl) rfl ?_
  refine Ls_run (run_move rfl) rfl ?_
  refine Ls_partP (t := 88) rfl (fun h28 => ?_) (fun h28 => ?_)
  · skip
    refine Ls_on rfl rfl ?_
    refine Ls_run (run_move rfl) rfl ?_
    refine Ls_on rfl rfl ?_
    refine Ls_run (run_lss rfl rfl) rfl ?_
    refine Ls_run (run_pick_t rfl rfl) rfl ?_
    refine Ls_nil ?_
    refine Jm_seq ?_
    refine St_ifP rfl (fun h29 => ?_) (fun h29 => ?_)
    · skip
      refine St_skip ?_
      refine Jm_seq ?_
      refine St_seq ?_
      refine St_block ?_
      refine St_seq ?_
      refine St_region ?_
      refine Ls_run (run_move rfl) rfl ?_
      refine Ls_run (run_move rfl) rfl ?_
      obtain ⟨⟨Ao, no, co, more, same, cut, bad⟩, ho⟩ : ∃ o, pl.getD i (none, 0, 0, 0, false, false, 0) = o := ⟨_, rfl⟩
      have hmem : (Ao, no, co, more, same, cut, bad) ∈ pl := by rw [← ho]; exact getElem_mem3 (by omega)
      obtain ⟨hno, ol, hro⟩ := hput _ hmem
      simp only at hno hro
      refine Ls_index (KTurn) (hr.inB hs) Try.underlying58 inf70 rfl rfl (by omega) (by omega) ho rfl ?_
      intro b30 o31 hc32
      refine Ls_run (run_as (run_load_agg agg70 inf70 rfl rfl hc32) (show _ = Value.agg #[.slice Ao no co, .int .i64 more, .bool same, .bool cut, .int .i64 bad] from rfl)) rfl ?_
      refine Ls_alloc hs inf70 rfl ?_
      intro b34 w33 hs
      refine Ls_storeAgg hs inf70 rfl rfl rfl rfl (by simp [Value.oneCell', Value.cells, jcells]) ?_
      intro w35 hs
      refine Ls_nil ?_
      refine Jm_seq ?_
      refine St_seq ?_
      refine St_seq ?_
      obtain ⟨En36, hEn36⟩ : ∃ F : Bool → Env, ∀ (cb : Bool), F cb = [(0, .int .i64 (pp : Int)), (1, .slice A2 n2 c2), (5, .pointer (some ⟨b0, 0, none⟩)), (7, .pointer (some ⟨bj, 0, none⟩)), (9, .pointer (some ⟨b12, 0, none⟩)), (10, .int .i64 (i : Int)), (11, .pointer (some ⟨b34, 0, none⟩)), (105, .bool cb)] := ⟨(fun (cb : Bool) => [(0, .int .i64 (pp : Int)), (1, .slice A2 n2 c2), (5, .pointer (some ⟨b0, 0, none⟩)), (7, .pointer (some ⟨bj, 0, none⟩)), (9, .pointer (some ⟨b12, 0, none⟩)), (10, .int .i64 (i : Int)), (11, .pointer (some ⟨b34, 0, none⟩)), (105, .bool cb)]), fun _ => rfl⟩
      obtain ⟨Iv37, hIv37⟩ : ∃ F : Bool → World → Prop, ∀ (cb : Bool) (w38 : World), F cb w38 = (Sat w w38 [Blk b34 [.slice Ao no co, .int .i64 more, .bool same, .bool cut, .int .i64 bad] 70, Blk b12 [.int .i64 nn.batch, .slice Ap nn.prev.length cp, .slice Ac nn.cur.length cc, .int .i64 nn.att] 66, Keep (fun w => NRd w nn Ap cp Ac cc), JA 98 3 bj (some ⟨b0, 0, none⟩) ⟨(pp : Int), nn, ((i : Int) + 1), sl, false⟩, DiskA 85 31 5 b0 d]) := ⟨(fun (cb : Bool) => fun (w38 : World) => Sat w w38 [Blk b34 [.slice Ao no co, .int .i64 more, .bool same, .bool cut, .int .i64 bad] 70, Blk b12 [.int .i64 nn.batch, .slice Ap nn.prev.length cp, .slice Ac nn.cur.length cc, .int .i64 nn.att] 66, Keep (fun w => NRd w nn Ap cp Ac cc), JA 98 3 bj (some ⟨b0, 0, none⟩) ⟨(pp : Int), nn, ((i : Int) + 1), sl, false⟩, DiskA 85 31 5 b0 d]), fun _ _ => rfl⟩
      refine St_join En36 Iv37 ?_ ?_
      · skip
        refine St_region ?_
        refine Ls_run (run_as (run_field Try.underlying70 rfl inf3 (by decide) rfl) (show _ = Value.pointer (some ⟨b34, 4, none⟩) from rfl)) rfl ?_
        refine Ls_run (run_load sc3 rfl (hs.blk_at 0 rfl 4 rfl)) rfl ?_
        refine Ls_run (run_geq rfl rfl) rfl ?_
        refine Ls_run (run_move rfl) rfl ?_
        refine Ls_partP (t := 101) rfl (fun h39 => ?_) (fun h39 => ?_)
        · skip
          refine Ls_on rfl rfl ?_
          refine Ls_run (run_as (run_field Try.underlying70 rfl inf3 (by decide) rfl) (show _ = Value.pointer (some ⟨b34, 4, none⟩) from rfl)) rfl ?_
          refine Ls_on rfl rfl ?_
          refine Ls_run (run_load sc3 rfl (hs.blk_at 0 rfl 4 rfl)) rfl ?_
          refine Ls_on rfl rfl ?_
          refine Ls_run (run_leq rfl rfl) rfl ?_
          refine Ls_run (run_pick_t rfl rfl) rfl ?_
          refine Ls_nil ?_
          refine Jm_join (decide (bad ≤ 4)) ?_ ?_
          · rw [hEn36]; exact (subE_cons rfl (subE_cons rfl (subE_cons rfl (subE_cons rfl (subE_cons rfl (subE_cons rfl (subE_cons rfl (subE_cons rfl subE_nil))))))))
          · skip
            rw [hIv37]
            exact hs
        · skip
          refine Ls_off rfl rfl rfl rfl ?_
          refine Ls_off rfl rfl rfl rfl ?_
          refine Ls_off rfl rfl rfl rfl ?_
          refine Ls_run (run_pick_f rfl rfl) rfl ?_
          refine Ls_nil ?_
          refine Jm_join false ?_ ?_
          · rw [hEn36]; exact (subE_cons rfl (subE_cons rfl (subE_cons rfl (subE_cons rfl (subE_cons rfl (subE_cons rfl (subE_cons rfl (subE_cons rfl subE_nil))))))))
          · skip
            rw [hIv37]
            exact hs
      · skip
        rintro cb w38 hI40
        rw [hIv37] at hI40
        replace hs := hI40
        refine Jm_eqE (hEn36 _) ?_
        refine Jm_seq ?_
        obtain ⟨En41, hEn41⟩ : ∃ F : Nat → Env, ∀ (z : Nat), F z = [(0, .int .i64 (pp : Int)), (1, .slice A2 n2 c2), (5, .pointer (some ⟨b0, 0, none⟩)), (7, .pointer (some ⟨bj, 0, none⟩)), (9, .pointer (some ⟨b12, 0, none⟩)), (10, .int .i64 (i : Int)), (11, .pointer (some ⟨b34, 0, none⟩))] := ⟨(fun (z : Nat) => [(0, .int .i64 (pp : Int)), (1, .slice A2 n2 c2), (5, .pointer (some ⟨b0, 0, none⟩)), (7, .pointer (some ⟨bj, 0, none⟩)), (9, .pointer (some ⟨b12, 0, none⟩)), (10, .int .i64 (i : Int)), (11, .pointer (some ⟨b34, 0, none⟩))]), fun _ => rfl⟩
        obtain ⟨Iv42, hIv42⟩ : ∃ F : Nat → World → Prop, ∀ (z : Nat) (w43 : World), F z w43 = (Sat w w43 [Blk b34 [.slice Ao no co, .int .i64 more, .bool same, .bool cut, .int .i64 bad] 70, Blk b12 [.int .i64 nn.batch, .slice Ap nn.prev.length cp, .slice Ac nn.cur.length cc, .int .i64 nn.att] 66, Keep (fun w => NRd w nn Ap cp Ac cc), JA 98 3 bj (some ⟨b0, 0, none⟩) ⟨(pp : Int), nn, ((i : Int) + 1), sl, false⟩, DiskA 85 31 5 b0 d]) := ⟨(fun (z : Nat) => fun (w43 : World) => Sat w w43 [Blk b34 [.slice Ao no co, .int .i64 more, .bool same, .bool cut, .int .i64 bad] 70, Blk b12 [.int .i64 nn.batch, .slice Ap nn.prev.length cp, .slice Ac nn.cur.length cc, .int .i64 nn.att] 66, Keep (fun w => NRd w nn Ap cp Ac cc), JA 98 3 bj (some ⟨b0, 0, none⟩) ⟨(pp : Int), nn, ((i : Int) + 1), sl, false⟩, DiskA 85 31 5 b0 d]), fun _ _ => rfl⟩
        refine St_join En41 Iv42 ?_ ?_
        · skip
          refine St_if rfl (fun h44 => ?_) (fun h44 => ?_)
          · skip
            refine St_seq ?_
            refine St_region ?_
            refine Ls_run (run_move rfl) rfl ?_
            replace hs := hs.front 4 rfl
            simp only [List.cons_append, List.nil_append, List.eraseIdx_cons_zero, List.eraseIdx_cons_succ] at hs
            refine Ls_call Try.func21 nm21 rfl rfl (Image_c w w38 _ b0 d hs (fun r hr => (hdg.2.2.2.2 r hr).2) hdg.2.2.2.1) rfl ?_
            rintro v45 w46 ⟨Ia, cia, via, rfl, hvia, hs⟩
            replace hs := Sat.toKeep (F := fun w => Rd w Ia d.bl.length cia 1 (El.val.flat via) ∧ PartsK (El.int .u8) w via d.bl) (fun B w q => ⟨q.rd_at 0 rfl, Sat.parts (pre := [_]) q hvia⟩) hs
            refine Ls_run (run_assign rfl) rfl ?_
            refine Ls_nil ?_
            refine Jm_seq ?_
            refine St_seq ?_
            refine St_region ?_
            refine Ls_run (run_move rfl) rfl ?_
            refine Ls_run (run_load_agg agg66 inf66 rfl rfl (hs.blk_cells 3 rfl 0 4)) rfl ?_
            refine Ls_run (run_as (run_field Try.underlying70 rfl inf3 (by decide) rfl) (show _ = Value.pointer (some ⟨b34, 4, none⟩) from rfl)) rfl ?_
            refine Ls_run (run_load sc3 rfl (hs.blk_at 2 rfl 4 rfl)) rfl ?_
            refine Ls_call Try.func50 nm50 rfl rfl (spoilt_c w46 nn _ _ _ _ (hs.kept 4 rfl) (pp : Int) hnok (by omega) (by omega) bad) rfl ?_
            rintro v47 w48 ⟨m, Mp, mp, Mc, mc, Kf, rfl, ⟨hnf, hmz⟩, hsK, hKf⟩
            replace hs := hs.trans hsK
            simp only [List.cons_append, List.nil_append] at hs
            replace hs := hs.front 2 rfl
            simp only [List.cons_append, List.nil_append, List.eraseIdx_cons_zero, List.eraseIdx_cons_succ] at hs
            replace hs := hs.front 6 rfl
            simp only [List.cons_append, List.nil_append, List.eraseIdx_cons_zero, List.eraseIdx_cons_succ] at hs
            obtain ⟨ev, hv0, hev⟩ := jsave_no (j := ⟨(pp : Int), nn, ((i : Int) + 1), sl, false⟩) (d := d) (n := m) rfl hdg.1 hnf
            refine Ls_call Try.func35 nm35 rfl rfl (Save_c w w48 _ bj b0 ⟨(pp : Int), nn, ((i : Int) + 1), sl, false⟩ d hs hjo hdg.2.2.2.2 m _ _ _ _ (fun w' X q => (hKf w' (q.kept 5 rfl) (q.kept 1 rfl)).1) (fun w' X q => (hKf w' (q.kept 5 rfl) (q.kept 1 rfl)).2) hmz) rfl ?_
            rintro v49 w50 ⟨rfl, hs⟩
            simp only [hv0] at hs ⊢
            refine Ls_run (run_assign rfl) rfl ?_
            refine Ls_nil ?_
            refine Jm_seq ?_
            refine St_seq ?_
            replace hs := hs.front 5 rfl
            simp only [List.cons_append, List.nil_append, List.eraseIdx_cons_zero, List.eraseIdx_cons_succ] at hs
            refine St_hold (Hold.of (Ls := [_]) hs) mixed ?_
            intro w51 q52
            replace hs := hs.quiet q52
            have hH := Hold.of (Ls := [_]) hs
            refine An_take 0 rfl (by kernel_rfl) (by kernel_rfl) (by kernel_rfl) (fun _ _ _ h => h) hH (fun x hx => run_move rfl) rfl ?_
            refine An_take 1 rfl (by kernel_rfl) (by kernel_rfl) (by kernel_rfl) (fun _ _ _ h => h) hH (fun x hx => run_neq rfl rfl) rfl ?_
            refine An_take 2 rfl (by kernel_rfl) (by kernel_rfl) (by kernel_rfl) (fun _ _ _ h => h) hH (fun x hx => run_move rfl) rfl ?_
            refine An_partP (t := 116) rfl (fun h53 => ?_) (fun h53 => ?_)
            · skip
              refine An_take_on 3 rfl (by kernel_rfl) (by kernel_rfl) (by kernel_rfl) rfl rfl (fun _ _ _ h => h) hH (fun x hx => run_move rfl) rfl ?_
              refine An_take_on 4 rfl (by kernel_rfl) (by kernel_rfl) (by kernel_rfl) rfl rfl (fun _ _ _ h => h) hH (fun x hx => run_asB (c := false) (run_neq rfl rfl) (decide_eq_false (by omega))) rfl ?_
              refine An_take 5 rfl (by kernel_rfl) (by kernel_rfl) (by kernel_rfl) (fun _ _ _ h => h) hH (fun x hx => run_pick_t rfl rfl) rfl ?_
              refine An_take 6 rfl (by kernel_rfl) (by kernel_rfl) (by kernel_rfl) (fun _ _ _ h => h) hH (fun x hx => run_move rfl) rfl ?_
              refine An_take_on 7 rfl (by kernel_rfl) (by kernel_rfl) (by kernel_rfl) rfl rfl (fun _ _ _ h => h) hH (fun x hx => run_move rfl) rfl ?_
              refine An_take_on 9 rfl (by kernel_rfl) (by kernel_rfl) (by kernel_rfl) rfl rfl (fun _ _ _ h => h) hH (fun x hx => run_move rfl) rfl ?_
              refine An_only 8 (by kernel_rfl) rfl ?_
              refine Ls_on rfl rfl ?_
              replace hs := hs.front 2 rfl
              simp only [List.cons_append, List.nil_append, List.eraseIdx_cons_zero, List.eraseIdx_cons_succ] at hs
              refine Ls_call Try.func21 nm21 rfl rfl (Image_c w w51 _ b0 d hs (fun r hr => (hdg.2.2.2.2 r hr).2) hdg.2.2.2.1) rfl ?_
              rintro v54 w55 ⟨Ib, cib, vib, rfl, hvib, hs⟩
              replace hs := Sat.toKeep (F := fun w => Rd w Ib d.bl.length cib 1 (El.val.flat vib) ∧ PartsK (El.int .u8) w vib d.bl) (fun B w q => ⟨q.rd_at 0 rfl, Sat.parts (pre := [_]) q hvib⟩) hs
              replace hs := hs.front 2 rfl
              simp only [List.cons_append, List.nil_append, List.eraseIdx_cons_zero, List.eraseIdx_cons_succ] at hs
              replace hH := Hold.of (Ls := [_]) hs
              refine Ls_nil (Jm_An hH ?_)
              refine An_only 10 (by kernel_rfl) rfl ?_
              refine Ls_on rfl rfl ?_
              refine Ls_call Try.func48 nm48 rfl rfl (images18_c w55 _ _ _ vib d.bl _ _ _ via d.bl (hs.kept 1 rfl).1 (hs.kept 5 rfl).1 (hs.kept 1 rfl).2 (hs.kept 5 rfl).2 (fun x hx => (hdg.2.2.2.2 x hx).1) (fun x hx => (hdg.2.2.2.2 x hx).1) (by have := hdg.2.2.2.1; omega)) rfl ?_
              rintro v56 w57 ⟨rfl, hsI⟩
              replace hs := hs.trans hsI
              simp only [List.nil_append] at hs
              rw [decide_eq_true (rfl : d.bl = d.bl)]
              replace hH := Hold.of (Ls := [_]) hs
              refine Ls_nil (Jm_An hH ?_)
              refine An_take_on 11 rfl (by kernel_rfl) (by kernel_rfl) (by kernel_rfl) rfl rfl (fun _ _ _ h => h) hH (fun x hx => run_not rfl) rfl ?_
              refine An_take 12 rfl (by kernel_rfl) (by kernel_rfl) (by kernel_rfl) (fun _ _ _ h => h) hH (fun x hx => run_pick_f rfl rfl) rfl ?_
              refine An_take 13 rfl (by kernel_rfl) (by kernel_rfl) (by kernel_rfl) (fun _ _ _ h => h) hH (fun x hx => run_move rfl) rfl ?_
              refine An_take_on 14 rfl (by kernel_rfl) (by kernel_rfl) (by kernel_rfl) rfl rfl (fun _ _ _ h => h) hH (fun x hx => run_move rfl) rfl ?_
              refine An_take_on 16 rfl (by kernel_rfl) (by kernel_rfl) (by kernel_rfl) rfl rfl (fun _ _ _ h => h) hH (fun x hx => run_load_agg agg66 inf66 rfl rfl (hx.choose_spec.blk_cells 0 rfl 0 4)) rfl ?_
              refine An_only 15 (by kernel_rfl) rfl ?_
              refine Ls_on rfl rfl ?_
              replace hs := hs.front 3 rfl
              simp only [List.cons_append, List.nil_append, List.eraseIdx_cons_zero, List.eraseIdx_cons_succ] at hs
              refine Ls_call Try.func33 nm33 rfl rfl (Note_c w w57 _ bj _ ⟨(pp : Int), nn, ((i : Int) + 1), sl, false⟩ hs (by show nn.prev.length ≤ _ ∧ nn.cur.length ≤ _; omega)) rfl ?_
              rintro v58 w59 ⟨Za1, Za2, Za3, Za4, rfl, hs⟩
              replace hs := hs.front 3 rfl
              simp only [List.cons_append, List.nil_append, List.eraseIdx_cons_zero, List.eraseIdx_cons_succ] at hs
              replace hH := Hold.of (Ls := [_]) hs
              refine Ls_nil (Jm_An hH ?_)
              refine An_only 17 (by kernel_rfl) rfl ?_
              refine Ls_on rfl rfl ?_
              try simp only [List.nil_append, List.cons_append] at hs
              refine Ls_call Try.func36 nm36 rfl rfl (notes_c w59 nn _ _ _ _ _ _ _ _ (hs.rd_at 1 rfl) (hs.rd_at 2 rfl) ((hs.kept 9 rfl).1) ((hs.kept 9 rfl).2) (by omega)) rfl ?_
              rintro v60 w61 ⟨rfl, hsI⟩
              replace hs := hs.trans hsI
              simp only [List.nil_append, List.cons_append] at hs
              replace hH := Hold.of (Ls := [_]) hs
              refine Ls_nil (Jm_An hH ?_)
              refine An_take_on 18 rfl (by kernel_rfl) (by kernel_rfl) (by kernel_rfl) rfl rfl (fun _ _ _ h => h) hH (fun x hx => run_not rfl) rfl ?_
              refine An_take 19 rfl (by kernel_rfl) (by kernel_rfl) (by kernel_rfl) (fun _ _ _ h => h) hH (fun x hx => run_pick_f rfl rfl) rfl ?_
              refine An_done (by kernel_rfl) ?_
              refine Jm_seq ?_
              refine St_iff rfl ?_
              refine St_skip ?_
              replace hs := hs.erase 1
              simp only [List.cons_append, List.nil_append, List.eraseIdx_cons_zero, List.eraseIdx_cons_succ] at hs
              replace hs := hs.erase 1
              simp only [List.cons_append, List.nil_append, List.eraseIdx_cons_zero, List.eraseIdx_cons_succ] at hs
              replace hs := hs.erase 2
              simp only [List.cons_append, List.nil_append, List.eraseIdx_cons_zero, List.eraseIdx_cons_succ] at hs
              replace hs := hs.erase 3
              simp only [List.cons_append, List.nil_append, List.eraseIdx_cons_zero, List.eraseIdx_cons_succ] at hs
              replace hs := hs.erase 3
              simp only [List.cons_append, List.nil_append, List.eraseIdx_cons_zero, List.eraseIdx_cons_succ] at hs
              replace hs := hs.front 2 rfl
              simp only [List.cons_append, List.nil_append, List.eraseIdx_cons_zero, List.eraseIdx_cons_succ] at hs
              replace hs := hs.front 2 rfl
              simp only [List.cons_append, List.nil_append, List.eraseIdx_cons_zero, List.eraseIdx_cons_succ] at hs
              replace hs := hs.front 4 rfl
              simp only [List.cons_append, List.nil_append, List.eraseIdx_cons_zero, List.eraseIdx_cons_succ] at hs
              replace hs := hs.front 3 rfl
              simp only [List.cons_append, List.nil_append, List.eraseIdx_cons_zero, List.eraseIdx_cons_succ] at hs
              replace hs := hs.front 4 rfl
              simp only [List.cons_append, List.nil_append, List.eraseIdx_cons_zero, List.eraseIdx_cons_succ] at hs
              refine Jm_join 0 ?_ ?_
              · rw [hEn41]; exact (subE_cons rfl (subE_cons rfl (subE_cons rfl (subE_cons rfl (subE_cons rfl (subE_cons rfl (subE_cons rfl subE_nil)))))))
              · skip
                rw [hIv42]
                exact hs
            · skip
              refine An_take_off 3 rfl (by kernel_rfl) (by kernel_rfl) (by kernel_rfl) rfl rfl rfl (fun _ _ _ h => h) hH rfl ?_
              refine An_take_off 4 rfl (by kernel_rfl) (by kernel_rfl) (by kernel_rfl) rfl rfl rfl (fun _ _ _ h => h) hH rfl ?_
              refine An_take 5 rfl (by kernel_rfl) (by kernel_rfl) (by kernel_rfl) (fun _ _ _ h => h) hH (fun x hx => run_pick_f rfl rfl) rfl ?_
              refine An_take 6 rfl (by kernel_rfl) (by kernel_rfl) (by kernel_rfl) (fun _ _ _ h => h) hH (fun x hx => run_move rfl) rfl ?_
              refine An_take_on 7 rfl (by kernel_rfl) (by kernel_rfl) (by kernel_rfl) rfl rfl (fun _ _ _ h => h) hH (fun x hx => run_move rfl) rfl ?_
              refine An_take_on 9 rfl (by kernel_rfl) (by kernel_rfl) (by kernel_rfl) rfl rfl (fun _ _ _ h => h) hH (fun x hx => run_move rfl) rfl ?_
              refine An_only 8 (by kernel_rfl) rfl ?_
              refine Ls_on rfl rfl ?_
              replace hs := hs.front 2 rfl
              simp only [List.cons_append, List.nil_append, List.eraseIdx_cons_zero, List.eraseIdx_cons_succ] at hs
              refine Ls_call Try.func21 nm21 rfl rfl (Image_c w w51 _ b0 d hs (fun r hr => (hdg.2.2.2.2 r hr).2) hdg.2.2.2.1) rfl ?_
              rintro v63 w65 ⟨Ib, cib, vib, rfl, hvib, hs⟩
              replace hs := Sat.toKeep (F := fun w => Rd w Ib d.bl.length cib 1 (El.val.flat vib) ∧ PartsK (El.int .u8) w vib d.bl) (fun B w q => ⟨q.rd_at 0 rfl, Sat.parts (pre := [_]) q hvib⟩) hs
              replace hs := hs.front 2 rfl
              simp only [List.cons_append, List.nil_append, List.eraseIdx_cons_zero, List.eraseIdx_cons_succ] at hs
              replace hH := Hold.of (Ls := [_]) hs
              refine Ls_nil (Jm_An hH ?_)
              refine An_only 10 (by kernel_rfl) rfl ?_
              refine Ls_on rfl rfl ?_
              refine Ls_call Try.func48 nm48 rfl rfl (images18_c w65 _ _ _ vib d.bl _ _ _ via d.bl (hs.kept 1 rfl).1 (hs.kept 5 rfl).1 (hs.kept 1 rfl).2 (hs.kept 5 rfl).2 (fun x hx => (hdg.2.2.2.2 x hx).1) (fun x hx => (hdg.2.2.2.2 x hx).1) (by have := hdg.2.2.2.1; omega)) rfl ?_
              rintro v66 w67 ⟨rfl, hsI⟩
              replace hs := hs.trans hsI
              simp only [List.nil_append] at hs
              rw [decide_eq_true (rfl : d.bl = d.bl)]
              replace hH := Hold.of (Ls := [_]) hs
              refine Ls_nil (Jm_An hH ?_)
              refine An_take_on 11 rfl (by kernel_rfl) (by kernel_rfl) (by kernel_rfl) rfl rfl (fun _ _ _ h => h) hH (fun x hx => run_not rfl) rfl ?_
              refine An_take 12 rfl (by kernel_rfl) (by kernel_rfl) (by kernel_rfl) (fun _ _ _ h => h) hH (fun x hx => run_pick_f rfl rfl) rfl ?_
              refine An_take 13 rfl (by kernel_rfl) (by kernel_rfl) (by kernel_rfl) (fun _ _ _ h => h) hH (fun x hx => run_move rfl) rfl ?_
              refine An_take_on 14 rfl (by kernel_rfl) (by kernel_rfl) (by kernel_rfl) rfl rfl (fun _ _ _ h => h) hH (fun x hx => run_move rfl) rfl ?_
              refine An_take_on 16 rfl (by kernel_rfl) (by kernel_rfl) (by kernel_rfl) rfl rfl (fun _ _ _ h => h) hH (fun x hx => run_load_agg agg66 inf66 rfl rfl (hx.choose_spec.blk_cells 0 rfl 0 4)) rfl ?_
              refine An_only 15 (by kernel_rfl) rfl ?_
              refine Ls_on rfl rfl ?_
              replace hs := hs.front 3 rfl
              simp only [List.cons_append, List.nil_append, List.eraseIdx_cons_zero, List.eraseIdx_cons_succ] at hs
              refine Ls_call Try.func33 nm33 rfl rfl (Note_c w w67 _ bj _ ⟨(pp : Int), nn, ((i : Int) + 1), sl, false⟩ hs (by show nn.prev.length ≤ _ ∧ nn.cur.length ≤ _; omega)) rfl ?_
              rintro v68 w69 ⟨Za1, Za2, Za3, Za4, rfl, hs⟩
              replace hs := hs.front 3 rfl
              simp only [List.cons_append, List.nil_append, List.eraseIdx_cons_zero, List.eraseIdx_cons_succ] at hs
              replace hH := Hold.of (Ls := [_]) hs
              refine Ls_nil (Jm_An hH ?_)
              refine An_only 17 (by kernel_rfl) rfl ?_
              refine Ls_on rfl rfl ?_
              try simp only [List.nil_append, List.cons_append] at hs
              refine Ls_call Try.func36 nm36 rfl rfl (notes_c w69 nn _ _ _ _ _ _ _ _ (hs.rd_at 1 rfl) (hs.rd_at 2 rfl) ((hs.kept 9 rfl).1) ((hs.kept 9 rfl).2) (by omega)) rfl ?_
              rintro v70 w71 ⟨rfl, hsI⟩
              replace hs := hs.trans hsI
              simp only [List.nil_append, List.cons_append] at hs
              replace hH := Hold.of (Ls := [_]) hs
              refine Ls_nil (Jm_An hH ?_)
              refine An_take_on 18 rfl (by kernel_rfl) (by kernel_rfl) (by kernel_rfl) rfl rfl (fun _ _ _ h => h) hH (fun x hx => run_not rfl) rfl ?_
              refine An_take 19 rfl (by kernel_rfl) (by kernel_rfl) (by kernel_rfl) (fun _ _ _ h => h) hH (fun x hx => run_pick_f rfl rfl) rfl ?_
              refine An_done (by kernel_rfl) ?_
              refine Jm_seq ?_
              refine St_iff rfl ?_
              refine St_skip ?_
              replace hs := hs.erase 1
              simp only [List.cons_append, List.nil_append, List.eraseIdx_cons_zero, List.eraseIdx_cons_succ] at hs
              replace hs := hs.erase 1
              simp only [List.cons_append, List.nil_append, List.eraseIdx_cons_zero, List.eraseIdx_cons_succ] at hs
              replace hs := hs.erase 2
              simp only [List.cons_append, List.nil_append, List.eraseIdx_cons_zero, List.eraseIdx_cons_succ] at hs
              replace hs := hs.erase 3
              simp only [List.cons_append, List.nil_append, List.eraseIdx_cons_zero, List.eraseIdx_cons_succ] at hs
              replace hs := hs.erase 3
              simp only [List.cons_append, List.nil_append, List.eraseIdx_cons_zero, List.eraseIdx_cons_succ] at hs
              replace hs := hs.front 2 rfl
              simp only [List.cons_append, List.nil_append, List.eraseIdx_cons_zero, List.eraseIdx_cons_succ] at hs
              replace hs := hs.front 2 rfl
              simp only [List.cons_append, List.nil_append, List.eraseIdx_cons_zero, List.eraseIdx_cons_succ] at hs
              replace hs := hs.front 4 rfl
              simp only [List.cons_append, List.nil_append, List.eraseIdx_cons_zero, List.eraseIdx_cons_succ] at hs
              replace hs := hs.front 3 rfl
              simp only [List.cons_append, List.nil_append, List.eraseIdx_cons_zero, List.eraseIdx_cons_succ] at hs
              replace hs := hs.front 4 rfl
              simp only [List.cons_append, List.nil_append, List.eraseIdx_cons_zero, List.eraseIdx_cons_succ] at hs
              refine Jm_join 0 ?_ ?_
              · rw [hEn41]; exact (subE_cons rfl (subE_cons rfl (subE_cons rfl (subE_cons rfl (subE_cons rfl (subE_cons rfl (subE_cons rfl subE_nil)))))))
              · skip
                rw [hIv42]
                exact hs
          · skip
            refine St_skip ?_
            refine Jm_join 0 ?_ ?_
            · rw [hEn41]; exact (subE_cons rfl (subE_cons rfl (subE_cons rfl (subE_cons rfl (subE_cons rfl (subE_cons rfl (subE_cons rfl subE_nil)))))))
            · skip
              rw [hIv42]
              exact hs
        · skip
          rintro z w43 hI73
          rw [hIv42] at hI73
          replace hs := hI73
          refine Jm_eqE (hEn41 _) ?_
          refine Jm_seq ?_
          refine St_seq ?_
          refine St_region ?_
          refine Ls_run (run_load_agg agg66 inf66 rfl rfl (hs.blk_cells 1 rfl 0 4)) rfl ?_
          refine Ls_run (run_load_agg agg70 inf70 rfl rfl (hs.blk_cells 0 rfl 0 5)) rfl ?_
          refine Ls_call Try.func34 nm34 rfl rfl (next_k w43 nn _ _ _ _ (hs.kept 2 rfl) (pp : Int) hnok (by omega) (by omega) (by omega) Ao no co ol more same cut bad (hro.inB hs) (by omega)) rfl ?_
          rintro v74 w75 ⟨n1, Aq, cq, Ar, cr, Kn, rfl, hnx, hsK, hKn⟩
          replace hs := hs.trans hsK
          simp only [List.cons_append, List.nil_append] at hs
          have hl1 := noteOk_len hnx.1
          refine Ls_alloc hs inf66 rfl ?_
          intro b77 w76 hs
          refine Ls_storeAgg hs inf66 rfl rfl rfl rfl (by simp [Value.oneCell', Value.cells, jcells]) ?_
          intro w78 hs
          refine Ls_nil ?_
          refine Jm_seq ?_
          refine St_seq ?_
          refine St_seq ?_
          refine St_region ?_
          refine Ls_run (run_as (run_field Try.underlying70 rfl inf4 (by decide) rfl) (show _ = Value.pointer (some ⟨b34, 3, none⟩) from rfl)) rfl ?_
          refine Ls_run (run_load sc4 rfl (hs.blk_at 2 rfl 3 rfl)) rfl ?_
          refine Ls_nil ?_
          refine Jm_seq ?_
          obtain ⟨En79, hEn79⟩ : ∃ F : Nat → Env, ∀ (bj2 : Nat), F bj2 = [(0, .int .i64 (pp : Int)), (1, .slice A2 n2 c2), (5, .pointer (some ⟨b0, 0, none⟩)), (7, .pointer (some ⟨bj2, 0, none⟩)), (9, .pointer (some ⟨b12, 0, none⟩)), (10, .int .i64 (i : Int)), (14, .pointer (some ⟨b77, 0, none⟩))] := ⟨(fun (bj2 : Nat) => [(0, .int .i64 (pp : Int)), (1, .slice A2 n2 c2), (5, .pointer (some ⟨b0, 0, none⟩)), (7, .pointer (some ⟨bj2, 0, none⟩)), (9, .pointer (some ⟨b12, 0, none⟩)), (10, .int .i64 (i : Int)), (14, .pointer (some ⟨b77, 0, none⟩))]), fun _ => rfl⟩
          obtain ⟨Iv80, hIv80⟩ : ∃ F : Nat → World → Prop, ∀ (bj2 : Nat) (w81 : World), F bj2 w81 = (∃ d2, Sat w w81 [Blk b77 [.int .i64 n1.batch, .slice Aq n1.prev.length cq, .slice Ar n1.cur.length cr, .int .i64 n1.att] 66, Keep Kn, Blk b12 [.int .i64 nn.batch, .slice Ap nn.prev.length cp, .slice Ac nn.cur.length cc, .int .i64 nn.att] 66, Keep (fun w => NRd w nn Ap cp Ac cc), JA 98 3 bj2 (some ⟨b0, 0, none⟩) ⟨(pp : Int), nn, ((i : Int) + 1), sl, false⟩, DiskA 85 31 5 b0 d2] ∧ DG d2 ∧ DJ d2 ⟨(pp : Int), nn, ((i : Int) + 1), sl, false⟩) := ⟨(fun (bj2 : Nat) => fun (w81 : World) => ∃ d2, Sat w w81 [Blk b77 [.int .i64 n1.batch, .slice Aq n1.prev.length cq, .slice Ar n1.cur.length cr, .int .i64 n1.att] 66, Keep Kn, Blk b12 [.int .i64 nn.batch, .slice Ap nn.prev.length cp, .slice Ac nn.cur.length cc, .int .i64 nn.att] 66, Keep (fun w => NRd w nn Ap cp Ac cc), JA 98 3 bj2 (some ⟨b0, 0, none⟩) ⟨(pp : Int), nn, ((i : Int) + 1), sl, false⟩, DiskA 85 31 5 b0 d2] ∧ DG d2 ∧ DJ d2 ⟨(pp : Int), nn, ((i : Int) + 1), sl, false⟩), fun _ _ => rfl⟩
          refine St_join En79 Iv80 ?_ ?_
          · skip
            refine St_if rfl (fun h82 => ?_) (fun h82 => ?_)
            · skip
              refine St_seq ?_
              refine St_region ?_
              refine Ls_run (run_move rfl) rfl ?_
              replace hs := hs.front 6 rfl
              simp only [List.cons_append, List.nil_append, List.eraseIdx_cons_zero, List.eraseIdx_cons_succ] at hs
              obtain ⟨vs0, A0, c0, hv0, hs⟩ := hs.dopen
              refine Ls_call Try.func14 nm14 rfl rfl (Cut_c w w78 _ b0 d A0 c0 hs 0) rfl ?_
              rintro v83 w84 ⟨rfl, hs⟩
              replace hs := Sat.dshut (s := dcut d 0) hv0 hs
              refine Ls_nil ?_
              refine Jm_seq ?_
              refine St_seq ?_
              refine St_seq ?_
              replace hs := hs.front 4 rfl
              simp only [List.cons_append, List.nil_append, List.eraseIdx_cons_zero, List.eraseIdx_cons_succ] at hs
              replace hs := hs.front 2 rfl
              simp only [List.cons_append, List.nil_append, List.eraseIdx_cons_zero, List.eraseIdx_cons_succ] at hs
              refine St_hold (Hold.of (Ls := [_, _]) hs) mixed ?_
              intro w85 q86
              replace hs := hs.quiet q86
              have hH := Hold.of (Ls := [_, _]) hs
              refine An_take 0 rfl (by kernel_rfl) (by kernel_rfl) (by kernel_rfl) (fun _ _ _ h => h) hH (fun x hx => run_move rfl) rfl ?_
              refine An_take 1 rfl (by kernel_rfl) (by kernel_rfl) (by kernel_rfl) (fun _ _ _ h => h) hH (fun x hx => run_load_agg agg66 inf66 rfl rfl (hx.choose_spec.blk_cells 0 rfl 0 4)) rfl ?_
              refine An_only 2 (by kernel_rfl) rfl ?_
              replace hs := hs.front 2 rfl
              simp only [List.cons_append, List.nil_append, List.eraseIdx_cons_zero, List.eraseIdx_cons_succ] at hs
              replace hs := hs.front 6 rfl
              simp only [List.cons_append, List.nil_append, List.eraseIdx_cons_zero, List.eraseIdx_cons_succ] at hs
              have hvx : jsave ⟨(pp : Int), nn, ((i : Int) + 1), sl, false⟩ (dcut d 0) n1 = (80, ⟨(pp : Int), nn, ((i : Int) + 1), sl, true⟩, doff (dcut d 0)) := jsave_gone hjo rfl hdg.1 hdg.2.2.1 rfl rfl hnx.1 hnx.2.1 (by show (i : Int) + 1 < _; omega)
              refine Ls_call Try.func35 nm35 rfl rfl (Save_c w w85 _ bj b0 ⟨(pp : Int), nn, ((i : Int) + 1), sl, false⟩ (dcut d 0) hs hjo (fun x hx => hdg.2.2.2.2 x hx) n1 _ _ _ _ (fun w' X q => (hKn w' (q.kept 5 rfl) (q.kept 3 rfl)).1) (fun w' X q => (hKn w' (q.kept 5 rfl) (q.kept 3 rfl)).2) (by omega)) rfl ?_
              rintro v87 w88 ⟨rfl, hs⟩
              simp only [hvx] at hs ⊢
              replace hs := hs.front 3 rfl
              simp only [List.cons_append, List.nil_append, List.eraseIdx_cons_zero, List.eraseIdx_cons_succ] at hs
              replace hs := hs.front 3 rfl
              simp only [List.cons_append, List.nil_append, List.eraseIdx_cons_zero, List.eraseIdx_cons_succ] at hs
              replace hH := Hold.of (Ls := [_, _]) hs
              refine Ls_nil (Jm_An hH ?_)
              refine An_take 3 rfl (by kernel_rfl) (by kernel_rfl) (by kernel_rfl) (fun _ _ _ h => h) hH (fun x hx => run_asB (c := false) (run_neq rfl rfl) (by decide)) rfl ?_
              refine An_take 4 rfl (by kernel_rfl) (by kernel_rfl) (by kernel_rfl) (fun _ _ _ h => h) hH (fun x hx => run_move rfl) rfl ?_
              refine An_take_on 5 rfl (by kernel_rfl) (by kernel_rfl) (by kernel_rfl) rfl rfl (fun _ _ _ h => h) hH (fun x hx => run_move rfl) rfl ?_
              refine An_only 6 (by kernel_rfl) rfl ?_
              refine Ls_on rfl rfl ?_
              replace hs := hs.front 2 rfl
              simp only [List.cons_append, List.nil_append, List.eraseIdx_cons_zero, List.eraseIdx_cons_succ] at hs
              obtain ⟨Ap6, cp6, Ac6, cc6, hq6⟩ := hs.jopen
              refine Ls_call Try.func45 nm45 rfl rfl (Ended_c w88 bj _ ⟨(pp : Int), nn, ((i : Int) + 1), sl, true⟩ Ap6 cp6 Ac6 cc6 (hq6.is_at 0 rfl).2) rfl ?_
              rintro v89 w90 ⟨rfl, rfl⟩
              replace hs := hs.front 2 rfl
              simp only [List.cons_append, List.nil_append, List.eraseIdx_cons_zero, List.eraseIdx_cons_succ] at hs
              replace hs := hs.front 2 rfl
              simp only [List.cons_append, List.nil_append, List.eraseIdx_cons_zero, List.eraseIdx_cons_succ] at hs
              replace hH := Hold.of (Ls := [_, _]) hs
              refine Ls_nil (Jm_An hH ?_)
              refine An_take_on 7 rfl (by kernel_rfl) (by kernel_rfl) (by kernel_rfl) rfl rfl (fun _ _ _ h => h) hH (fun x hx => run_not rfl) rfl ?_
              refine An_take 8 rfl (by kernel_rfl) (by kernel_rfl) (by kernel_rfl) (fun _ _ _ h => h) hH (fun x hx => run_pick_f rfl rfl) rfl ?_
              refine An_take 9 rfl (by kernel_rfl) (by kernel_rfl) (by kernel_rfl) (fun _ _ _ h => h) hH (fun x hx => run_move rfl) rfl ?_
              refine An_take_on 10 rfl (by kernel_rfl) (by kernel_rfl) (by kernel_rfl) rfl rfl (fun _ _ _ h => h) hH (fun x hx => run_move rfl) rfl ?_
              refine An_take_on 12 rfl (by kernel_rfl) (by kernel_rfl) (by kernel_rfl) rfl rfl (fun _ _ _ h => h) hH (fun x hx => run_load_agg agg66 inf66 rfl rfl (hx.choose_spec.blk_cells 1 rfl 0 4)) rfl ?_
              refine An_only 11 (by kernel_rfl) rfl ?_
              refine Ls_on rfl rfl ?_
              replace hs := hs.front 2 rfl
              simp only [List.cons_append, List.nil_append, List.eraseIdx_cons_zero, List.eraseIdx_cons_succ] at hs
              refine Ls_call Try.func33 nm33 rfl rfl (Note_c w w88 _ bj _ ⟨(pp : Int), nn, ((i : Int) + 1), sl, true⟩ hs (by show nn.prev.length ≤ _ ∧ nn.cur.length ≤ _; omega)) rfl ?_
              rintro v91 w92 ⟨Zb1, Zb2, Zb3, Zb4, rfl, hs⟩
              replace hs := hs.front 4 rfl
              simp only [List.cons_append, List.nil_append, List.eraseIdx_cons_zero, List.eraseIdx_cons_succ] at hs
              replace hs := hs.front 4 rfl
              simp only [List.cons_append, List.nil_append, List.eraseIdx_cons_zero, List.eraseIdx_cons_succ] at hs
              replace hH := Hold.of (Ls := [_, _]) hs
              refine Ls_nil (Jm_An hH ?_)
              refine An_only 13 (by kernel_rfl) rfl ?_
              refine Ls_on rfl rfl ?_
              try simp only [List.nil_append, List.cons_append] at hs
              refine Ls_call Try.func36 nm36 rfl rfl (notes_c w92 nn _ _ _ _ _ _ _ _ (hs.rd_at 2 rfl) (hs.rd_at 3 rfl) ((hs.kept 8 rfl).1) ((hs.kept 8 rfl).2) (by omega)) rfl ?_
              rintro v93 w94 ⟨rfl, hsI⟩
              replace hs := hs.trans hsI
              simp only [List.nil_append, List.cons_append] at hs
              replace hs := hs.front 1 rfl
              simp only [List.cons_append, List.nil_append, List.eraseIdx_cons_zero, List.eraseIdx_cons_succ] at hs
              replace hs := hs.front 1 rfl
              simp only [List.cons_append, List.nil_append, List.eraseIdx_cons_zero, List.eraseIdx_cons_succ] at hs
              replace hH := Hold.of (Ls := [_, _]) hs
              refine Ls_nil (Jm_An hH ?_)
              refine An_take_on 14 rfl (by kernel_rfl) (by kernel_rfl) (by kernel_rfl) rfl rfl (fun _ _ _ h => h) hH (fun x hx => run_not rfl) rfl ?_
              refine An_take 15 rfl (by kernel_rfl) (by kernel_rfl) (by kernel_rfl) (fun _ _ _ h => h) hH (fun x hx => run_pick_f rfl rfl) rfl ?_
              refine An_done (by kernel_rfl) ?_
              refine Jm_seq ?_
              refine St_iff rfl ?_
              refine St_skip ?_
              refine Jm_seq ?_
              refine St_seq ?_
              refine St_region ?_
              refine Ls_run (run_move rfl) rfl ?_
              replace hs := hs.front 5 rfl
              simp only [List.cons_append, List.nil_append, List.eraseIdx_cons_zero, List.eraseIdx_cons_succ] at hs
              obtain ⟨vs0, A0, c0, hv0, hs⟩ := hs.dopen
              refine Ls_call Try.func22 nm22 rfl rfl (On_c w w94 _ b0 (doff (dcut d 0)) A0 c0 hs) rfl ?_
              rintro v96 w97 ⟨rfl, hs⟩
              replace hs := Sat.dshut (s := don (doff (dcut d 0))) hv0 hs
              refine Ls_nil ?_
              refine Jm_seq ?_
              refine St_seq ?_
              refine St_seq ?_
              refine St_region ?_
              refine Ls_run (run_move rfl) rfl ?_
              refine Ls_run (run_load_agg agg66 inf66 rfl rfl (hs.blk_cells 1 rfl 0 4)) rfl ?_
              replace hs := hs.front 5 rfl
              simp only [List.cons_append, List.nil_append, List.eraseIdx_cons_zero, List.eraseIdx_cons_succ] at hs
              have hvx : jsave ⟨(pp : Int), nn, ((i : Int) + 1), sl, true⟩ (don (doff (dcut d 0))) n1 = (80, jend ⟨(pp : Int), nn, ((i : Int) + 1), sl, true⟩ (don (doff (dcut d 0))), don (doff (dcut d 0))) := jsave_ended rfl
              refine Ls_call Try.func35 nm35 rfl rfl (Save_c w w97 _ bj b0 ⟨(pp : Int), nn, ((i : Int) + 1), sl, true⟩ (don (doff (dcut d 0))) hs (show JOk ⟨(pp : Int), nn, ((i : Int) + 1), sl, true⟩ from hjo) (fun x hx => hdg.2.2.2.2 x hx) n1 _ _ _ _ (fun w' X q => (hKn w' (q.kept 7 rfl) (q.kept 5 rfl)).1) (fun w' X q => (hKn w' (q.kept 7 rfl) (q.kept 5 rfl)).2) (by omega)) rfl ?_
              rintro v98 w99 ⟨rfl, hs⟩
              simp only [hvx] at hs ⊢
              refine Ls_run (run_asB (c := false) (run_neq rfl rfl) (by decide)) rfl ?_
              refine Ls_nil ?_
              refine Jm_seq ?_
              refine St_iff rfl ?_
              refine St_skip ?_
              refine Jm_seq ?_
              refine St_seq ?_
              refine St_region ?_
              refine Ls_run (run_move rfl) rfl ?_
              refine Ls_run (run_move rfl) rfl ?_
              replace hs := hs.front 1 rfl
              simp only [List.cons_append, List.nil_append, List.eraseIdx_cons_zero, List.eraseIdx_cons_succ] at hs
              have hoe : jopen (don (doff (dcut d 0))) (pp : Int) = (0, some ⟨(pp : Int), nn, ((i : Int) + 1), sl, false⟩, dread_k (don (doff (dcut d 0))) 2) := jopen_same hjo (show DJ (don (doff (dcut d 0))) _ from hdj) (dg_back hdg).1 rfl
              refine Ls_call Try.func37 nm37 rfl rfl (Open_g w w99 _ b0 (don (doff (dcut d 0))) hs (dg_back hdg).2.2.2.2 (by have := (dg_back hdg).2.2.1; omega) pp hp1 hp4) rfl ?_
              rintro v101 w102 ⟨pk, rfl, hs⟩
              simp only [hoe] at hs ⊢
              obtain ⟨bk, hpk, h9⟩ := hs.joSome
              subst hpk
              replace hs := h9
              refine Ls_run (run_move rfl) rfl ?_
              refine Ls_run (run_extract rfl rfl) rfl ?_
              refine Ls_run (run_extract rfl rfl) rfl ?_
              refine Ls_run (run_assign rfl) rfl ?_
              refine Ls_run (run_assign rfl) rfl ?_
              refine Ls_nil ?_
              refine Jm_seq ?_
              refine St_seq ?_
              replace hs := hs.front 4 rfl
              simp only [List.cons_append, List.nil_append, List.eraseIdx_cons_zero, List.eraseIdx_cons_succ] at hs
              refine St_hold (Hold.of (Ls := [_]) hs) mixed ?_
              intro w103 q104
              replace hs := hs.quiet q104
              have hH := Hold.of (Ls := [_]) hs
              refine An_take 0 rfl (by kernel_rfl) (by kernel_rfl) (by kernel_rfl) (fun _ _ _ h => h) hH (fun x hx => run_move rfl) rfl ?_
              refine An_take 1 rfl (by kernel_rfl) (by kernel_rfl) (by kernel_rfl) (fun _ _ _ h => h) hH (fun x hx => run_asB (c := false) (run_neq rfl rfl) (by decide)) rfl ?_
              refine An_take 2 rfl (by kernel_rfl) (by kernel_rfl) (by kernel_rfl) (fun _ _ _ h => h) hH (fun x hx => run_move rfl) rfl ?_
              refine An_take_on 3 rfl (by kernel_rfl) (by kernel_rfl) (by kernel_rfl) rfl rfl (fun _ _ _ h => h) hH (fun x hx => run_move rfl) rfl ?_
              refine An_take_on 5 rfl (by kernel_rfl) (by kernel_rfl) (by kernel_rfl) rfl rfl (fun _ _ _ h => h) hH (fun x hx => run_load_agg agg66 inf66 rfl rfl (hx.choose_spec.blk_cells 0 rfl 0 4)) rfl ?_
              refine An_only 4 (by kernel_rfl) rfl ?_
              refine Ls_on rfl rfl ?_
              replace hs := hs.front 1 rfl
              simp only [List.cons_append, List.nil_append, List.eraseIdx_cons_zero, List.eraseIdx_cons_succ] at hs
              refine Ls_call Try.func33 nm33 rfl rfl (Note_c w w103 _ bk _ ⟨(pp : Int), nn, ((i : Int) + 1), sl, false⟩ hs (by show nn.prev.length ≤ _ ∧ nn.cur.length ≤ _; omega)) rfl ?_
              rintro v105 w106 ⟨Zc1, Zc2, Zc3, Zc4, rfl, hs⟩
              replace hs := hs.front 3 rfl
              simp only [List.cons_append, List.nil_append, List.eraseIdx_cons_zero, List.eraseIdx_cons_succ] at hs
              replace hH := Hold.of (Ls := [_]) hs
              refine Ls_nil (Jm_An hH ?_)
              refine An_only 6 (by kernel_rfl) rfl ?_
              refine Ls_on rfl rfl ?_
              try simp only [List.nil_append, List.cons_append] at hs
              refine Ls_call Try.func36 nm36 rfl rfl (notes_c w106 nn _ _ _ _ _ _ _ _ (hs.rd_at 1 rfl) (hs.rd_at 2 rfl) ((hs.kept 11 rfl).1) ((hs.kept 11 rfl).2) (by omega)) rfl ?_
              rintro v107 w108 ⟨rfl, hsI⟩
              replace hs := hs.trans hsI
              simp only [List.nil_append, List.cons_append] at hs
              replace hH := Hold.of (Ls := [_]) hs
              refine Ls_nil (Jm_An hH ?_)
              refine An_take_on 7 rfl (by kernel_rfl) (by kernel_rfl) (by kernel_rfl) rfl rfl (fun _ _ _ h => h) hH (fun x hx => run_not rfl) rfl ?_
              refine An_take 8 rfl (by kernel_rfl) (by kernel_rfl) (by kernel_rfl) (fun _ _ _ h => h) hH (fun x hx => run_pick_f rfl rfl) rfl ?_
              refine An_done (by kernel_rfl) ?_
              refine Jm_seq ?_
              refine St_iff rfl ?_
              refine St_skip ?_
              replace hs := hs.erase 5
              simp only [List.cons_append, List.nil_append, List.eraseIdx_cons_zero, List.eraseIdx_cons_succ] at hs
              replace hs := hs.erase 1
              simp only [List.cons_append, List.nil_append, List.eraseIdx_cons_zero, List.eraseIdx_cons_succ] at hs
              replace hs := hs.erase 1
              simp only [List.cons_append, List.nil_append, List.eraseIdx_cons_zero, List.eraseIdx_cons_succ] at hs
              replace hs := hs.erase 4
              simp only [List.cons_append, List.nil_append, List.eraseIdx_cons_zero, List.eraseIdx_cons_succ] at hs
              replace hs := hs.erase 4
              simp only [List.cons_append, List.nil_append, List.eraseIdx_cons_zero, List.eraseIdx_cons_succ] at hs
              replace hs := hs.erase 5
              simp only [List.cons_append, List.nil_append, List.eraseIdx_cons_zero, List.eraseIdx_cons_succ] at hs
              replace hs := hs.front 2 rfl
              simp only [List.cons_append, List.nil_append, List.eraseIdx_cons_zero, List.eraseIdx_cons_succ] at hs
              replace hs := hs.front 2 rfl
              simp only [List.cons_append, List.nil_append, List.eraseIdx_cons_zero, List.eraseIdx_cons_succ] at hs
              replace hs := hs.front 5 rfl
              simp only [List.cons_append, List.nil_append, List.eraseIdx_cons_zero, List.eraseIdx_cons_succ] at hs
              replace hs := hs.front 3 rfl
              simp only [List.cons_append, List.nil_append, List.eraseIdx_cons_zero, List.eraseIdx_cons_succ] at hs
              replace hs := hs.front 5 rfl
              simp only [List.cons_append, List.nil_append, List.eraseIdx_cons_zero, List.eraseIdx_cons_succ] at hs
              replace hs := hs.front 5 rfl
              simp only [List.cons_append, List.nil_append, List.eraseIdx_cons_zero, List.eraseIdx_cons_succ] at hs
              refine Jm_join bk ?_ ?_
              · rw [hEn79]; exact (subE_cons rfl (subE_cons rfl (subE_cons rfl (subE_cons rfl (subE_cons rfl (subE_cons rfl (subE_cons rfl subE_nil)))))))
              · skip
                rw [hIv80]
                exact ⟨_, hs, dg_reads (dg_back hdg), dj_reads (show DJ (don (doff (dcut d 0))) _ from hdj)⟩
            · skip
              refine St_skip ?_
              replace hs := hs.erase 2
              simp only [List.cons_append, List.nil_append, List.eraseIdx_cons_zero, List.eraseIdx_cons_succ] at hs
              refine Jm_join bj ?_ ?_
              · rw [hEn79]; exact (subE_cons rfl (subE_cons rfl (subE_cons rfl (subE_cons rfl (subE_cons rfl (subE_cons rfl (subE_cons rfl subE_nil)))))))
              · skip
                rw [hIv80]
                exact ⟨d, hs, hdg, hdj⟩
          · skip
            rintro bj2 w81 hI110
            rw [hIv80] at hI110
            obtain ⟨d2, hs, hdg2, hdj2⟩ := hI110
            refine Jm_eqE (hEn79 _) ?_
            refine Jm_seq ?_
            refine St_seq ?_
            refine St_region ?_
            refine Ls_run (run_move rfl) rfl ?_
            replace hs := hs.front 5 rfl
            simp only [List.cons_append, List.nil_append, List.eraseIdx_cons_zero, List.eraseIdx_cons_succ] at hs
            obtain ⟨A0, c0, hd0⟩ := hs.dhd
            refine Ls_call Try.func19 nm19 rfl rfl (Writes_c w81 b0 d2 A0 c0 hd0) rfl ?_
            rintro v111 w112 ⟨rfl, rfl⟩
            refine Ls_run (run_assign rfl) rfl ?_
            refine Ls_nil ?_
            refine Jm_seq ?_
            refine St_seq ?_
            refine St_seq ?_
            replace hs := hs.front 3 rfl
            simp only [List.cons_append, List.nil_append, List.eraseIdx_cons_zero, List.eraseIdx_cons_succ] at hs
            replace hs := hs.front 2 rfl
            simp only [List.cons_append, List.nil_append, List.eraseIdx_cons_zero, List.eraseIdx_cons_succ] at hs
            refine St_hold (Hold.of (Ls := [_, _]) hs) mixed ?_
            intro w113 q114
            replace hs := hs.quiet q114
            have hH := Hold.of (Ls := [_, _]) hs
            refine An_take 0 rfl (by kernel_rfl) (by kernel_rfl) (by kernel_rfl) (fun _ _ _ h => h) hH (fun x hx => run_move rfl) rfl ?_
            refine An_take 1 rfl (by kernel_rfl) (by kernel_rfl) (by kernel_rfl) (fun _ _ _ h => h) hH (fun x hx => run_load_agg agg66 inf66 rfl rfl (hx.choose_spec.blk_cells 0 rfl 0 4)) rfl ?_
            refine An_only 2 (by kernel_rfl) rfl ?_
            replace hs := hs.front 2 rfl
            simp only [List.cons_append, List.nil_append, List.eraseIdx_cons_zero, List.eraseIdx_cons_succ] at hs
            replace hs := hs.front 5 rfl
            simp only [List.cons_append, List.nil_append, List.eraseIdx_cons_zero, List.eraseIdx_cons_succ] at hs
            obtain ⟨d1, hvx, hdg1, hbl1, hwr1, hjo1⟩ := jsave_ok (n := n1) hjo rfl hdg2 hnx.1 hnx.2.1 (by show (i : Int) + 1 < _; omega)
            replace hvx : jsave ⟨(pp : Int), nn, ((i : Int) + 1), sl, false⟩ d2 n1 = (0, ⟨(pp : Int), n1, ((i : Int) + 1 + 1), (1 - sl), false⟩, d1) := hvx
            replace hjo1 : JOk ⟨(pp : Int), n1, ((i : Int) + 1 + 1), (1 - sl), false⟩ := hjo1
            have hdj1 : DJ d1 ⟨(pp : Int), n1, ((i : Int) + 1 + 1), (1 - sl), false⟩ := dj_save hjo hdj2 hbl1 (by show (i : Int) + 1 < (i : Int) + 1 + 1; omega)
            refine Ls_call Try.func35 nm35 rfl rfl (Save_c w w113 _ bj2 b0 ⟨(pp : Int), nn, ((i : Int) + 1), sl, false⟩ d2 hs hjo hdg2.2.2.2.2 n1 _ _ _ _ (fun w' X q => (hKn w' (q.kept 4 rfl) (q.kept 3 rfl)).1) (fun w' X q => (hKn w' (q.kept 4 rfl) (q.kept 3 rfl)).2) (by omega)) rfl ?_
            rintro v115 w116 ⟨rfl, hs⟩
            simp only [hvx] at hs ⊢
            replace hs := hs.front 3 rfl
            simp only [List.cons_append, List.nil_append, List.eraseIdx_cons_zero, List.eraseIdx_cons_succ] at hs
            replace hs := hs.front 3 rfl
            simp only [List.cons_append, List.nil_append, List.eraseIdx_cons_zero, List.eraseIdx_cons_succ] at hs
            replace hH := Hold.of (Ls := [_, _]) hs
            refine Ls_nil (Jm_An hH ?_)
            refine An_take 3 rfl (by kernel_rfl) (by kernel_rfl) (by kernel_rfl) (fun _ _ _ h => h) hH (fun x hx => run_asB (c := false) (run_neq rfl rfl) (by decide)) rfl ?_
            refine An_take 4 rfl (by kernel_rfl) (by kernel_rfl) (by kernel_rfl) (fun _ _ _ h => h) hH (fun x hx => run_move rfl) rfl ?_
            refine An_take_on 5 rfl (by kernel_rfl) (by kernel_rfl) (by kernel_rfl) rfl rfl (fun _ _ _ h => h) hH (fun x hx => run_move rfl) rfl ?_
            refine An_take_on 7 rfl (by kernel_rfl) (by kernel_rfl) (by kernel_rfl) rfl rfl (fun _ _ _ h => h) hH (fun x hx => run_move rfl) rfl ?_
            refine An_take_on 8 rfl (by kernel_rfl) (by kernel_rfl) (by kernel_rfl) rfl rfl (fun _ _ _ h => h) hH (fun x hx => run_add rfl rfl rfl) rfl ?_
            refine An_only 6 (by kernel_rfl) rfl ?_
            refine Ls_on rfl rfl ?_
            replace hs := hs.front 3 rfl
            simp only [List.cons_append, List.nil_append, List.eraseIdx_cons_zero, List.eraseIdx_cons_succ] at hs
            obtain ⟨A0, c0, hd0⟩ := hs.dhd
            refine Ls_call Try.func19 nm19 rfl rfl (Writes_c w116 b0 d1 A0 c0 hd0) rfl ?_
            rintro v117 w118 ⟨rfl, rfl⟩
            replace hs := hs.front 2 rfl
            simp only [List.cons_append, List.nil_append, List.eraseIdx_cons_zero, List.eraseIdx_cons_succ] at hs
            replace hs := hs.front 2 rfl
            simp only [List.cons_append, List.nil_append, List.eraseIdx_cons_zero, List.eraseIdx_cons_succ] at hs
            replace hH := Hold.of (Ls := [_, _]) hs
            refine Ls_nil (Jm_An hH ?_)
            refine An_take_on 9 rfl (by kernel_rfl) (by kernel_rfl) (by kernel_rfl) rfl rfl (fun _ _ _ h => h) hH (fun x hx => run_asB (c := false) (run_neq rfl rfl) (by rw [hwr1]; simp)) rfl ?_
            refine An_take 10 rfl (by kernel_rfl) (by kernel_rfl) (by kernel_rfl) (fun _ _ _ h => h) hH (fun x hx => run_pick_f rfl rfl) rfl ?_
            refine An_take 11 rfl (by kernel_rfl) (by kernel_rfl) (by kernel_rfl) (fun _ _ _ h => h) hH (fun x hx => run_move rfl) rfl ?_
            refine An_take_on 12 rfl (by kernel_rfl) (by kernel_rfl) (by kernel_rfl) rfl rfl (fun _ _ _ h => h) hH (fun x hx => run_move rfl) rfl ?_
            refine An_take_on 14 rfl (by kernel_rfl) (by kernel_rfl) (by kernel_rfl) rfl rfl (fun _ _ _ h => h) hH (fun x hx => run_load_agg agg66 inf66 rfl rfl (hx.choose_spec.blk_cells 0 rfl 0 4)) rfl ?_
            refine An_only 13 (by kernel_rfl) rfl ?_
            refine Ls_on rfl rfl ?_
            replace hs := hs.front 3 rfl
            simp only [List.cons_append, List.nil_append, List.eraseIdx_cons_zero, List.eraseIdx_cons_succ] at hs
            refine Ls_call Try.func33 nm33 rfl rfl (Note_c w w116 _ bj2 _ ⟨(pp : Int), n1, ((i : Int) + 1 + 1), (1 - sl), false⟩ hs (by show n1.prev.length ≤ _ ∧ n1.cur.length ≤ _; omega)) rfl ?_
            rintro v119 w120 ⟨Zd1, Zd2, Zd3, Zd4, rfl, hs⟩
            replace hs := hs.front 4 rfl
            simp only [List.cons_append, List.nil_append, List.eraseIdx_cons_zero, List.eraseIdx_cons_succ] at hs
            replace hs := hs.front 4 rfl
            simp only [List.cons_append, List.nil_append, List.eraseIdx_cons_zero, List.eraseIdx_cons_succ] at hs
            replace hH := Hold.of (Ls := [_, _]) hs
            refine Ls_nil (Jm_An hH ?_)
            refine An_only 15 (by kernel_rfl) rfl ?_
            refine Ls_on rfl rfl ?_
            try simp only [List.nil_append, List.cons_append] at hs
            refine Ls_call Try.func36 nm36 rfl rfl (notes_c w120 n1 _ _ _ _ _ _ _ _ (hs.rd_at 2 rfl) (hs.rd_at 3 rfl) ((hKn _ (hs.kept 7 rfl) (hs.kept 6 rfl)).1) ((hKn _ (hs.kept 7 rfl) (hs.kept 6 rfl)).2) (by omega)) rfl ?_
            rintro v121 w122 ⟨rfl, hsI⟩
            replace hs := hs.trans hsI
            simp only [List.nil_append, List.cons_append] at hs
            replace hs := hs.front 1 rfl
            simp only [List.cons_append, List.nil_append, List.eraseIdx_cons_zero, List.eraseIdx_cons_succ] at hs
            replace hs := hs.front 1 rfl
            simp only [List.cons_append, List.nil_append, List.eraseIdx_cons_zero, List.eraseIdx_cons_succ] at hs
            replace hH := Hold.of (Ls := [_, _]) hs
            refine Ls_nil (Jm_An hH ?_)
            refine An_take_on 16 rfl (by kernel_rfl) (by kernel_rfl) (by kernel_rfl) rfl rfl (fun _ _ _ h => h) hH (fun x hx => run_not rfl) rfl ?_
            refine An_take 17 rfl (by kernel_rfl) (by kernel_rfl) (by kernel_rfl) (fun _ _ _ h => h) hH (fun x hx => run_pick_f rfl rfl) rfl ?_
            refine An_take 18 rfl (by kernel_rfl) (by kernel_rfl) (by kernel_rfl) (fun _ _ _ h => h) hH (fun x hx => run_move rfl) rfl ?_
            refine An_take_on 19 rfl (by kernel_rfl) (by kernel_rfl) (by kernel_rfl) rfl rfl (fun _ _ _ h => h) hH (fun x hx => run_as (run_field Try.underlying66 rfl inf3 (by decide) rfl) (show _ = Value.pointer (some ⟨b77, 3, none⟩) from rfl)) rfl ?_
            refine An_take_on 20 rfl (by kernel_rfl) (by kernel_rfl) (by kernel_rfl) rfl rfl (fun _ _ _ h => h) hH (fun x hx => run_load sc3 rfl (hx.choose_spec.blk_at 0 rfl 3 rfl)) rfl ?_
            refine An_take_on 21 rfl (by kernel_rfl) (by kernel_rfl) (by kernel_rfl) rfl rfl (fun _ _ _ h => h) hH (fun x hx => run_as (run_field Try.underlying66 rfl inf3 (by decide) rfl) (show _ = Value.pointer (some ⟨b12, 3, none⟩) from rfl)) rfl ?_
            refine An_take_on 22 rfl (by kernel_rfl) (by kernel_rfl) (by kernel_rfl) rfl rfl (fun _ _ _ h => h) hH (fun x hx => run_load sc3 rfl (hx.choose_spec.blk_at 1 rfl 3 rfl)) rfl ?_
            refine An_take_on 23 rfl (by kernel_rfl) (by kernel_rfl) (by kernel_rfl) rfl rfl (fun _ _ _ h => h) hH (fun x hx => run_asB (c := false) (run_lss rfl rfl) (decide_eq_false (by have := hnx.2.2.2.2; omega))) rfl ?_
            refine An_take 24 rfl (by kernel_rfl) (by kernel_rfl) (by kernel_rfl) (fun _ _ _ h => h) hH (fun x hx => run_pick_f rfl rfl) rfl ?_
            refine An_take 25 rfl (by kernel_rfl) (by kernel_rfl) (by kernel_rfl) (fun _ _ _ h => h) hH (fun x hx => run_move rfl) rfl ?_
            refine An_take_on 26 rfl (by kernel_rfl) (by kernel_rfl) (by kernel_rfl) rfl rfl (fun _ _ _ h => h) hH (fun x hx => run_as (run_field Try.underlying66 rfl inf64 (by decide) rfl) (show _ = Value.pointer (some ⟨b12, 0, none⟩) from rfl)) rfl ?_
            refine An_take_on 27 rfl (by kernel_rfl) (by kernel_rfl) (by kernel_rfl) rfl rfl (fun _ _ _ h => h) hH (fun x hx => run_as (run_field Try.underlying64 rfl inf62 (by decide) rfl) (show _ = Value.pointer (some ⟨b12, 2, none⟩) from rfl)) rfl ?_
            refine An_take_on 28 rfl (by kernel_rfl) (by kernel_rfl) (by kernel_rfl) rfl rfl (fun _ _ _ h => h) hH (fun x hx => run_load sc62 rfl (hx.choose_spec.blk_at 1 rfl 2 rfl)) rfl ?_
            refine An_take_on 29 rfl (by kernel_rfl) (by kernel_rfl) (by kernel_rfl) rfl rfl (fun _ _ _ h => h) hH (fun x hx => run_as (run_field Try.underlying66 rfl inf64 (by decide) rfl) (show _ = Value.pointer (some ⟨b77, 0, none⟩) from rfl)) rfl ?_
            refine An_take_on 30 rfl (by kernel_rfl) (by kernel_rfl) (by kernel_rfl) rfl rfl (fun _ _ _ h => h) hH (fun x hx => run_as (run_field Try.underlying64 rfl inf62 (by decide) rfl) (show _ = Value.pointer (some ⟨b77, 2, none⟩) from rfl)) rfl ?_
            refine An_take_on 31 rfl (by kernel_rfl) (by kernel_rfl) (by kernel_rfl) rfl rfl (fun _ _ _ h => h) hH (fun x hx => run_load sc62 rfl (hx.choose_spec.blk_at 0 rfl 2 rfl)) rfl ?_
            refine An_only 32 (by kernel_rfl) rfl ?_
            refine Ls_on rfl rfl ?_
            refine Ls_call Try.func51 nm51 rfl rfl (Forward_c w122 _ _ _ nn.cur _ _ _ n1.cur ((hs.kept 7 rfl).2) ((hKn _ (hs.kept 7 rfl) (hs.kept 6 rfl)).2) (by omega)) rfl ?_
            rintro v123 w124 ⟨rfl, hsF⟩
            replace hs := hs.trans hsF
            simp only [List.nil_append, List.cons_append] at hs
            rw [decide_eq_true hnx.2.2.1]
            replace hs := hs.front 1 rfl
            simp only [List.cons_append, List.nil_append, List.eraseIdx_cons_zero, List.eraseIdx_cons_succ] at hs
            replace hs := hs.front 1 rfl
            simp only [List.cons_append, List.nil_append, List.eraseIdx_cons_zero, List.eraseIdx_cons_succ] at hs
            replace hH := Hold.of (Ls := [_, _]) hs
            refine Ls_nil (Jm_An hH ?_)
            refine An_take_on 33 rfl (by kernel_rfl) (by kernel_rfl) (by kernel_rfl) rfl rfl (fun _ _ _ h => h) hH (fun x hx => run_not rfl) rfl ?_
            refine An_take 34 rfl (by kernel_rfl) (by kernel_rfl) (by kernel_rfl) (fun _ _ _ h => h) hH (fun x hx => run_pick_f rfl rfl) rfl ?_
            refine An_take 35 rfl (by kernel_rfl) (by kernel_rfl) (by kernel_rfl) (fun _ _ _ h => h) hH (fun x hx => run_move rfl) rfl ?_
            refine An_take_on 36 rfl (by kernel_rfl) (by kernel_rfl) (by kernel_rfl) rfl rfl (fun _ _ _ h => h) hH (fun x hx => run_as (run_field Try.underlying66 rfl inf64 (by decide) rfl) (show _ = Value.pointer (some ⟨b77, 0, none⟩) from rfl)) rfl ?_
            refine An_take_on 37 rfl (by kernel_rfl) (by kernel_rfl) (by kernel_rfl) rfl rfl (fun _ _ _ h => h) hH (fun x hx => run_as (run_field Try.underlying64 rfl inf3 (by decide) rfl) (show _ = Value.pointer (some ⟨b77, 0, none⟩) from rfl)) rfl ?_
            refine An_take_on 38 rfl (by kernel_rfl) (by kernel_rfl) (by kernel_rfl) rfl rfl (fun _ _ _ h => h) hH (fun x hx => run_load sc3 rfl (hx.choose_spec.blk_at 0 rfl 0 rfl)) rfl ?_
            refine An_take_on 39 rfl (by kernel_rfl) (by kernel_rfl) (by kernel_rfl) rfl rfl (fun _ _ _ h => h) hH (fun x hx => run_as (run_field Try.underlying66 rfl inf64 (by decide) rfl) (show _ = Value.pointer (some ⟨b12, 0, none⟩) from rfl)) rfl ?_
            refine An_take_on 40 rfl (by kernel_rfl) (by kernel_rfl) (by kernel_rfl) rfl rfl (fun _ _ _ h => h) hH (fun x hx => run_as (run_field Try.underlying64 rfl inf3 (by decide) rfl) (show _ = Value.pointer (some ⟨b12, 0, none⟩) from rfl)) rfl ?_
            refine An_take_on 41 rfl (by kernel_rfl) (by kernel_rfl) (by kernel_rfl) rfl rfl (fun _ _ _ h => h) hH (fun x hx => run_load sc3 rfl (hx.choose_spec.blk_at 1 rfl 0 rfl)) rfl ?_
            refine An_take_on 42 rfl (by kernel_rfl) (by kernel_rfl) (by kernel_rfl) rfl rfl (fun _ _ _ h => h) hH (fun x hx => run_asB (c := false) (run_lss rfl rfl) (decide_eq_false (by have := hnx.2.2.2.1; omega))) rfl ?_
            refine An_take 43 rfl (by kernel_rfl) (by kernel_rfl) (by kernel_rfl) (fun _ _ _ h => h) hH (fun x hx => run_pick_f rfl rfl) rfl ?_
            refine An_done (by kernel_rfl) ?_
            refine Jm_seq ?_
            refine St_iff rfl ?_
            refine St_skip ?_
            refine Jm_seq ?_
            refine St_seq ?_
            refine St_region ?_
            refine Ls_run (run_load_agg agg66 inf66 rfl rfl (hs.blk_cells 0 rfl 0 4)) rfl ?_
            replace hs := hs.front 1 rfl
            simp only [List.cons_append, List.nil_append, List.eraseIdx_cons_zero, List.eraseIdx_cons_succ] at hs
            refine Ls_storeAgg hs inf66 rfl rfl rfl rfl (by simp [Value.oneCell', Value.cells, jcells]) ?_
            intro w126 hs
            refine Ls_nil ?_
            refine Jm_seq ?_
            refine St_seq ?_
            refine St_region ?_
            refine Ls_run (run_move rfl) rfl ?_
            refine Ls_run (run_move rfl) rfl ?_
            replace hs := hs.front 5 rfl
            simp only [List.cons_append, List.nil_append, List.eraseIdx_cons_zero, List.eraseIdx_cons_succ] at hs
            have hoe : jopen d1 (pp : Int) = (0, some ⟨(pp : Int), n1, ((i : Int) + 1 + 1), (1 - sl), false⟩, dread_k d1 2) := jopen_same hjo1 hdj1 hdg1.1 rfl
            refine Ls_call Try.func37 nm37 rfl rfl (Open_g w w126 _ b0 d1 hs hdg1.2.2.2.2 (by have := hdg1.2.2.1; omega) pp hp1 hp4) rfl ?_
            rintro v127 w128 ⟨pk, rfl, hs⟩
            simp only [hoe] at hs ⊢
            obtain ⟨bk2, hpk, h9⟩ := hs.joSome
            subst hpk
            replace hs := h9
            refine Ls_run (run_move rfl) rfl ?_
            refine Ls_run (run_extract rfl rfl) rfl ?_
            refine Ls_run (run_extract rfl rfl) rfl ?_
            refine Ls_run (run_assign rfl) rfl ?_
            refine Ls_run (run_assign rfl) rfl ?_
            refine Ls_nil ?_
            refine Jm_seq ?_
            refine St_seq ?_
            refine St_seq ?_
            replace hs := hs.front 2 rfl
            simp only [List.cons_append, List.nil_append, List.eraseIdx_cons_zero, List.eraseIdx_cons_succ] at hs
            refine St_hold (Hold.of (Ls := [_]) hs) mixed ?_
            intro w129 q130
            replace hs := hs.quiet q130
            have hH := Hold.of (Ls := [_]) hs
            refine An_take 0 rfl (by kernel_rfl) (by kernel_rfl) (by kernel_rfl) (fun _ _ _ h => h) hH (fun x hx => run_move rfl) rfl ?_
            refine An_take 1 rfl (by kernel_rfl) (by kernel_rfl) (by kernel_rfl) (fun _ _ _ h => h) hH (fun x hx => run_asB (c := false) (run_neq rfl rfl) (by decide)) rfl ?_
            refine An_take 2 rfl (by kernel_rfl) (by kernel_rfl) (by kernel_rfl) (fun _ _ _ h => h) hH (fun x hx => run_move rfl) rfl ?_
            refine An_take_on 3 rfl (by kernel_rfl) (by kernel_rfl) (by kernel_rfl) rfl rfl (fun _ _ _ h => h) hH (fun x hx => run_move rfl) rfl ?_
            refine An_take_on 5 rfl (by kernel_rfl) (by kernel_rfl) (by kernel_rfl) rfl rfl (fun _ _ _ h => h) hH (fun x hx => run_load_agg agg66 inf66 rfl rfl (hx.choose_spec.blk_cells 0 rfl 0 4)) rfl ?_
            refine An_only 4 (by kernel_rfl) rfl ?_
            refine Ls_on rfl rfl ?_
            replace hs := hs.front 1 rfl
            simp only [List.cons_append, List.nil_append, List.eraseIdx_cons_zero, List.eraseIdx_cons_succ] at hs
            refine Ls_call Try.func33 nm33 rfl rfl (Note_c w w129 _ bk2 _ ⟨(pp : Int), n1, ((i : Int) + 1 + 1), (1 - sl), false⟩ hs (by show n1.prev.length ≤ _ ∧ n1.cur.length ≤ _; omega)) rfl ?_
            rintro v131 w132 ⟨Ze1, Ze2, Ze3, Ze4, rfl, hs⟩
            replace hs := hs.front 3 rfl
            simp only [List.cons_append, List.nil_append, List.eraseIdx_cons_zero, List.eraseIdx_cons_succ] at hs
            replace hH := Hold.of (Ls := [_]) hs
            refine Ls_nil (Jm_An hH ?_)
            refine An_only 6 (by kernel_rfl) rfl ?_
            refine Ls_on rfl rfl ?_
            try simp only [List.nil_append, List.cons_append] at hs
            refine Ls_call Try.func36 nm36 rfl rfl (notes_c w132 n1 _ _ _ _ _ _ _ _ (hs.rd_at 1 rfl) (hs.rd_at 2 rfl) ((hKn _ (hs.kept 10 rfl) (hs.kept 9 rfl)).1) ((hKn _ (hs.kept 10 rfl) (hs.kept 9 rfl)).2) (by omega)) rfl ?_
            rintro v133 w134 ⟨rfl, hsI⟩
            replace hs := hs.trans hsI
            simp only [List.nil_append, List.cons_append] at hs
            replace hH := Hold.of (Ls := [_]) hs
            refine Ls_nil (Jm_An hH ?_)
            refine An_take_on 7 rfl (by kernel_rfl) (by kernel_rfl) (by kernel_rfl) rfl rfl (fun _ _ _ h => h) hH (fun x hx => run_not rfl) rfl ?_
            refine An_take 8 rfl (by kernel_rfl) (by kernel_rfl) (by kernel_rfl) (fun _ _ _ h => h) hH (fun x hx => run_pick_f rfl rfl) rfl ?_
            refine An_done (by kernel_rfl) ?_
            refine Jm_seq ?_
            refine St_iff rfl ?_
            refine St_skip ?_
            refine Jm_seq ?_
            refine St_region ?_
            refine Ls_run (run_move rfl) rfl ?_
            refine Ls_run (run_assign rfl) rfl ?_
            refine Ls_nil ?_
            refine Jm_block_normal (Jm_seq ?_)
            refine St_region ?_
            refine Ls_run (run_move rfl) rfl ?_
            refine Ls_run (run_add rfl rfl (w64 (by omega))) rfl ?_
            refine Ls_run (run_assign rfl) rfl ?_
            refine Ls_nil ?_
            replace hs := hs.erase 1
            simp only [List.cons_append, List.nil_append, List.eraseIdx_cons_zero, List.eraseIdx_cons_succ] at hs
            replace hs := hs.erase 1
            simp only [List.cons_append, List.nil_append, List.eraseIdx_cons_zero, List.eraseIdx_cons_succ] at hs
            replace hs := hs.erase 3
            simp only [List.cons_append, List.nil_append, List.eraseIdx_cons_zero, List.eraseIdx_cons_succ] at hs
            replace hs := hs.erase 3
            simp only [List.cons_append, List.nil_append, List.eraseIdx_cons_zero, List.eraseIdx_cons_succ] at hs
            replace hs := hs.erase 3
            simp only [List.cons_append, List.nil_append, List.eraseIdx_cons_zero, List.eraseIdx_cons_succ] at hs
            replace hs := hs.erase 3
            simp only [List.cons_append, List.nil_append, List.eraseIdx_cons_zero, List.eraseIdx_cons_succ] at hs
            replace hs := hs.front 2 rfl
            simp only [List.cons_append, List.nil_append, List.eraseIdx_cons_zero, List.eraseIdx_cons_succ] at hs
            replace hs := hs.front 2 rfl
            simp only [List.cons_append, List.nil_append, List.eraseIdx_cons_zero, List.eraseIdx_cons_succ] at hs
            replace hs := hs.front 2 rfl
            simp only [List.cons_append, List.nil_append, List.eraseIdx_cons_zero, List.eraseIdx_cons_succ] at hs
            replace hs := hs.front 3 rfl
            simp only [List.cons_append, List.nil_append, List.eraseIdx_cons_zero, List.eraseIdx_cons_succ] at hs
            replace hs := hs.front 4 rfl
            simp only [List.cons_append, List.nil_append, List.eraseIdx_cons_zero, List.eraseIdx_cons_succ] at hs
            replace hs := Sat.toKeep (L1 := [_, _]) (F := fun w => NRd w n1 Aq cq Ar cr) (fun B w q => hKn _ (q.kept 0 rfl) (q.kept 1 rfl)) hs
            replace hs := hs.front 3 rfl
            simp only [List.cons_append, List.nil_append, List.eraseIdx_cons_zero, List.eraseIdx_cons_succ] at hs
            replace hs := hs.front 3 rfl
            simp only [List.cons_append, List.nil_append, List.eraseIdx_cons_zero, List.eraseIdx_cons_succ] at hs
            replace hs := hs.front 2 rfl
            simp only [List.cons_append, List.nil_append, List.eraseIdx_cons_zero, List.eraseIdx_cons_succ] at hs
            replace hs := hs.front 3 rfl
            simp only [List.cons_append, List.nil_append, List.eraseIdx_cons_zero, List.eraseIdx_cons_succ] at hs
            refine Jm_round (i + 1, bk2) ?_ ?_ ?_
            · rw [hEn24]; exact (subE_cons rfl (subE_cons rfl (subE_cons rfl (subE_cons rfl (subE_cons rfl (subE_cons rfl subE_nil))))))
            · skip
              rw [hIv25]
              have hx1 := hnx.2.2.2.1; have hx2 := hnx.2.2.2.2
              exact ⟨n1, _, _, _, _, _, _, hs, by omega, by omega, dg_reads hdg1, hjo1, dj_reads hdj1, by omega, by omega⟩
            · skip
              rw [hms26, hms26]
              omega
    · skip
      refine St_exit ?_
      refine Jm_then_exit (Jm_then_exit (Jm_block_same (Jm_seq ?_)))
      refine St_seq ?_
      refine St_region ?_
      refine Ls_run (run_assign rfl) rfl ?_
      refine Ls_nil ?_
      refine Jm_seq ?_
      refine St_ret ?_
      refine Jm_ret1 rfl rfl ?_
      exact ⟨_, rfl, rfl, hs.below⟩
  · skip
    refine Ls_off rfl rfl rfl rfl ?_
    refine Ls_off rfl rfl rfl rfl ?_
    refine Ls_run (run_pick_f rfl rfl) rfl ?_
    refine Ls_nil ?_
    refine Jm_seq ?_
    refine St_iff rfl ?_
    refine St_exit ?_
    refine Jm_then_exit (Jm_then_exit (Jm_block_same (Jm_seq ?_)))
    refine St_seq ?_
    refine St_region ?_
    refine Ls_run (run_assign rfl) rfl ?_
    refine Ls_nil ?_
    refine Jm_seq ?_
    refine St_ret ?_
    refine Jm_ret1 rfl rfl ?_
    exact ⟨_, rfl, rfl, hs.below⟩
theorem JournalGoes_c (w : World) (A2 : Option Addr) (n2 c2 : Nat) (pl : List (Option Addr × Nat × Nat × Int × Bool × Bool × Int)) (hr : Rd w A2 n2 c2 5 (KTurn.flat pl)) (hput : ∀ x ∈ pl, TurnOk w x) (hn2 : n2 ≤ 9223372036854775807) (parts : Int) : Calls Try.prog 11 [.int .i64 parts, .slice A2 n2 c2].toArray w (Ret (fun v' w' => v' = .bool true ∧ Below w.heap.size w w')) := by
  by_cases h : parts < 1 ∨ 4 < parts
  · exact JournalGoes_bad w A2 n2 c2 pl hr hput hn2 parts h
  · obtain ⟨pp, rfl⟩ : ∃ pp : Nat, parts = (pp : Int) := ⟨parts.toNat, by omega⟩
    exact JournalGoes_ok w A2 n2 c2 pl hr hput hn2 pp (by omega) (by omega)
end Go.Proofs.Ytpmkedgennnekaa.Lg
