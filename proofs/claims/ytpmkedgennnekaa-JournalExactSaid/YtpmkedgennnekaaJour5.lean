/-
  The law's next note, walked. By program (gen/jour5.py).
-/
import Derived.Test.YtpmkedgennnekaaJour4
set_option linter.unusedVariables false
set_option linter.unusedSimpArgs false
namespace Go.Proofs.Ytpmkedgennnekaa.Lg
open Go Go.RowKit Go.Proofs.Ytpmkedgennnekaa.WirePure
theorem flatKI_set (l : List Int) (i : Nat) (x : Int) : (KI.flat l).set (0 + (i : Int).toNat * 1) (.int .i64 x) = KI.flat (l.set i x) := by
  have e : 0 + (i : Int).toNat * 1 = i := by omega
  rw [e, El.int_flat, El.int_flat, List.map_set]
theorem flatKI_app (l r : List Int) : KI.flat l ++ KI.flat r = KI.flat (l ++ r) := (El.flat_append KI l r).symm
/-- Ends that have gone on. -/
def Gone (c x : List Int) : Prop := x.length = c.length ∧ ∀ q, q < c.length → c.getD q 0 ≤ x.getD q 0 ∧ x.getD q 0 ≤ 256
theorem set_getD_ne {l : List Int} {i q : Nat} {x : Int} (h : q ≠ i) : (l.set i x).getD q 0 = l.getD q 0 := by
  rw [List.getD_eq_getElem?_getD, List.getD_eq_getElem?_getD, List.getElem?_set_ne (by omega)]
theorem set_getD_eq {l : List Int} {i : Nat} {x : Int} (h : i < l.length) : (l.set i x).getD i 0 = x := by
  rw [List.getD_eq_getElem?_getD, List.getElem?_set_self h]; rfl
theorem Gone.put {c x : List Int} (h : Gone c x) {i : Nat} {v : Int} (h1 : c.getD i 0 ≤ v) (h2 : v ≤ 256) : Gone c (x.set i v) := by
  refine ⟨by rw [List.length_set]; exact h.1, fun q hq => ?_⟩
  by_cases e : q = i
  · subst e; rw [set_getD_eq (by have := h.1; omega)]; exact ⟨h1, h2⟩
  · rw [set_getD_ne e]; exact h.2 q hq
/-- What a turn makes of a note. -/
def NextOk (parts : Int) (n n' : NSt) : Prop := noteOk n' parts ∧ follows n n' ∧ fwd n.cur n'.cur ∧ (n.batch ≤ n'.batch ∧ n'.batch ≤ n.batch + 1) ∧ n.att ≤ n'.att ∧ n'.att ≤ n.att + 3
theorem next_same {parts : Int} {n : NSt} {a : Nat} (h : noteOk n parts) (hb : n.att + 3 ≤ 1099511627776) (ha : a ≤ 3) : NextOk parts n ⟨n.batch, n.prev, n.cur, n.att + a⟩ := by
  obtain ⟨h1, h2, h3, h4, h5⟩ := h
  unfold within at h2
  refine ⟨⟨h1, by unfold within; simp only; omega, h3, h4, h5⟩, ⟨by simp only; omega, .inl ⟨rfl, rfl, rfl⟩⟩, ⟨rfl, fun i _ => Int.le_refl _⟩, ⟨Int.le_refl _, by simp only; omega⟩, by simp only; omega, by simp only; omega⟩
theorem next_on {parts : Int} {n : NSt} {a : Nat} {x : List Int} (h : noteOk n parts) (hb : n.att + 3 ≤ 1099511627776) (hb2 : n.batch + 1 ≤ 1099511627776) (ha : a ≤ 3) (hx : Gone n.cur x) : NextOk parts n ⟨n.batch + 1, n.cur, x, n.att + a⟩ := by
  have hp := noteOk_pos h
  have hl := noteOk_len h
  obtain ⟨h1, h2, h3, h4, h5⟩ := h
  unfold within at h1 h2
  refine ⟨⟨by unfold within; simp only; omega, by unfold within; simp only; omega, by simp only; omega, ⟨hx.1.symm, fun i hi => (hx.2 i hi).1⟩, fun i hi => ?_⟩, ⟨by simp only; omega, .inr ⟨by simp only; omega, rfl, rfl⟩⟩, ⟨hx.1.symm, fun i hi => (hx.2 i hi).1⟩, ⟨by simp only; omega, Int.le_refl _⟩, by simp only; omega, by simp only; omega⟩
  simp only at hi
  have := hx.1
  refine ⟨(hp.2 _ (getElem_mem3 (by omega))).1, (hx.2 i (by omega)).2, fun h0 => ?_⟩
  simp only at h0; omega
set_option maxRecDepth 100000 in
set_option maxHeartbeats 1000000 in
theorem next_c (B w : World) (L : List Assn) (n : NSt) (Ap : Option Addr) (cp : Nat) (Ac : Option Addr) (cc : Nat) (hs : Sat B w (Own 3 1 (.slice Ap n.prev.length cp) n.prev.length (KI.flat n.prev) :: Own 3 1 (.slice Ac n.cur.length cc) n.cur.length (KI.flat n.cur) :: L)) (parts : Int) (hok : noteOk n parts) (hp4 : parts ≤ 4) (ha3 : n.att + 3 ≤ 1099511627776) (hb3 : n.batch + 1 ≤ 1099511627776) (Ao : Option Addr) (no co : Nat) (ol : List Int) (more : Int) (same cut : Bool) (bad : Int) (hro : Rd B Ao no co 1 (KI.flat ol)) (hno : no ≤ 9223372036854775807) :
    Calls Try.prog 34 [.agg #[.int .i64 n.batch, .slice Ap n.prev.length cp, .slice Ac n.cur.length cc, .int .i64 n.att], .agg #[.slice Ao no co, .int .i64 more, .bool same, .bool cut, .int .i64 bad]].toArray w (Ret (fun v' w' => ∃ n' Ap' cp' Ac' cc', v' = .agg #[.int .i64 n'.batch, .slice Ap' n'.prev.length cp', .slice Ac' n'.cur.length cc', .int .i64 n'.att] ∧ NextOk parts n n' ∧ Sat B w' (Own 3 1 (.slice Ap' n'.prev.length cp') n'.prev.length (KI.flat n'.prev) :: Own 3 1 (.slice Ac' n'.cur.length cc') n'.cur.length (KI.flat n'.cur) :: L))) := by
  obtain ⟨u4, hu4, hu42⟩ := u64_nat more
  obtain ⟨a, ha0⟩ : ∃ q, q = u4 % 4 := ⟨_, rfl⟩
  have hlen := noteOk_len hok
  have hpos := noteOk_pos hok
  have hwb := hok.1
  have hwa := hok.2.1
  unfold within at hwb hwa
  have hol := lenKI hro
  refine Calls_body Try.func34 rfl rfl rfl (envE_cons (i := 0) (v := .agg #[.int .i64 n.batch, .slice Ap n.prev.length cp, .slice Ac n.cur.length cc, .int .i64 n.att]) rfl (envE_cons (i := 1) (v := .agg #[.slice Ao no co, .int .i64 more, .bool same, .bool cut, .int .i64 bad]) rfl envE_nil)) ?_
  refine St_seq ?_
  refine St_region ?_
  refine Ls_box hs rfl rfl ?_
  intro b2 w1 hs
  refine Ls_box hs rfl rfl ?_
  intro b4 w3 hs
  refine Ls_alloc hs inf66 rfl ?_
  intro b6 w5 hs
  refine Ls_nil ?_
  refine Jm_seq ?_
  refine St_seq ?_
  refine St_region ?_
  refine Ls_run (run_as (run_field Try.underlying66 rfl inf3 (by decide) rfl) (show _ = Value.pointer (some ⟨b2, 3, none⟩) from rfl)) rfl ?_
  refine Ls_run (run_load sc3 rfl (hs.blk_at 2 rfl 3 rfl)) rfl ?_
  refine Ls_run (run_as (run_field Try.underlying70 rfl inf3 (by decide) rfl) (show _ = Value.pointer (some ⟨b4, 1, none⟩) from rfl)) rfl ?_
  refine Ls_run (run_load sc3 rfl (hs.blk_at 1 rfl 1 rfl)) rfl ?_
  refine Ls_run (run_conv_int Try.underlying30 us3 rfl (show _ = (u4 : Int) by rw [← hu4])) rfl ?_
  refine Ls_run (run_rem rfl rfl (by decide) (show _ = (a : Int) by rw [ha0]; exact rem_nn u4 4)) rfl ?_
  refine Ls_run (run_conv_int Try.underlying3 us30 rfl (w64 (by omega))) rfl ?_
  refine Ls_run (run_add rfl rfl (w64 (by omega))) rfl ?_
  refine Ls_run (run_as (run_field Try.underlying66 rfl inf3 (by decide) rfl) (show _ = Value.pointer (some ⟨b2, 3, none⟩) from rfl)) rfl ?_
  replace hs := hs.front 2 rfl
  simp only [List.cons_append, List.nil_append, List.eraseIdx_cons_zero, List.eraseIdx_cons_succ] at hs
  refine Ls_store hs inf3 rfl rfl rfl rfl ?_
  intro w7 hs
  try simp only [List.set_cons_zero, List.set_cons_succ] at hs
  refine Ls_nil ?_
  refine Jm_seq ?_
  refine St_seq ?_
  refine St_seq ?_
  refine St_region ?_
  refine Ls_run (run_as (run_field Try.underlying70 rfl inf4 (by decide) rfl) (show _ = Value.pointer (some ⟨b4, 2, none⟩) from rfl)) rfl ?_
  refine Ls_run (run_load sc4 rfl (hs.blk_at 2 rfl 2 rfl)) rfl ?_
  refine Ls_nil ?_
  refine Jm_seq ?_
  refine St_if rfl (fun h8 => ?_) (fun h8 => ?_)
  · skip
    refine St_seq ?_
    refine St_region ?_
    refine Ls_run (run_load_agg agg66 inf66 rfl rfl (hs.blk_cells 0 rfl 0 4)) rfl ?_
    replace hs := hs.front 1 rfl
    simp only [List.cons_append, List.nil_append, List.eraseIdx_cons_zero, List.eraseIdx_cons_succ] at hs
    refine Ls_storeAgg hs inf66 rfl rfl rfl rfl (by simp [Value.oneCell', Value.cells, jcells]) ?_
    intro w9 hs
    refine Ls_nil ?_
    refine Jm_seq ?_
    refine St_ret ?_
    refine Jm_then_ret  ?_
    refine Jm_retC rfl agg66 inf66 rfl rfl (hs.blk_cells 0 rfl 0 4) ?_
    replace hs := hs.erase 0
    simp only [List.cons_append, List.nil_append, List.eraseIdx_cons_zero, List.eraseIdx_cons_succ] at hs
    replace hs := hs.erase 0
    simp only [List.cons_append, List.nil_append, List.eraseIdx_cons_zero, List.eraseIdx_cons_succ] at hs
    replace hs := hs.erase 0
    simp only [List.cons_append, List.nil_append, List.eraseIdx_cons_zero, List.eraseIdx_cons_succ] at hs
    replace hs := hs.front 1 rfl
    simp only [List.cons_append, List.nil_append, List.eraseIdx_cons_zero, List.eraseIdx_cons_succ] at hs
    replace hs := hs.front 1 rfl
    simp only [List.cons_append, List.nil_append, List.eraseIdx_cons_zero, List.eraseIdx_cons_succ] at hs
    exact ⟨_, rfl, ⟨n.batch, n.prev, n.cur, n.att + (a : Int)⟩, Ap, cp, Ac, cc, rfl, next_same hok ha3 (by omega), hs⟩
  · skip
    refine St_skip ?_
    refine Jm_seq ?_
    refine St_seq ?_
    refine St_region ?_
    refine Ls_literal [] hs Try.underlying62 inf3 rfl rfl rfl rfl rfl rfl ?_
    intro b10 w11 hs
    simp only [List.flatMap_cons, List.flatMap_nil, Value.cells, List.cons_append, List.nil_append] at hs
    replace hs := Sat.own_block hs 1 0 rfl (by decide)
    refine Ls_run (run_as (run_field Try.underlying66 rfl inf64 (by decide) rfl) (show _ = Value.pointer (some ⟨b2, 0, none⟩) from rfl)) rfl ?_
    refine Ls_run (run_as (run_field Try.underlying64 rfl inf62 (by decide) rfl) (show _ = Value.pointer (some ⟨b2, 2, none⟩) from rfl)) rfl ?_
    refine Ls_run (run_load sc62 rfl (hs.blk_at 1 rfl 2 rfl)) rfl ?_
    refine Ls_append hs Try.underlying62 inf3 rfl (by decide) (by decide) rfl rfl (hs.rd_at 5 rfl) (flatKI_one _) (by omega) rfl ?_
    intro A12 c13 w14 hs
    refine Ls_run (run_assign rfl) rfl ?_
    refine Ls_nil ?_
    refine Jm_seq ?_
    refine St_seq ?_
    refine St_seq ?_
    refine St_region ?_
    refine Ls_run (run_assign rfl) rfl ?_
    refine Ls_nil ?_
    refine Jm_seq ?_
    refine St_block ?_
    replace hs := hs.erase 4
    simp only [List.cons_append, List.nil_append, List.eraseIdx_cons_zero, List.eraseIdx_cons_succ] at hs
    replace hs := hs.front 4 rfl
    simp only [List.cons_append, List.nil_append, List.eraseIdx_cons_zero, List.eraseIdx_cons_succ] at hs
    replace hs := hs.front 3 rfl
    simp only [List.cons_append, List.nil_append, List.eraseIdx_cons_zero, List.eraseIdx_cons_succ] at hs
    replace hs := hs.front 4 rfl
    simp only [List.cons_append, List.nil_append, List.eraseIdx_cons_zero, List.eraseIdx_cons_succ] at hs
    replace hs := hs.front 4 rfl
    simp only [List.cons_append, List.nil_append, List.eraseIdx_cons_zero, List.eraseIdx_cons_succ] at hs
    replace hs := hs.front 4 rfl
    simp only [List.cons_append, List.nil_append, List.eraseIdx_cons_zero, List.eraseIdx_cons_succ] at hs
    simp only [Nat.zero_add, List.nil_append] at hs ⊢
    obtain ⟨En15, hEn15⟩ : ∃ F : Nat × Value → Env, ∀ (i : Nat) (cv : Value), F (i, cv) = [(2, .pointer (some ⟨b2, 0, none⟩)), (3, .pointer (some ⟨b4, 0, none⟩)), (4, .pointer (some ⟨b6, 0, none⟩)), (5, cv), (6, .int .i64 (i : Int))] := ⟨(fun (s : Nat × Value) => match s with | (i, cv) => [(2, .pointer (some ⟨b2, 0, none⟩)), (3, .pointer (some ⟨b4, 0, none⟩)), (4, .pointer (some ⟨b6, 0, none⟩)), (5, cv), (6, .int .i64 (i : Int))]), fun _ _ => rfl⟩
    obtain ⟨Iv16, hIv16⟩ : ∃ F : Nat × Value → World → Prop, ∀ (i : Nat) (cv : Value) (wr : World), F (i, cv) wr = (∃ xs, Sat B wr (Own 3 1 cv xs.length (KI.flat xs) :: Blk b2 [.int .i64 n.batch, .slice Ap n.prev.length cp, .slice Ac n.cur.length cc, .int .i64 (n.att + (a : Int))] 66 :: Blk b4 [.slice Ao no co, .int .i64 more, .bool same, .bool cut, .int .i64 bad] 70 :: Blk b6 [.int .i64 0, .slice none 0 0, .slice none 0 0, .int .i64 0] 66 :: Own 3 1 (.slice Ac n.cur.length cc) n.cur.length (KI.flat n.cur) :: L) ∧ i ≤ n.cur.length ∧ Gone n.cur xs ∧ ∃ A c, cv = .slice A xs.length c) := ⟨(fun (s : Nat × Value) => match s with | (i, cv) => fun (wr : World) => ∃ xs, Sat B wr (Own 3 1 cv xs.length (KI.flat xs) :: Blk b2 [.int .i64 n.batch, .slice Ap n.prev.length cp, .slice Ac n.cur.length cc, .int .i64 (n.att + (a : Int))] 66 :: Blk b4 [.slice Ao no co, .int .i64 more, .bool same, .bool cut, .int .i64 bad] 70 :: Blk b6 [.int .i64 0, .slice none 0 0, .slice none 0 0, .int .i64 0] 66 :: Own 3 1 (.slice Ac n.cur.length cc) n.cur.length (KI.flat n.cur) :: L) ∧ i ≤ n.cur.length ∧ Gone n.cur xs ∧ ∃ A c, cv = .slice A xs.length c), fun _ _ _ => rfl⟩
    obtain ⟨ms17, hms17⟩ : ∃ F : Nat × Value → Nat, ∀ (i : Nat) (cv : Value), F (i, cv) = (n.cur.length - i) := ⟨(fun (s : Nat × Value) => match s with | (i, cv) => n.cur.length - i), fun _ _ => rfl⟩
    refine St_loop En15 Iv16 ms17 (0, Value.slice A12 n.cur.length c13) ?_ ?_ ?_
    · skip
      rw [hIv16]
      exact ⟨n.cur, hs, by omega, ⟨rfl, fun q hq => ⟨Int.le_refl _, (hpos.2 _ (getElem_mem3 hq)).2⟩⟩, _, _, rfl⟩
    · rw [hEn15]; exact (subE_cons rfl (subE_cons rfl (subE_cons rfl (subE_cons rfl (subE_cons rfl subE_nil)))))
    rintro ⟨i, cv⟩ wr hI18
    rw [hIv16] at hI18
    obtain ⟨xs, hs, hi, hgo, Av, cv9, hcv⟩ := hI18
    refine St_eqE (hEn15 _ _) ?_
    subst hcv
    have hgl := hgo.1
    refine St_seq ?_
    refine St_seq ?_
    refine St_region ?_
    refine Ls_run (run_move rfl) rfl ?_
    refine Ls_run (run_move rfl) rfl ?_
    refine Ls_run (run_len Try.underlying62 rfl) rfl ?_
    refine Ls_run (run_lss rfl rfl) rfl ?_
    refine Ls_run (run_move rfl) rfl ?_
    refine Ls_partP (t := 28) rfl (fun h19 => ?_) (fun h19 => ?_)
    · skip
      refine Ls_on rfl rfl ?_
      refine Ls_run (run_move rfl) rfl ?_
      refine Ls_on rfl rfl ?_
      refine Ls_run (run_as (run_field Try.underlying70 rfl inf62 (by decide) rfl) (show _ = Value.pointer (some ⟨b4, 0, none⟩) from rfl)) rfl ?_
      refine Ls_on rfl rfl ?_
      refine Ls_run (run_load sc62 rfl (hs.blk_at 2 rfl 0 rfl)) rfl ?_
      refine Ls_on rfl rfl ?_
      refine Ls_run (run_len Try.underlying62 rfl) rfl ?_
      refine Ls_on rfl rfl ?_
      refine Ls_run (run_lss rfl rfl) rfl ?_
      refine Ls_run (run_pick_t rfl rfl) rfl ?_
      refine Ls_nil ?_
      refine Jm_seq ?_
      refine St_ifP rfl (fun h20 => ?_) (fun h20 => ?_)
      · skip
        refine St_skip ?_
        refine Jm_seq ?_
        refine St_seq ?_
        refine St_block ?_
        refine St_seq ?_
        refine St_drawC 14 (fun x => Below wr.heap.size wr x) mixed ?_
        intro w21 q22
        have hH := q22.below
        replace hs := hs.quiet q22
        refine AnC_grow hH ?_
        replace hH := Below.refl w21.heap.size w21
        obtain ⟨u, hu, hu2⟩ := u64_nat (ol.getD i 0)
        have hgi := hgo.2 i (by have := hgo.1; omega)
        have hxp := (hpos.2 _ (getElem_mem3 (l := n.cur) (d := 0) (i := i) (by have := hgo.1; omega))).1
        refine AnC_takeP 0 (by kernel_rfl) rfl (by kernel_rfl) (by kernel_rfl) (by kernel_rfl) (fun _ _ _ h => h) (fun _ => hH) (fun x => run_move rfl) rfl ?_
        refine AnC_takeP 1 (by kernel_rfl) rfl (by kernel_rfl) (by kernel_rfl) (by kernel_rfl) (fun _ _ _ h => h) (fun _ => hH) (fun x => run_move rfl) rfl ?_
        refine AnC_index 2 [14, 2] (KI) rfl (by kernel_rfl) (by kernel_rfl) (by kernel_rfl) (by kernel_rfl) (fun _ _ _ _ h => h) hH (fun x hx => ((hs.rd_at 0 rfl).grow hx)) Try.underlying62 inf3 rfl rfl (by omega) (by omega) (show _ = xs.getD i 0 from rfl) rfl ?_
        intro b23 o24 hc25
        refine AnC_take 3 [14, 3] rfl (by kernel_rfl) (by kernel_rfl) (by kernel_rfl) (by kernel_rfl) (fun _ _ _ h => h) hH (fun x hx => run_load sc3 rfl ((hc25 x hx) 0 _ rfl)) rfl ?_
        refine AnC_takeP 4 (by kernel_rfl) rfl (by kernel_rfl) (by kernel_rfl) (by kernel_rfl) (fun _ _ _ h => h) (fun _ => hH) (fun x => run_as (run_field Try.underlying70 rfl inf62 (by decide) rfl) (show _ = Value.pointer (some ⟨b4, 0, none⟩) from rfl)) rfl ?_
        refine AnC_take 5 [14, 5] rfl (by kernel_rfl) (by kernel_rfl) (by kernel_rfl) (by kernel_rfl) (fun _ _ _ h => h) hH (fun x hx => run_load sc62 rfl ((hs.grow hx).blk_at 2 rfl 0 rfl)) rfl ?_
        refine AnC_takeP 6 (by kernel_rfl) rfl (by kernel_rfl) (by kernel_rfl) (by kernel_rfl) (fun _ _ _ h => h) (fun _ => hH) (fun x => run_move rfl) rfl ?_
        refine AnC_index 7 [14, 7] (KI) rfl (by kernel_rfl) (by kernel_rfl) (by kernel_rfl) (by kernel_rfl) (fun _ _ _ _ h => h) hH (fun x hx => ((hro.inB hs).grow hx)) Try.underlying62 inf3 rfl rfl (by omega) (by omega) (show _ = ol.getD i 0 from rfl) rfl ?_
        intro b26 o27 hc28
        refine AnC_take 8 [14, 8] rfl (by kernel_rfl) (by kernel_rfl) (by kernel_rfl) (by kernel_rfl) (fun _ _ _ h => h) hH (fun x hx => run_load sc3 rfl ((hc28 x hx) 0 _ rfl)) rfl ?_
        refine AnC_takeP 9 (by kernel_rfl) rfl (by kernel_rfl) (by kernel_rfl) (by kernel_rfl) (fun _ _ _ h => h) (fun _ => hH) (fun x => run_conv_int Try.underlying30 us3 rfl (show _ = (u : Int) by rw [← hu])) rfl ?_
        refine AnC_takeP 10 (by kernel_rfl) rfl (by kernel_rfl) (by kernel_rfl) (by kernel_rfl) (fun _ _ _ h => h) (fun _ => hH) (fun x => run_rem rfl rfl (by decide) (show _ = ((u % 5 : Nat) : Int) from rem_nn u 5)) rfl ?_
        refine AnC_takeP 11 (by kernel_rfl) rfl (by kernel_rfl) (by kernel_rfl) (by kernel_rfl) (fun _ _ _ h => h) (fun _ => hH) (fun x => run_conv_int Try.underlying3 us30 rfl (w64 (by omega))) rfl ?_
        refine AnC_takeP 12 (by kernel_rfl) rfl (by kernel_rfl) (by kernel_rfl) (by kernel_rfl) (fun _ _ _ h => h) (fun _ => hH) (fun x => run_add rfl rfl (show _ = xs.getD i 0 + ((u % 5 : Nat) : Int) by rw [w64 (by omega)])) rfl ?_
        obtain ⟨g, rfl⟩ := (hs.front 0 rfl).own_addr (by omega)
        refine AnC_takeP 13 (by kernel_rfl) rfl (by kernel_rfl) (by kernel_rfl) (by kernel_rfl) (fun _ _ _ h => h) (fun _ => hH) (fun x => run_index Try.underlying62 inf3 rfl rfl rfl (by omega) (by omega)) rfl ?_
        refine AnC_only 14 (by kernel_rfl) rfl ?_
        refine Ls_storeOwn hs inf3 rfl rfl rfl (by omega) ?_
        intro w29 hs
        refine Ls_nil (Jm_AnC_closed (by kernel_rfl) ?_)
        refine AnC_switch (H' := fun x => Below w29.heap.size w29 x) 15 (by kernel_rfl) ?_
        replace hH := Below.refl w29.heap.size w29
        refine AnC_done (by kernel_rfl) ?_
        refine Jm_seq ?_
        refine St_seq ?_
        refine St_region ?_
        rw [flatKI_set] at hs
        obtain ⟨ys, hys⟩ : ∃ q, q = xs.set i (xs.getD i 0 + ((u % 5 : Nat) : Int)) := ⟨_, rfl⟩
        rw [← hys] at hs
        have hyi : ys.getD i 0 = xs.getD i 0 + ((u % 5 : Nat) : Int) := by rw [hys, set_getD_eq (by omega)]
        have hyl : ys.length = xs.length := by rw [hys, List.length_set]
        refine Ls_run (run_move rfl) rfl ?_
        refine Ls_run (run_move rfl) rfl ?_
        refine Ls_index (KI) (hs.rd_at 0 rfl) Try.underlying62 inf3 rfl rfl (by omega) (by omega) (show _ = xs.getD i 0 + ((u % 5 : Nat) : Int) from hyi) rfl ?_
        intro b30 o31 hc32
        refine Ls_run (run_load sc3 rfl (hc32 0 _ rfl)) rfl ?_
        refine Ls_run (run_gtr rfl rfl) rfl ?_
        refine Ls_nil ?_
        refine Jm_seq ?_
        refine St_ifP rfl (fun h33 => ?_) (fun h33 => ?_)
        · skip
          refine St_region ?_
          refine Ls_run (run_move rfl) rfl ?_
          refine Ls_run (run_move rfl) rfl ?_
          refine Ls_run (run_index Try.underlying62 inf3 rfl rfl rfl (by omega) (by omega)) rfl ?_
          refine Ls_storeOwn hs inf3 rfl rfl rfl (by omega) ?_
          intro w34 hs
          refine Ls_nil ?_
          refine Jm_block_normal (Jm_seq ?_)
          refine St_region ?_
          refine Ls_run (run_move rfl) rfl ?_
          refine Ls_run (run_add rfl rfl (w64 (by omega))) rfl ?_
          refine Ls_run (run_assign rfl) rfl ?_
          refine Ls_nil ?_
          rw [flatKI_set, hys, List.set_set] at hs
          refine Jm_round (i + 1, Value.slice (some ⟨g, 0, none⟩) xs.length cv9) ?_ ?_ ?_
          · rw [hEn15]; exact (subE_cons rfl (subE_cons rfl (subE_cons rfl (subE_cons rfl (subE_cons rfl subE_nil)))))
          · skip
            rw [hIv16]
            exact ⟨xs.set i 256, by rw [List.length_set]; exact hs, by omega, hgo.put (by omega) (by decide), _, _, by rw [List.length_set]⟩
          · skip
            rw [hms17, hms17]
            omega
        · skip
          refine St_skip ?_
          refine Jm_block_normal (Jm_seq ?_)
          refine St_region ?_
          refine Ls_run (run_move rfl) rfl ?_
          refine Ls_run (run_add rfl rfl (w64 (by omega))) rfl ?_
          refine Ls_run (run_assign rfl) rfl ?_
          refine Ls_nil ?_
          refine Jm_round (i + 1, Value.slice (some ⟨g, 0, none⟩) xs.length cv9) ?_ ?_ ?_
          · rw [hEn15]; exact (subE_cons rfl (subE_cons rfl (subE_cons rfl (subE_cons rfl (subE_cons rfl subE_nil)))))
          · skip
            rw [hIv16]
            exact ⟨ys, by rw [hyl]; exact hs, by omega, hys ▸ hgo.put (by omega) (by omega), _, _, by rw [hyl]⟩
          · skip
            rw [hms17, hms17]
            omega
      · skip
        refine St_exit ?_
        refine Jm_then_exit (Jm_then_exit (Jm_block_same (Jm_seq ?_)))
        refine St_seq ?_
        refine St_region ?_
        refine Ls_run (run_as (run_field Try.underlying66 rfl inf64 (by decide) rfl) (show _ = Value.pointer (some ⟨b2, 0, none⟩) from rfl)) rfl ?_
        refine Ls_run (run_as (run_field Try.underlying64 rfl inf3 (by decide) rfl) (show _ = Value.pointer (some ⟨b2, 0, none⟩) from rfl)) rfl ?_
        refine Ls_run (run_load sc3 rfl (hs.blk_at 1 rfl 0 rfl)) rfl ?_
        refine Ls_run (run_add rfl rfl (w64 (by omega))) rfl ?_
        refine Ls_run (run_as (run_field Try.underlying66 rfl inf64 (by decide) rfl) (show _ = Value.pointer (some ⟨b2, 0, none⟩) from rfl)) rfl ?_
        refine Ls_run (run_as (run_field Try.underlying64 rfl inf62 (by decide) rfl) (show _ = Value.pointer (some ⟨b2, 2, none⟩) from rfl)) rfl ?_
        refine Ls_run (run_load sc62 rfl (hs.blk_at 1 rfl 2 rfl)) rfl ?_
        refine Ls_run (run_move rfl) rfl ?_
        refine Ls_run (run_buildO (pv := [(0, _), (1, _), (2, _)]) rfl (bld64_0_1_2 _ _ _ _ _ _ _)) rfl ?_
        refine Ls_run (run_as (run_field Try.underlying66 rfl inf64 (by decide) rfl) (show _ = Value.pointer (some ⟨b2, 0, none⟩) from rfl)) rfl ?_
        replace hs := hs.front 1 rfl
        simp only [List.cons_append, List.nil_append, List.eraseIdx_cons_zero, List.eraseIdx_cons_succ] at hs
        refine Ls_storeAggAt hs inf64 rfl rfl rfl (by first | decide | exact Nat.le_of_ble_eq_true rfl) (by simp [Value.oneCell', Value.cells, jcells]) ?_
        intro w35 hs
        simp only [jcells, ncells, Nat.reduceAdd, Nat.zero_add, List.take_succ_cons, List.take_zero, List.drop_succ_cons, List.drop_zero, List.cons_append, List.nil_append] at hs
        refine Ls_nil ?_
        refine Jm_seq ?_
        refine St_seq ?_
        refine St_region ?_
        refine Ls_run (run_load_agg agg66 inf66 rfl rfl (hs.blk_cells 0 rfl 0 4)) rfl ?_
        replace hs := hs.front 3 rfl
        simp only [List.cons_append, List.nil_append, List.eraseIdx_cons_zero, List.eraseIdx_cons_succ] at hs
        refine Ls_storeAgg hs inf66 rfl rfl rfl rfl (by simp [Value.oneCell', Value.cells, jcells]) ?_
        intro w36 hs
        refine Ls_nil ?_
        refine Jm_seq ?_
        refine St_ret ?_
        refine Jm_retC rfl agg66 inf66 rfl rfl (hs.blk_cells 0 rfl 0 4) ?_
        replace hs := hs.erase 0
        simp only [List.cons_append, List.nil_append, List.eraseIdx_cons_zero, List.eraseIdx_cons_succ] at hs
        replace hs := hs.erase 0
        simp only [List.cons_append, List.nil_append, List.eraseIdx_cons_zero, List.eraseIdx_cons_succ] at hs
        replace hs := hs.erase 1
        simp only [List.cons_append, List.nil_append, List.eraseIdx_cons_zero, List.eraseIdx_cons_succ] at hs
        replace hs := hs.front 1 rfl
        simp only [List.cons_append, List.nil_append, List.eraseIdx_cons_zero, List.eraseIdx_cons_succ] at hs
        exact ⟨_, rfl, ⟨n.batch + 1, n.cur, xs, n.att + (a : Int)⟩, Ac, cc, Av, cv9, rfl, next_on hok ha3 hb3 (by omega) hgo, hs⟩
    · skip
      refine Ls_off rfl rfl rfl rfl ?_
      refine Ls_off rfl rfl rfl rfl ?_
      refine Ls_off rfl rfl rfl rfl ?_
      refine Ls_off rfl rfl rfl rfl ?_
      refine Ls_off rfl rfl rfl rfl ?_
      refine Ls_run (run_pick_f rfl rfl) rfl ?_
      refine Ls_nil ?_
      refine Jm_seq ?_
      refine St_iff rfl ?_
      refine St_exit ?_
      refine Jm_then_exit (Jm_then_exit (Jm_block_same (Jm_seq ?_)))
      refine St_seq ?_
      refine St_region ?_
      refine Ls_run (run_as (run_field Try.underlying66 rfl inf64 (by decide) rfl) (show _ = Value.pointer (some ⟨b2, 0, none⟩) from rfl)) rfl ?_
      refine Ls_run (run_as (run_field Try.underlying64 rfl inf3 (by decide) rfl) (show _ = Value.pointer (some ⟨b2, 0, none⟩) from rfl)) rfl ?_
      refine Ls_run (run_load sc3 rfl (hs.blk_at 1 rfl 0 rfl)) rfl ?_
      refine Ls_run (run_add rfl rfl (w64 (by omega))) rfl ?_
      refine Ls_run (run_as (run_field Try.underlying66 rfl inf64 (by decide) rfl) (show _ = Value.pointer (some ⟨b2, 0, none⟩) from rfl)) rfl ?_
      refine Ls_run (run_as (run_field Try.underlying64 rfl inf62 (by decide) rfl) (show _ = Value.pointer (some ⟨b2, 2, none⟩) from rfl)) rfl ?_
      refine Ls_run (run_load sc62 rfl (hs.blk_at 1 rfl 2 rfl)) rfl ?_
      refine Ls_run (run_move rfl) rfl ?_
      refine Ls_run (run_buildO (pv := [(0, _), (1, _), (2, _)]) rfl (bld64_0_1_2 _ _ _ _ _ _ _)) rfl ?_
      refine Ls_run (run_as (run_field Try.underlying66 rfl inf64 (by decide) rfl) (show _ = Value.pointer (some ⟨b2, 0, none⟩) from rfl)) rfl ?_
      replace hs := hs.front 1 rfl
      simp only [List.cons_append, List.nil_append, List.eraseIdx_cons_zero, List.eraseIdx_cons_succ] at hs
      refine Ls_storeAggAt hs inf64 rfl rfl rfl (by first | decide | exact Nat.le_of_ble_eq_true rfl) (by simp [Value.oneCell', Value.cells, jcells]) ?_
      intro w38 hs
      simp only [jcells, ncells, Nat.reduceAdd, Nat.zero_add, List.take_succ_cons, List.take_zero, List.drop_succ_cons, List.drop_zero, List.cons_append, List.nil_append] at hs
      refine Ls_nil ?_
      refine Jm_seq ?_
      refine St_seq ?_
      refine St_region ?_
      refine Ls_run (run_load_agg agg66 inf66 rfl rfl (hs.blk_cells 0 rfl 0 4)) rfl ?_
      replace hs := hs.front 3 rfl
      simp only [List.cons_append, List.nil_append, List.eraseIdx_cons_zero, List.eraseIdx_cons_succ] at hs
      refine Ls_storeAgg hs inf66 rfl rfl rfl rfl (by simp [Value.oneCell', Value.cells, jcells]) ?_
      intro w39 hs
      refine Ls_nil ?_
      refine Jm_seq ?_
      refine St_ret ?_
      refine Jm_retC rfl agg66 inf66 rfl rfl (hs.blk_cells 0 rfl 0 4) ?_
      replace hs := hs.erase 0
      simp only [List.cons_append, List.nil_append, List.eraseIdx_cons_zero, List.eraseIdx_cons_succ] at hs
      replace hs := hs.erase 0
      simp only [List.cons_append, List.nil_append, List.eraseIdx_cons_zero, List.eraseIdx_cons_succ] at hs
      replace hs := hs.erase 1
      simp only [List.cons_append, List.nil_append, List.eraseIdx_cons_zero, List.eraseIdx_cons_succ] at hs
      replace hs := hs.front 1 rfl
      simp only [List.cons_append, List.nil_append, List.eraseIdx_cons_zero, List.eraseIdx_cons_succ] at hs
      exact ⟨_, rfl, ⟨n.batch + 1, n.cur, xs, n.att + (a : Int)⟩, Ac, cc, Av, cv9, rfl, next_on hok ha3 hb3 (by omega) hgo, hs⟩
end Go.Proofs.Ytpmkedgennnekaa.Lg
