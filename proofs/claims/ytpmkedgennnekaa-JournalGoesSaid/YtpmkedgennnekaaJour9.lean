/-
  The law JournalFits, walked. By program (gen/jour9.py).
-/
import Derived.Test.YtpmkedgennnekaaJour8
set_option linter.unusedVariables false
set_option linter.unusedSimpArgs false
namespace Go.Proofs.Ytpmkedgennnekaa.Lg
open Go Go.RowKit Go.Proofs.Ytpmkedgennnekaa.WirePure
/-- The disk bears the journal's note, and nothing newer. -/
def DJ (d : DSt) (j : JSt) : Prop := d.bl.length = 2 ∧ d.bl.getD j.slot.toNat [] = nbytes j.gen j.n ∧
  (d.bl.getD (1 - j.slot).toNat [] = [] ∨ ∃ (n' : NSt) (g' : Int), d.bl.getD (1 - j.slot).toNat [] = nbytes g' n' ∧ noteOk n' j.parts ∧ 1 ≤ g' ∧ g' < j.gen)
theorem dj_save {d d' : DSt} {j : JSt} {n : NSt} {g' : Int} (hj : JOk j) (h : DJ d j) (hb : d'.bl = d.bl.set (1 - j.slot).toNat (nbytes g' n)) (hg : j.gen < g') : DJ d' ⟨j.parts, n, g', 1 - j.slot, false⟩ := by
  obtain ⟨h1, h2, _⟩ := h
  have hs : j.slot = 0 ∨ j.slot = 1 := hj.2.2.2.2.2
  have e : (1 - (1 - j.slot)) = j.slot := by omega
  refine ⟨by rw [hb, List.length_set]; exact h1, ?_, .inr ⟨j.n, j.gen, ?_, hj.1, hj.2.2.2.1, hg⟩⟩
  · show d'.bl.getD (1 - j.slot).toNat [] = _
    rw [hb, List.getD_eq_getElem?_getD, List.getElem?_set_self (by omega)]; rfl
  · show d'.bl.getD (1 - (1 - j.slot)).toNat [] = _
    rw [e, hb, ← h2, List.getD_eq_getElem?_getD, List.getElem?_set_ne (by omega), ← List.getD_eq_getElem?_getD]
theorem jopen_same {d : DSt} {j : JSt} (hj : JOk j) (h : DJ d j) (hd : d.down = false) (he : j.ended = false) : jopen d j.parts = (0, some j, dread_k d 2) := by
  obtain ⟨h1, h2, h3⟩ := h
  have hs : j.slot = 0 ∨ j.slot = 1 := hj.2.2.2.2.2
  have hok := hj.1
  have hr : rentry (nbytes j.gen j.n) j.parts = some (j.n, j.gen) := by rw [rentry_nbytes hok hj.2.2.1 hj.2.2.2.1 hj.2.2.2.2.1, if_pos hok]
  have hp : jpick d.bl j.parts 2 = some j := by
    have ej : ∀ k : Nat, (k : Int) = j.slot → (some ⟨j.parts, j.n, j.gen, (k : Int), false⟩ : Option JSt) = some j := fun k hk => by cases j; simp_all
    rcases hs with s0 | s1
    · rw [s0] at h2 h3
      replace h2 : d.bl.getD 0 [] = _ := h2
      replace h3 : d.bl.getD 1 [] = [] ∨ ∃ (n' : NSt) (g' : Int), d.bl.getD 1 [] = nbytes g' n' ∧ noteOk n' j.parts ∧ 1 ≤ g' ∧ g' < j.gen := h3
      have p1 : jpick d.bl j.parts 1 = some j := by rw [jpick_first (by rw [h2]; exact hr) rfl]; exact ej 0 (by omega)
      rcases h3 with h3 | ⟨n', g', h3, h4, h5, h6⟩
      · rw [jpick_no (by rw [h3]; exact rentry_nil _)]; exact p1
      · exact jpick_less (by rw [h3, rentry_nbytes h4 hj.2.2.1 h5 (by have := hj.2.2.2.2.1; omega), if_pos h4]) p1 (by omega)
    · rw [s1] at h2 h3
      replace h2 : d.bl.getD 1 [] = _ := h2
      replace h3 : d.bl.getD 0 [] = [] ∨ ∃ (n' : NSt) (g' : Int), d.bl.getD 0 [] = nbytes g' n' ∧ noteOk n' j.parts ∧ 1 ≤ g' ∧ g' < j.gen := h3
      rcases h3 with h3 | ⟨n', g', h3, h4, h5, h6⟩
      · have p1 : jpick d.bl j.parts 1 = none := by rw [jpick_no (by rw [h3]; exact rentry_nil _)]; rfl
        rw [jpick_first (by rw [h2]; exact hr) p1]; exact ej 1 (by omega)
      · have p1 : jpick d.bl j.parts 1 = some ⟨j.parts, n', g', ((0 : Nat) : Int), false⟩ := jpick_first (by rw [h3, rentry_nbytes h4 hj.2.2.1 h5 (by have := hj.2.2.2.2.1; omega), if_pos h4]) rfl
        rw [jpick_more (by rw [h2]; exact hr) p1 h6]; exact ej 1 (by omega)
  unfold jopen
  rw [if_neg (by have := hj.2.1; have := hj.2.2.1; omega), if_neg (by omega), if_neg (by simp [hd]), h1]
  show (match jpick d.bl j.parts 2 with | none => _ | some j => _) = _
  rw [hp]
  rfl
theorem jopen_other {d : DSt} {j : JSt} {q : Int} (hj : JOk j) (h : DJ d j) (hd : d.down = false) (hq : q ≠ j.parts) (h1q : 1 ≤ q) (h4q : q ≤ 4) : jopen d q = (180, none, dread_k d 2) := by
  obtain ⟨h1, h2, h3⟩ := h
  have hs : j.slot = 0 ∨ j.slot = 1 := hj.2.2.2.2.2
  have no : ∀ (n : NSt) (g : Int), noteOk n j.parts → 1 ≤ g → g ≤ 1099511627776 → rentry (nbytes g n) q = none := fun n g hn a b => by
    rw [rentry_nbytes hn hj.2.2.1 a b, if_neg (fun hx => hq (by have := hx.2.2.1; have := hn.2.2.1; omega))]
  have r1 := no _ _ hj.1 hj.2.2.2.1 hj.2.2.2.2.1
  have r2 : rentry (d.bl.getD (1 - j.slot).toNat []) q = none := by
    rcases h3 with h3 | ⟨n', g', h3, h4, h5, h6⟩
    · rw [h3]; exact rentry_nil _
    · rw [h3]; exact no _ _ h4 h5 (by have := hj.2.2.2.2.1; omega)
  rw [← h2] at r1
  have p0 : rentry (d.bl.getD 0 []) q = none ∧ rentry (d.bl.getD 1 []) q = none := by
    rcases hs with s0 | s1
    · rw [s0] at r1 r2; exact ⟨r1, r2⟩
    · rw [s1] at r1 r2; exact ⟨r2, r1⟩
  have hp : jpick d.bl q 2 = none := by rw [jpick_no p0.2, jpick_no p0.1]; rfl
  unfold jopen
  rw [if_neg (by omega), if_neg (by omega), if_neg (by simp [hd]), h1]
  show (match jpick d.bl q 2 with | none => _ | some j => _) = _
  rw [hp]
  rfl
theorem dj_new {d : DSt} {m : Nat} (h : d.bl = [nbytes 1 (jnew m).n, []]) : DJ d (jnew m) := ⟨by rw [h]; rfl, by rw [h]; rfl, .inl (by rw [h]; rfl)⟩
theorem dg_reads {d : DSt} {k : Nat} (h : DG d) : DG (dread_k d k) := by
  have hs := dread_k_same d k
  obtain ⟨h1, h2, h3, h4, h5⟩ := h
  exact ⟨by rw [hs.2.1]; exact h1, by rw [hs.2.2.1]; exact h2, by rw [hs.1]; exact h3, by rw [hs.1]; exact h4, by rw [hs.1]; exact h5⟩
theorem dj_reads {d : DSt} {j : JSt} {k : Nat} (h : DJ d j) : DJ (dread_k d k) j := by
  have hs := dread_k_same d k
  unfold DJ at h ⊢
  rw [hs.1]; exact h
theorem Save_e (B w : World) (L : List Assn) (bj b : Nat) (j : JSt) (d : DSt) (hs : Sat B w (JA 98 3 bj (some ⟨b, 0, none⟩) j :: DiskA 85 31 5 b d :: L)) (hjo : JOk j) (hdok : ∀ x ∈ d.bl, IsBytes x ∧ x.length ≤ 1024) (n : NSt) (Np : Option Addr) (np : Nat) (Nc : Option Addr) (nc : Nat) (lp lc : Nat) (h1 : n.prev.length = lp) (h2 : n.cur.length = lc) (bt at_ : Int) (h3 : n.batch = bt) (h4 : n.att = at_) (hrp : ∀ w' X, Sat B w' (X :: L) → Rd w' Np lp np 1 (KI.flat n.prev)) (hrc : ∀ w' X, Sat B w' (X :: L) → Rd w' Nc lc nc 1 (KI.flat n.cur)) (hzn : lp ≤ 1073741824 ∧ lc ≤ 1073741824) :
    Calls Try.prog 35 [.pointer (some ⟨bj, 0, none⟩), .agg #[.int .i64 bt, .slice Np lp np, .slice Nc lc nc, .int .i64 at_]].toArray w (Ret (fun v' w' => v' = .int .i64 (jsave j d n).1 ∧ Sat B w' (JA 98 3 bj (some ⟨b, 0, none⟩) (jsave j d n).2.1 :: DiskA 85 31 5 b (jsave j d n).2.2 :: L))) := by
  subst h1 h2 h3 h4
  exact Save_c B w L bj b j d hs hjo hdok n Np np Nc nc hrp hrc hzn
set_option maxRecDepth 100000 in
set_option maxHeartbeats 1000000 in
theorem JournalFits_c (w : World) (parts other : Int) (A2 : Option Addr) (n2 c2 : Nat) (pl : List (Option Addr × Nat × Nat × Int × Bool × Bool × Int)) (hr : Rd w A2 n2 c2 5 (KTurn.flat pl)) (hput : ∀ x ∈ pl, TurnOk w x) (hn2 : n2 ≤ 9223372036854775807) :
    Calls Try.prog 9 [.int .i64 parts, .int .i64 other, .slice A2 n2 c2].toArray w (Ret (fun v' w' => v' = .bool true ∧ Below w.heap.size w w')) := by
  have hs := Sat.start w
  have hl : pl.length = n2 := by have := hr.len; rw [El.flat_length] at this; exact Nat.eq_of_mul_eq_mul_right (by decide) this
  obtain ⟨u0, hu0, hu02⟩ := u64_nat parts
  obtain ⟨q0, hq0⟩ : ∃ q, q = u0 % 4 := ⟨_, rfl⟩
  obtain ⟨pp, hpp⟩ : ∃ z, z = q0 + 1 := ⟨_, rfl⟩
  obtain ⟨u1, hu1, hu12⟩ := u64_nat other
  obtain ⟨q1, hq1e⟩ : ∃ q, q = u1 % 4 := ⟨_, rfl⟩
  obtain ⟨pq, hpq⟩ : ∃ z, z = q1 + 1 := ⟨_, rfl⟩
  have hp1 : 1 ≤ pp := by omega
  have hp4 : pp ≤ 4 := by omega
  have hq1 : 1 ≤ pq := by omega
  have hq4 : pq ≤ 4 := by omega
  refine Calls_body Try.func9 rfl rfl rfl (envE_cons (i := 0) (v := .int .i64 parts) rfl (envE_cons (i := 1) (v := .int .i64 other) rfl (envE_cons (i := 2) (v := .slice A2 n2 c2) rfl envE_nil))) ?_
  refine St_seq ?_
  refine St_region ?_
  refine Ls_run (run_assign rfl) rfl ?_
  refine Ls_nil ?_
  refine Jm_seq ?_
  refine St_seq ?_
  refine St_seq ?_
  refine St_region ?_
  refine Ls_call Try.func31 nm31 rfl rfl (awake18_c w) rfl ?_
  rintro v1 w2 ⟨rfl, hsA⟩
  replace hs := hs.trans hsA
  simp only [List.nil_append] at hs
  refine Ls_run (run_not rfl) rfl ?_
  refine Ls_nil ?_
  refine Jm_seq ?_
  refine St_iff rfl ?_
  refine St_skip ?_
  refine Jm_seq ?_
  refine St_seq ?_
  refine St_region ?_
  refine Ls_run (run_move rfl) rfl ?_
  refine Ls_run (run_conv_int Try.underlying30 us3 rfl (show _ = (u0 : Int) by rw [← hu0])) rfl ?_
  refine Ls_run (run_rem rfl rfl (by decide) (show _ = (q0 : Int) by rw [hq0]; exact rem_nn u0 4)) rfl ?_
  refine Ls_run (run_conv_int Try.underlying3 us30 rfl (w64 (by omega))) rfl ?_
  refine Ls_run (run_add rfl rfl (show _ = (pp : Int) by rw [w64 (by omega)]; omega)) rfl ?_
  refine Ls_run (run_assign rfl) rfl ?_
  refine Ls_nil ?_
  refine Jm_seq ?_
  refine St_seq ?_
  refine St_region ?_
  refine Ls_run (run_move rfl) rfl ?_
  refine Ls_run (run_conv_int Try.underlying30 us3 rfl (show _ = (u1 : Int) by rw [← hu1])) rfl ?_
  refine Ls_run (run_rem rfl rfl (by decide) (show _ = (q1 : Int) by rw [hq1e]; exact rem_nn u1 4)) rfl ?_
  refine Ls_run (run_conv_int Try.underlying3 us30 rfl (w64 (by omega))) rfl ?_
  refine Ls_run (run_add rfl rfl (show _ = (pq : Int) by rw [w64 (by omega)]; omega)) rfl ?_
  refine Ls_run (run_assign rfl) rfl ?_
  refine Ls_nil ?_
  refine Jm_seq ?_
  refine St_seq ?_
  refine St_region ?_
  refine Ls_call Try.func13 nm13 rfl rfl (New_c w2 2 (by decide) (by decide)) rfl ?_
  rintro v4 w5 ⟨b0, rfl, hsD⟩
  replace hs := hs.trans hsD
  simp only [List.cons_append, List.nil_append] at hs
  refine Ls_run (run_move rfl) rfl ?_
  refine Ls_run (run_extract rfl rfl) rfl ?_
  refine Ls_run (run_extract rfl rfl) rfl ?_
  refine Ls_run (run_assign rfl) rfl ?_
  refine Ls_run (run_assign rfl) rfl ?_
  refine Ls_nil ?_
  refine Jm_seq ?_
  refine St_seq ?_
  refine St_region ?_
  refine Ls_run (run_move rfl) rfl ?_
  refine Ls_run (run_move rfl) rfl ?_
  obtain ⟨d0, hf0, hdg0, hbl0, hwr0⟩ := jformat_new (m := pp) hp1 hp4
  refine Ls_call Try.func32 nm32 rfl rfl (Format_g w w5 _ b0 (dnew 2) hs (fun x hx => dg_new.2.2.2.2 x hx) pp hp1 hp4) rfl ?_
  rintro v6 w7 ⟨pj, rfl, hs⟩
  simp only [hf0] at hs ⊢
  obtain ⟨bj, hpj, h9⟩ := hs.joSome
  subst hpj
  replace hs := h9
  have hjo0 := jnew_ok hp1 hp4
  refine Ls_run (run_move rfl) rfl ?_
  refine Ls_run (run_extract rfl rfl) rfl ?_
  refine Ls_run (run_extract rfl rfl) rfl ?_
  refine Ls_run (run_assign rfl) rfl ?_
  refine Ls_run (run_assign rfl) rfl ?_
  refine Ls_nil ?_
  refine Jm_seq ?_
  refine St_seq ?_
  refine St_seq ?_
  refine St_region ?_
  refine Ls_run (run_move rfl) rfl ?_
  refine Ls_run (run_asB (c := false) (run_neq rfl rfl) (by decide)) rfl ?_
  refine Ls_run (run_move rfl) rfl ?_
  refine Ls_on rfl rfl ?_
  refine Ls_run (run_move rfl) rfl ?_
  refine Ls_on rfl rfl ?_
  refine Ls_run (run_asB (c := false) (run_eql_ptr_nil Try.underlying59 rfl rfl) rfl) rfl ?_
  refine Ls_run (run_pick_f rfl rfl) rfl ?_
  refine Ls_nil ?_
  refine Jm_seq ?_
  refine St_iff rfl ?_
  refine St_skip ?_
  refine Jm_seq ?_
  refine St_seq ?_
  refine St_region ?_
  refine Ls_run (run_move rfl) rfl ?_
  refine Ls_call Try.func33 nm33 rfl rfl (Note_c w w7 _ bj _ (jnew pp) hs (by simp [jnew]; omega)) rfl ?_
  rintro v9 w10 ⟨Ap0, cp0, Ac0, cc0, rfl, hs⟩
  refine Ls_alloc hs inf66 rfl ?_
  intro b12 w11 hs
  refine Ls_storeAgg hs inf66 rfl rfl rfl rfl (by simp [Value.oneCell', Value.cells, jcells]) ?_
  intro w13 hs
  refine Ls_nil ?_
  refine Jm_seq ?_
  refine St_seq ?_
  refine St_seq ?_
  refine St_region ?_
  refine Ls_run (run_assign rfl) rfl ?_
  refine Ls_nil ?_
  refine Jm_seq ?_
  refine St_block ?_
  obtain ⟨En14, hEn14⟩ : ∃ F : Nat → Env, ∀ (i : Nat), F i = [(2, .slice A2 n2 c2), (7, .int .i64 (pp : Int)), (8, .int .i64 (pq : Int)), (9, .pointer (some ⟨b0, 0, none⟩)), (11, .pointer (some ⟨bj, 0, none⟩)), (13, .pointer (some ⟨b12, 0, none⟩)), (14, .int .i64 (i : Int))] := ⟨(fun (i : Nat) => [(2, .slice A2 n2 c2), (7, .int .i64 (pp : Int)), (8, .int .i64 (pq : Int)), (9, .pointer (some ⟨b0, 0, none⟩)), (11, .pointer (some ⟨bj, 0, none⟩)), (13, .pointer (some ⟨b12, 0, none⟩)), (14, .int .i64 (i : Int))]), fun _ => rfl⟩
  obtain ⟨Iv15, hIv15⟩ : ∃ F : Nat → World → Prop, ∀ (i : Nat) (wr : World), F i wr = (∃ nn Ap cp Ac cc sl d, Sat w wr [Blk b12 [.int .i64 nn.batch, .slice Ap nn.prev.length cp, .slice Ac nn.cur.length cc, .int .i64 nn.att] 66, Own 3 1 (.slice Ap nn.prev.length cp) nn.prev.length (KI.flat nn.prev), Own 3 1 (.slice Ac nn.cur.length cc) nn.cur.length (KI.flat nn.cur), JA 98 3 bj (some ⟨b0, 0, none⟩) ⟨(pp : Int), nn, ((i : Int) + 1), sl, false⟩, DiskA 85 31 5 b0 d] ∧ i ≤ n2 ∧ i ≤ 60 ∧ DG d ∧ JOk ⟨(pp : Int), nn, ((i : Int) + 1), sl, false⟩ ∧ DJ d ⟨(pp : Int), nn, ((i : Int) + 1), sl, false⟩ ∧ nn.att ≤ 3 * i ∧ nn.batch ≤ i) := ⟨(fun (i : Nat) => fun (wr : World) => ∃ nn Ap cp Ac cc sl d, Sat w wr [Blk b12 [.int .i64 nn.batch, .slice Ap nn.prev.length cp, .slice Ac nn.cur.length cc, .int .i64 nn.att] 66, Own 3 1 (.slice Ap nn.prev.length cp) nn.prev.length (KI.flat nn.prev), Own 3 1 (.slice Ac nn.cur.length cc) nn.cur.length (KI.flat nn.cur), JA 98 3 bj (some ⟨b0, 0, none⟩) ⟨(pp : Int), nn, ((i : Int) + 1), sl, false⟩, DiskA 85 31 5 b0 d] ∧ i ≤ n2 ∧ i ≤ 60 ∧ DG d ∧ JOk ⟨(pp : Int), nn, ((i : Int) + 1), sl, false⟩ ∧ DJ d ⟨(pp : Int), nn, ((i : Int) + 1), sl, false⟩ ∧ nn.att ≤ 3 * i ∧ nn.batch ≤ i), fun _ _ => rfl⟩
  obtain ⟨ms16, hms16⟩ : ∃ F : Nat → Nat, ∀ (i : Nat), F i = (n2 - i) := ⟨(fun (i : Nat) => n2 - i), fun _ => rfl⟩
  refine St_loop En14 Iv15 ms16 (0) ?_ ?_ ?_
  · skip
    rw [hIv15]
    exact ⟨_, _, _, _, _, _, _, hs, by omega, by omega, hdg0, hjo0, dj_new hbl0, by simp [jnew], by simp [jnew]⟩
  · rw [hEn14]; exact (subE_cons rfl (subE_cons rfl (subE_cons rfl (subE_cons rfl (subE_cons rfl (subE_cons rfl (subE_cons rfl subE_nil)))))))
  rintro i wr hI17
  rw [hIv15] at hI17
  obtain ⟨nn, Ap, cp, Ac, cc, sl, d, hs, hi, hi60, hdg, hjo, hdj, hat, hbt⟩ := hI17
  refine St_eqE (hEn14 _) ?_
  have hlj := noteOk_len hjo.1
  replace hlj : (nn.prev.length : Int) = (pp : Int) ∧ (nn.cur.length : Int) = (pp : Int) := hlj
  have hwb := hjo.1.1
  have hwa := hjo.1.2.1
  unfold within at hwb hwa
  replace hwb : 0 ≤ nn.batch ∧ nn.batch ≤ 1099511627776 := hwb
  refine St_seq ?_
  refine St_seq ?_
  refine St_region ?_
  refine Ls_run (run_move rfl) rfl ?_
  refine Ls_run (run_move rfl) rfl ?_
  refine Ls_run (run_len Try.underlying58 rfl) rfl ?_
  refine Ls_run (run_lss rfl rfl) rfl ?_
  refine Ls_run (run_move rfl) rfl ?_
  refine Ls_partP (t := 51) rfl (fun h18 => ?_) (fun h18 => ?_)
  · skip
    refine Ls_on rfl rfl ?_
    refine Ls_run (run_move rfl) rfl ?_
    refine Ls_on rfl rfl ?_
    refine Ls_run (run_lss rfl rfl) rfl ?_
    refine Ls_run (run_pick_t rfl rfl) rfl ?_
    refine Ls_nil ?_
    refine Jm_seq ?_
    refine St_ifP rfl (fun h19 => ?_) (fun h19 => ?_)
    · skip
      refine St_skip ?_
      refine Jm_seq ?_
      refine St_seq ?_
      refine St_block ?_
      refine St_seq ?_
      refine St_holdC 6 (Hold.of (Ls := [_]) hs) mixed ?_
      intro w20 q21
      replace hs := hs.quiet q21
      have hH := Hold.of (Ls := [_]) hs
      obtain ⟨⟨Ao, no, co, more, same, cut, bad⟩, ho⟩ : ∃ o, pl.getD i (none, 0, 0, 0, false, false, 0) = o := ⟨_, rfl⟩
      have hmem : (Ao, no, co, more, same, cut, bad) ∈ pl := by rw [← ho]; exact getElem_mem3 (by omega)
      obtain ⟨hno, ol, hro⟩ := hput _ hmem
      simp only at hno hro
      refine AnC_take 0 [6, 0] rfl (by kernel_rfl) (by kernel_rfl) (by kernel_rfl) (by kernel_rfl) (fun _ _ _ h => h) hH (fun x hx => run_load_agg agg66 inf66 rfl rfl (hx.choose_spec.blk_cells 0 rfl 0 4)) rfl ?_
      refine AnC_takeP 1 (by kernel_rfl) rfl (by kernel_rfl) (by kernel_rfl) (by kernel_rfl) (fun _ _ _ h => h) (fun _ => hH) (fun x => run_move rfl) rfl ?_
      refine AnC_takeP 2 (by kernel_rfl) rfl (by kernel_rfl) (by kernel_rfl) (by kernel_rfl) (fun _ _ _ h => h) (fun _ => hH) (fun x => run_move rfl) rfl ?_
      refine AnC_index 3 [6, 3] (KTurn) rfl (by kernel_rfl) (by kernel_rfl) (by kernel_rfl) (by kernel_rfl) (fun _ _ _ _ h => h) hH (fun x hx => (hr.inB hx.choose_spec)) Try.underlying58 inf70 rfl rfl (by omega) (by omega) ho rfl ?_
      intro b22 o23 hc24
      refine AnC_take 4 [6, 4] rfl (by kernel_rfl) (by kernel_rfl) (by kernel_rfl) (by kernel_rfl) (fun _ _ _ h => h) hH (fun x hx => run_as (run_load_agg agg70 inf70 rfl rfl (hc24 x hx)) (show _ = Value.agg #[.slice Ao no co, .int .i64 more, .bool same, .bool cut, .int .i64 bad] from rfl)) rfl ?_
      refine AnC_only 5 (by kernel_rfl) rfl ?_
      replace hs := hs.front 2 rfl
      simp only [List.cons_append, List.nil_append, List.eraseIdx_cons_zero, List.eraseIdx_cons_succ] at hs
      replace hs := hs.front 2 rfl
      simp only [List.cons_append, List.nil_append, List.eraseIdx_cons_zero, List.eraseIdx_cons_succ] at hs
      refine Ls_call Try.func34 nm34 rfl rfl (next_c w w20 _ nn Ap cp Ac cc hs (pp : Int) hjo.1 (by omega) (by omega) (by omega) Ao no co ol more same cut bad hro (by omega)) rfl ?_
      rintro v25 w26 ⟨n1, Aq, cq, Ar, cr, rfl, hnx, hs⟩
      have hl1 := noteOk_len hnx.1
      replace hs := hs.front 2 rfl
      simp only [List.cons_append, List.nil_append, List.eraseIdx_cons_zero, List.eraseIdx_cons_succ] at hs
      replace hH := Hold.of (Ls := [_]) hs
      refine Ls_nil (Jm_AnC (fun _ => hH) ?_)
      refine AnC_only 6 (by kernel_rfl) rfl ?_
      refine Ls_storeAgg hs inf66 rfl rfl rfl rfl (by simp [Value.oneCell', Value.cells, jcells]) ?_
      intro w27 hs
      refine Ls_nil (Jm_AnC_closed (by kernel_rfl) ?_)
      refine AnC_done (by kernel_rfl) ?_
      refine Jm_seq ?_
      refine St_seq ?_
      refine St_region ?_
      refine Ls_run (run_move rfl) rfl ?_
      refine Ls_run (run_load_agg agg66 inf66 rfl rfl (hs.blk_cells 0 rfl 0 4)) rfl ?_
      replace hs := hs.front 4 rfl
      simp only [List.cons_append, List.nil_append, List.eraseIdx_cons_zero, List.eraseIdx_cons_succ] at hs
      replace hs := hs.front 4 rfl
      simp only [List.cons_append, List.nil_append, List.eraseIdx_cons_zero, List.eraseIdx_cons_succ] at hs
      obtain ⟨d1, hv1, hdg1, hbl1, hwr1, hjo1⟩ := jsave_ok (n := n1) hjo rfl hdg hnx.1 hnx.2.1 (by show (i : Int) + 1 < _; omega)
      replace hv1 : jsave ⟨(pp : Int), nn, ((i : Int) + 1), sl, false⟩ d n1 = (0, ⟨(pp : Int), n1, ((i : Int) + 1 + 1), (1 - sl), false⟩, d1) := hv1
      replace hjo1 : JOk ⟨(pp : Int), n1, ((i : Int) + 1 + 1), (1 - sl), false⟩ := hjo1
      have hdj1 : DJ d1 ⟨(pp : Int), n1, ((i : Int) + 1 + 1), (1 - sl), false⟩ := dj_save hjo hdj hbl1 (by show (i : Int) + 1 < (i : Int) + 1 + 1; omega)
      refine Ls_call Try.func35 nm35 rfl rfl (Save_c w w27 _ bj b0 ⟨(pp : Int), nn, ((i : Int) + 1), sl, false⟩ d hs hjo hdg.2.2.2.2 n1 _ _ _ _ (fun w' X q => q.rd_at 2 rfl) (fun w' X q => q.rd_at 3 rfl) (by omega)) rfl ?_
      rintro v28 w29 ⟨rfl, hs⟩
      simp only [hv1] at hs ⊢
      refine Ls_run (run_asB (c := false) (run_neq rfl rfl) (by decide)) rfl ?_
      refine Ls_nil ?_
      refine Jm_seq ?_
      refine St_iff rfl ?_
      refine St_skip ?_
      refine Jm_block_normal (Jm_seq ?_)
      refine St_region ?_
      refine Ls_run (run_move rfl) rfl ?_
      refine Ls_run (run_add rfl rfl (w64 (by omega))) rfl ?_
      refine Ls_run (run_assign rfl) rfl ?_
      refine Ls_nil ?_
      replace hs := hs.front 1 rfl
      simp only [List.cons_append, List.nil_append, List.eraseIdx_cons_zero, List.eraseIdx_cons_succ] at hs
      replace hs := hs.front 1 rfl
      simp only [List.cons_append, List.nil_append, List.eraseIdx_cons_zero, List.eraseIdx_cons_succ] at hs
      replace hs := hs.front 4 rfl
      simp only [List.cons_append, List.nil_append, List.eraseIdx_cons_zero, List.eraseIdx_cons_succ] at hs
      replace hs := hs.front 4 rfl
      simp only [List.cons_append, List.nil_append, List.eraseIdx_cons_zero, List.eraseIdx_cons_succ] at hs
      replace hs := hs.front 4 rfl
      simp only [List.cons_append, List.nil_append, List.eraseIdx_cons_zero, List.eraseIdx_cons_succ] at hs
      refine Jm_round (i + 1) ?_ ?_ ?_
      · rw [hEn14]; exact (subE_cons rfl (subE_cons rfl (subE_cons rfl (subE_cons rfl (subE_cons rfl (subE_cons rfl (subE_cons rfl subE_nil)))))))
      · skip
        rw [hIv15]
        have hx1 := hnx.2.2.2.1; have hx2 := hnx.2.2.2.2
        exact ⟨n1, _, _, _, _, _, d1, hs, by omega, by omega, hdg1, hjo1, hdj1, by omega, by omega⟩
      · skip
        rw [hms16, hms16]
        omega
    · skip
      refine St_exit ?_
      refine Jm_then_exit (Jm_then_exit (Jm_block_same (Jm_seq ?_)))
      refine St_seq ?_
      obtain ⟨En31, hEn31⟩ : ∃ F : Nat × Nat × Nat → Env, ∀ (gp : Nat) (gc : Nat) (g15 : Nat), F (gp, gc, g15) = [(2, .slice A2 n2 c2), (7, .int .i64 (pp : Int)), (8, .int .i64 (pq : Int)), (9, .pointer (some ⟨b0, 0, none⟩)), (11, .pointer (some ⟨bj, 0, none⟩)), (13, .pointer (some ⟨b12, 0, none⟩)), (14, .int .i64 (i : Int)), (15, .pointer (some ⟨g15, 0, none⟩))] := ⟨(fun (s : Nat × Nat × Nat) => match s with | (gp, gc, g15) => [(2, .slice A2 n2 c2), (7, .int .i64 (pp : Int)), (8, .int .i64 (pq : Int)), (9, .pointer (some ⟨b0, 0, none⟩)), (11, .pointer (some ⟨bj, 0, none⟩)), (13, .pointer (some ⟨b12, 0, none⟩)), (14, .int .i64 (i : Int)), (15, .pointer (some ⟨g15, 0, none⟩))]), fun _ _ _ => rfl⟩
      obtain ⟨Iv32, hIv32⟩ : ∃ F : Nat × Nat × Nat → World → Prop, ∀ (gp : Nat) (gc : Nat) (g15 : Nat) (w33 : World), F (gp, gc, g15) w33 = (Sat w w33 (Blk g15 [.int .i64 (nn.batch + 1), .slice (some ⟨gp, 0, none⟩) pq pq, .slice (some ⟨gc, 0, none⟩) pq pq, .int .i64 nn.att] 66 :: Own 3 1 (.slice (some ⟨gp, 0, none⟩) pq pq) pq (List.replicate pq (.int .i64 0)) :: Own 3 1 (.slice (some ⟨gc, 0, none⟩) pq pq) pq (List.replicate pq (.int .i64 0)) :: [Blk b12 [.int .i64 nn.batch, .slice Ap nn.prev.length cp, .slice Ac nn.cur.length cc, .int .i64 nn.att] 66, Own 3 1 (.slice Ap nn.prev.length cp) nn.prev.length (KI.flat nn.prev), Own 3 1 (.slice Ac nn.cur.length cc) nn.cur.length (KI.flat nn.cur), JA 98 3 bj (some ⟨b0, 0, none⟩) ⟨(pp : Int), nn, ((i : Int) + 1), sl, false⟩, DiskA 85 31 5 b0 d])) := ⟨(fun (s : Nat × Nat × Nat) => match s with | (gp, gc, g15) => fun (w33 : World) => Sat w w33 (Blk g15 [.int .i64 (nn.batch + 1), .slice (some ⟨gp, 0, none⟩) pq pq, .slice (some ⟨gc, 0, none⟩) pq pq, .int .i64 nn.att] 66 :: Own 3 1 (.slice (some ⟨gp, 0, none⟩) pq pq) pq (List.replicate pq (.int .i64 0)) :: Own 3 1 (.slice (some ⟨gc, 0, none⟩) pq pq) pq (List.replicate pq (.int .i64 0)) :: [Blk b12 [.int .i64 nn.batch, .slice Ap nn.prev.length cp, .slice Ac nn.cur.length cc, .int .i64 nn.att] 66, Own 3 1 (.slice Ap nn.prev.length cp) nn.prev.length (KI.flat nn.prev), Own 3 1 (.slice Ac nn.cur.length cc) nn.cur.length (KI.flat nn.cur), JA 98 3 bj (some ⟨b0, 0, none⟩) ⟨(pp : Int), nn, ((i : Int) + 1), sl, false⟩, DiskA 85 31 5 b0 d])), fun _ _ _ _ => rfl⟩
      refine St_join En31 Iv32 ?_ ?_
      · skip
        refine St_hold (Hold.of (Ls := [_]) hs) mixed ?_
        intro w34 q35
        replace hs := hs.quiet q35
        have hH := Hold.of (Ls := [_]) hs
        refine An_take 0 rfl (by kernel_rfl) (by kernel_rfl) (by kernel_rfl) (fun _ _ _ h => h) hH (fun x hx => run_as (run_field Try.underlying66 rfl inf64 (by decide) rfl) (show _ = Value.pointer (some ⟨b12, 0, none⟩) from rfl)) rfl ?_
        refine An_take 1 rfl (by kernel_rfl) (by kernel_rfl) (by kernel_rfl) (fun _ _ _ h => h) hH (fun x hx => run_as (run_field Try.underlying64 rfl inf3 (by decide) rfl) (show _ = Value.pointer (some ⟨b12, 0, none⟩) from rfl)) rfl ?_
        refine An_take 2 rfl (by kernel_rfl) (by kernel_rfl) (by kernel_rfl) (fun _ _ _ h => h) hH (fun x hx => run_load sc3 rfl (hx.choose_spec.blk_at 0 rfl 0 rfl)) rfl ?_
        refine An_take 3 rfl (by kernel_rfl) (by kernel_rfl) (by kernel_rfl) (fun _ _ _ h => h) hH (fun x hx => run_add rfl rfl (w64 (by omega))) rfl ?_
        refine An_take 4 rfl (by kernel_rfl) (by kernel_rfl) (by kernel_rfl) (fun _ _ _ h => h) hH (fun x hx => run_move rfl) rfl ?_
        refine An_take 6 rfl (by kernel_rfl) (by kernel_rfl) (by kernel_rfl) (fun _ _ _ h => h) hH (fun x hx => run_move rfl) rfl ?_
        refine An_take 9 rfl (by kernel_rfl) (by kernel_rfl) (by kernel_rfl) (fun _ _ _ h => h) hH (fun x hx => run_as (run_field Try.underlying66 rfl inf3 (by decide) rfl) (show _ = Value.pointer (some ⟨b12, 3, none⟩) from rfl)) rfl ?_
        refine An_take 10 rfl (by kernel_rfl) (by kernel_rfl) (by kernel_rfl) (fun _ _ _ h => h) hH (fun x hx => run_load sc3 rfl (hx.choose_spec.blk_at 0 rfl 3 rfl)) rfl ?_
        refine An_three 5 7 12 (by kernel_rfl) rfl rfl rfl ?_ ?_ ?_
        · skip
          refine Ls_make (m := pq) hs Try.underlying62 infq3 rfl rfl rfl (by omega) (by omega) rfl ?_
          intro b36 w37 hs
          replace hs := hs.front 1 rfl
          simp only [List.cons_append, List.nil_append, List.eraseIdx_cons_zero, List.eraseIdx_cons_succ] at hs
          replace hH := Hold.of (Ls := [_]) hs
          refine Ls_nil (Jm_An hH ?_)
          refine An_two 7 12 (by kernel_rfl) rfl rfl ?_ ?_
          · skip
            refine Ls_make (m := pq) hs Try.underlying62 infq3 rfl rfl rfl (by omega) (by omega) rfl ?_
            intro b38 w39 hs
            replace hs := hs.front 1 rfl
            simp only [List.cons_append, List.nil_append, List.eraseIdx_cons_zero, List.eraseIdx_cons_succ] at hs
            replace hH := Hold.of (Ls := [_]) hs
            refine Ls_nil (Jm_An hH ?_)
            refine An_take 8 rfl (by kernel_rfl) (by kernel_rfl) (by kernel_rfl) (fun _ _ _ h => h) hH (fun x hx => run_buildO (pv := [(0, _), (1, _), (2, _)]) rfl (bld64_0_1_2 _ _ _ _ _ _ _)) rfl ?_
            refine An_take 11 rfl (by kernel_rfl) (by kernel_rfl) (by kernel_rfl) (fun _ _ _ h => h) hH (fun x hx => run_buildO (pv := [(0, _), (1, _)]) rfl (bld66_0_1 _ _ _ _ _ _ _ _)) rfl ?_
            refine An_only 12 (by kernel_rfl) rfl ?_
            refine Ls_alloc hs inf66 rfl ?_
            intro b41 w40 hs
            replace hs := hs.front 1 rfl
            simp only [List.cons_append, List.nil_append, List.eraseIdx_cons_zero, List.eraseIdx_cons_succ] at hs
            replace hH := Hold.of (Ls := [_]) hs
            refine Ls_nil (Jm_An hH ?_)
            refine An_only 13 (by kernel_rfl) rfl ?_
            replace hs := hs.front 1 rfl
            simp only [List.cons_append, List.nil_append, List.eraseIdx_cons_zero, List.eraseIdx_cons_succ] at hs
            refine Ls_storeAgg hs inf66 rfl rfl rfl rfl (by simp [Value.oneCell', Value.cells, jcells]) ?_
            intro w42 hs
            replace hs := hs.front 1 rfl
            simp only [List.cons_append, List.nil_append, List.eraseIdx_cons_zero, List.eraseIdx_cons_succ] at hs
            replace hH := Hold.of (Ls := [_]) hs
            refine Ls_nil (Jm_An hH ?_)
            refine An_done (by kernel_rfl) ?_
            replace hs := hs.front 7 rfl
            simp only [List.cons_append, List.nil_append, List.eraseIdx_cons_zero, List.eraseIdx_cons_succ] at hs
            replace hs := hs.front 7 rfl
            simp only [List.cons_append, List.nil_append, List.eraseIdx_cons_zero, List.eraseIdx_cons_succ] at hs
            replace hs := hs.front 7 rfl
            simp only [List.cons_append, List.nil_append, List.eraseIdx_cons_zero, List.eraseIdx_cons_succ] at hs
            replace hs := hs.front 7 rfl
            simp only [List.cons_append, List.nil_append, List.eraseIdx_cons_zero, List.eraseIdx_cons_succ] at hs
            replace hs := hs.front 4 rfl
            simp only [List.cons_append, List.nil_append, List.eraseIdx_cons_zero, List.eraseIdx_cons_succ] at hs
            replace hs := hs.front 6 rfl
            simp only [List.cons_append, List.nil_append, List.eraseIdx_cons_zero, List.eraseIdx_cons_succ] at hs
            replace hs := hs.front 7 rfl
            simp only [List.cons_append, List.nil_append, List.eraseIdx_cons_zero, List.eraseIdx_cons_succ] at hs
            replace hs := hs.front 7 rfl
            simp only [List.cons_append, List.nil_append, List.eraseIdx_cons_zero, List.eraseIdx_cons_succ] at hs
            refine Jm_join (b36, b38, b41) ?_ ?_
            · rw [hEn31]; exact (subE_cons rfl (subE_cons rfl (subE_cons rfl (subE_cons rfl (subE_cons rfl (subE_cons rfl (subE_cons rfl (subE_cons rfl subE_nil))))))))
            · skip
              rw [hIv32]
              exact hs
          · skip
            refine Ls_alloc hs inf66 rfl ?_
            intro b44 w43 hs
            replace hs := hs.front 1 rfl
            simp only [List.cons_append, List.nil_append, List.eraseIdx_cons_zero, List.eraseIdx_cons_succ] at hs
            replace hH := Hold.of (Ls := [_]) hs
            refine Ls_nil (Jm_An hH ?_)
            refine An_only 7 (by kernel_rfl) rfl ?_
            refine Ls_make (m := pq) hs Try.underlying62 infq3 rfl rfl rfl (by omega) (by omega) rfl ?_
            intro b45 w46 hs
            replace hs := hs.front 1 rfl
            simp only [List.cons_append, List.nil_append, List.eraseIdx_cons_zero, List.eraseIdx_cons_succ] at hs
            replace hH := Hold.of (Ls := [_]) hs
            refine Ls_nil (Jm_An hH ?_)
            refine An_take 8 rfl (by kernel_rfl) (by kernel_rfl) (by kernel_rfl) (fun _ _ _ h => h) hH (fun x hx => run_buildO (pv := [(0, _), (1, _), (2, _)]) rfl (bld64_0_1_2 _ _ _ _ _ _ _)) rfl ?_
            refine An_take 11 rfl (by kernel_rfl) (by kernel_rfl) (by kernel_rfl) (fun _ _ _ h => h) hH (fun x hx => run_buildO (pv := [(0, _), (1, _)]) rfl (bld66_0_1 _ _ _ _ _ _ _ _)) rfl ?_
            refine An_only 13 (by kernel_rfl) rfl ?_
            replace hs := hs.front 2 rfl
            simp only [List.cons_append, List.nil_append, List.eraseIdx_cons_zero, List.eraseIdx_cons_succ] at hs
            refine Ls_storeAgg hs inf66 rfl rfl rfl rfl (by simp [Value.oneCell', Value.cells, jcells]) ?_
            intro w47 hs
            replace hs := hs.front 1 rfl
            simp only [List.cons_append, List.nil_append, List.eraseIdx_cons_zero, List.eraseIdx_cons_succ] at hs
            replace hH := Hold.of (Ls := [_]) hs
            refine Ls_nil (Jm_An hH ?_)
            refine An_done (by kernel_rfl) ?_
            replace hs := hs.front 7 rfl
            simp only [List.cons_append, List.nil_append, List.eraseIdx_cons_zero, List.eraseIdx_cons_succ] at hs
            replace hs := hs.front 7 rfl
            simp only [List.cons_append, List.nil_append, List.eraseIdx_cons_zero, List.eraseIdx_cons_succ] at hs
            replace hs := hs.front 7 rfl
            simp only [List.cons_append, List.nil_append, List.eraseIdx_cons_zero, List.eraseIdx_cons_succ] at hs
            replace hs := hs.front 7 rfl
            simp only [List.cons_append, List.nil_append, List.eraseIdx_cons_zero, List.eraseIdx_cons_succ] at hs
            replace hs := hs.front 4 rfl
            simp only [List.cons_append, List.nil_append, List.eraseIdx_cons_zero, List.eraseIdx_cons_succ] at hs
            replace hs := hs.front 6 rfl
            simp only [List.cons_append, List.nil_append, List.eraseIdx_cons_zero, List.eraseIdx_cons_succ] at hs
            replace hs := hs.front 7 rfl
            simp only [List.cons_append, List.nil_append, List.eraseIdx_cons_zero, List.eraseIdx_cons_succ] at hs
            replace hs := hs.front 7 rfl
            simp only [List.cons_append, List.nil_append, List.eraseIdx_cons_zero, List.eraseIdx_cons_succ] at hs
            refine Jm_join (b36, b45, b44) ?_ ?_
            · rw [hEn31]; exact (subE_cons rfl (subE_cons rfl (subE_cons rfl (subE_cons rfl (subE_cons rfl (subE_cons rfl (subE_cons rfl (subE_cons rfl subE_nil))))))))
            · skip
              rw [hIv32]
              exact hs
        · skip
          refine Ls_make (m := pq) hs Try.underlying62 infq3 rfl rfl rfl (by omega) (by omega) rfl ?_
          intro b48 w49 hs
          replace hs := hs.front 1 rfl
          simp only [List.cons_append, List.nil_append, List.eraseIdx_cons_zero, List.eraseIdx_cons_succ] at hs
          replace hH := Hold.of (Ls := [_]) hs
          refine Ls_nil (Jm_An hH ?_)
          refine An_two 5 12 (by kernel_rfl) rfl rfl ?_ ?_
          · skip
            refine Ls_make (m := pq) hs Try.underlying62 infq3 rfl rfl rfl (by omega) (by omega) rfl ?_
            intro b50 w51 hs
            replace hs := hs.front 1 rfl
            simp only [List.cons_append, List.nil_append, List.eraseIdx_cons_zero, List.eraseIdx_cons_succ] at hs
            replace hH := Hold.of (Ls := [_]) hs
            refine Ls_nil (Jm_An hH ?_)
            refine An_take 8 rfl (by kernel_rfl) (by kernel_rfl) (by kernel_rfl) (fun _ _ _ h => h) hH (fun x hx => run_buildO (pv := [(0, _), (1, _), (2, _)]) rfl (bld64_0_1_2 _ _ _ _ _ _ _)) rfl ?_
            refine An_take 11 rfl (by kernel_rfl) (by kernel_rfl) (by kernel_rfl) (fun _ _ _ h => h) hH (fun x hx => run_buildO (pv := [(0, _), (1, _)]) rfl (bld66_0_1 _ _ _ _ _ _ _ _)) rfl ?_
            refine An_only 12 (by kernel_rfl) rfl ?_
            refine Ls_alloc hs inf66 rfl ?_
            intro b53 w52 hs
            replace hs := hs.front 1 rfl
            simp only [List.cons_append, List.nil_append, List.eraseIdx_cons_zero, List.eraseIdx_cons_succ] at hs
            replace hH := Hold.of (Ls := [_]) hs
            refine Ls_nil (Jm_An hH ?_)
            refine An_only 13 (by kernel_rfl) rfl ?_
            replace hs := hs.front 1 rfl
            simp only [List.cons_append, List.nil_append, List.eraseIdx_cons_zero, List.eraseIdx_cons_succ] at hs
            refine Ls_storeAgg hs inf66 rfl rfl rfl rfl (by simp [Value.oneCell', Value.cells, jcells]) ?_
            intro w54 hs
            replace hs := hs.front 1 rfl
            simp only [List.cons_append, List.nil_append, List.eraseIdx_cons_zero, List.eraseIdx_cons_succ] at hs
            replace hH := Hold.of (Ls := [_]) hs
            refine Ls_nil (Jm_An hH ?_)
            refine An_done (by kernel_rfl) ?_
            replace hs := hs.front 7 rfl
            simp only [List.cons_append, List.nil_append, List.eraseIdx_cons_zero, List.eraseIdx_cons_succ] at hs
            replace hs := hs.front 7 rfl
            simp only [List.cons_append, List.nil_append, List.eraseIdx_cons_zero, List.eraseIdx_cons_succ] at hs
            replace hs := hs.front 7 rfl
            simp only [List.cons_append, List.nil_append, List.eraseIdx_cons_zero, List.eraseIdx_cons_succ] at hs
            replace hs := hs.front 7 rfl
            simp only [List.cons_append, List.nil_append, List.eraseIdx_cons_zero, List.eraseIdx_cons_succ] at hs
            replace hs := hs.front 4 rfl
            simp only [List.cons_append, List.nil_append, List.eraseIdx_cons_zero, List.eraseIdx_cons_succ] at hs
            replace hs := hs.front 7 rfl
            simp only [List.cons_append, List.nil_append, List.eraseIdx_cons_zero, List.eraseIdx_cons_succ] at hs
            replace hs := hs.front 7 rfl
            simp only [List.cons_append, List.nil_append, List.eraseIdx_cons_zero, List.eraseIdx_cons_succ] at hs
            replace hs := hs.front 7 rfl
            simp only [List.cons_append, List.nil_append, List.eraseIdx_cons_zero, List.eraseIdx_cons_succ] at hs
            refine Jm_join (b50, b48, b53) ?_ ?_
            · rw [hEn31]; exact (subE_cons rfl (subE_cons rfl (subE_cons rfl (subE_cons rfl (subE_cons rfl (subE_cons rfl (subE_cons rfl (subE_cons rfl subE_nil))))))))
            · skip
              rw [hIv32]
              exact hs
          · skip
            refine Ls_alloc hs inf66 rfl ?_
            intro b56 w55 hs
            replace hs := hs.front 1 rfl
            simp only [List.cons_append, List.nil_append, List.eraseIdx_cons_zero, List.eraseIdx_cons_succ] at hs
            replace hH := Hold.of (Ls := [_]) hs
            refine Ls_nil (Jm_An hH ?_)
            refine An_only 5 (by kernel_rfl) rfl ?_
            refine Ls_make (m := pq) hs Try.underlying62 infq3 rfl rfl rfl (by omega) (by omega) rfl ?_
            intro b57 w58 hs
            replace hs := hs.front 1 rfl
            simp only [List.cons_append, List.nil_append, List.eraseIdx_cons_zero, List.eraseIdx_cons_succ] at hs
            replace hH := Hold.of (Ls := [_]) hs
            refine Ls_nil (Jm_An hH ?_)
            refine An_take 8 rfl (by kernel_rfl) (by kernel_rfl) (by kernel_rfl) (fun _ _ _ h => h) hH (fun x hx => run_buildO (pv := [(0, _), (1, _), (2, _)]) rfl (bld64_0_1_2 _ _ _ _ _ _ _)) rfl ?_
            refine An_take 11 rfl (by kernel_rfl) (by kernel_rfl) (by kernel_rfl) (fun _ _ _ h => h) hH (fun x hx => run_buildO (pv := [(0, _), (1, _)]) rfl (bld66_0_1 _ _ _ _ _ _ _ _)) rfl ?_
            refine An_only 13 (by kernel_rfl) rfl ?_
            replace hs := hs.front 2 rfl
            simp only [List.cons_append, List.nil_append, List.eraseIdx_cons_zero, List.eraseIdx_cons_succ] at hs
            refine Ls_storeAgg hs inf66 rfl rfl rfl rfl (by simp [Value.oneCell', Value.cells, jcells]) ?_
            intro w59 hs
            replace hs := hs.front 1 rfl
            simp only [List.cons_append, List.nil_append, List.eraseIdx_cons_zero, List.eraseIdx_cons_succ] at hs
            replace hH := Hold.of (Ls := [_]) hs
            refine Ls_nil (Jm_An hH ?_)
            refine An_done (by kernel_rfl) ?_
            replace hs := hs.front 7 rfl
            simp only [List.cons_append, List.nil_append, List.eraseIdx_cons_zero, List.eraseIdx_cons_succ] at hs
            replace hs := hs.front 7 rfl
            simp only [List.cons_append, List.nil_append, List.eraseIdx_cons_zero, List.eraseIdx_cons_succ] at hs
            replace hs := hs.front 7 rfl
            simp only [List.cons_append, List.nil_append, List.eraseIdx_cons_zero, List.eraseIdx_cons_succ] at hs
            replace hs := hs.front 7 rfl
            simp only [List.cons_append, List.nil_append, List.eraseIdx_cons_zero, List.eraseIdx_cons_succ] at hs
            replace hs := hs.front 4 rfl
            simp only [List.cons_append, List.nil_append, List.eraseIdx_cons_zero, List.eraseIdx_cons_succ] at hs
            replace hs := hs.front 7 rfl
            simp only [List.cons_append, List.nil_append, List.eraseIdx_cons_zero, List.eraseIdx_cons_succ] at hs
            replace hs := hs.front 7 rfl
            simp only [List.cons_append, List.nil_append, List.eraseIdx_cons_zero, List.eraseIdx_cons_succ] at hs
            replace hs := hs.front 7 rfl
            simp only [List.cons_append, List.nil_append, List.eraseIdx_cons_zero, List.eraseIdx_cons_succ] at hs
            refine Jm_join (b57, b48, b56) ?_ ?_
            · rw [hEn31]; exact (subE_cons rfl (subE_cons rfl (subE_cons rfl (subE_cons rfl (subE_cons rfl (subE_cons rfl (subE_cons rfl (subE_cons rfl subE_nil))))))))
            · skip
              rw [hIv32]
              exact hs
        · skip
          refine Ls_alloc hs inf66 rfl ?_
          intro b61 w60 hs
          replace hs := hs.front 1 rfl
          simp only [List.cons_append, List.nil_append, List.eraseIdx_cons_zero, List.eraseIdx_cons_succ] at hs
          replace hH := Hold.of (Ls := [_]) hs
          refine Ls_nil (Jm_An hH ?_)
          refine An_two 5 7 (by kernel_rfl) rfl rfl ?_ ?_
          · skip
            refine Ls_make (m := pq) hs Try.underlying62 infq3 rfl rfl rfl (by omega) (by omega) rfl ?_
            intro b62 w63 hs
            replace hs := hs.front 1 rfl
            simp only [List.cons_append, List.nil_append, List.eraseIdx_cons_zero, List.eraseIdx_cons_succ] at hs
            replace hH := Hold.of (Ls := [_]) hs
            refine Ls_nil (Jm_An hH ?_)
            refine An_only 7 (by kernel_rfl) rfl ?_
            refine Ls_make (m := pq) hs Try.underlying62 infq3 rfl rfl rfl (by omega) (by omega) rfl ?_
            intro b64 w65 hs
            replace hs := hs.front 1 rfl
            simp only [List.cons_append, List.nil_append, List.eraseIdx_cons_zero, List.eraseIdx_cons_succ] at hs
            replace hH := Hold.of (Ls := [_]) hs
            refine Ls_nil (Jm_An hH ?_)
            refine An_take 8 rfl (by kernel_rfl) (by kernel_rfl) (by kernel_rfl) (fun _ _ _ h => h) hH (fun x hx => run_buildO (pv := [(0, _), (1, _), (2, _)]) rfl (bld64_0_1_2 _ _ _ _ _ _ _)) rfl ?_
            refine An_take 11 rfl (by kernel_rfl) (by kernel_rfl) (by kernel_rfl) (fun _ _ _ h => h) hH (fun x hx => run_buildO (pv := [(0, _), (1, _)]) rfl (bld66_0_1 _ _ _ _ _ _ _ _)) rfl ?_
            refine An_only 13 (by kernel_rfl) rfl ?_
            replace hs := hs.front 3 rfl
            simp only [List.cons_append, List.nil_append, List.eraseIdx_cons_zero, List.eraseIdx_cons_succ] at hs
            refine Ls_storeAgg hs inf66 rfl rfl rfl rfl (by simp [Value.oneCell', Value.cells, jcells]) ?_
            intro w66 hs
            replace hs := hs.front 1 rfl
            simp only [List.cons_append, List.nil_append, List.eraseIdx_cons_zero, List.eraseIdx_cons_succ] at hs
            replace hH := Hold.of (Ls := [_]) hs
            refine Ls_nil (Jm_An hH ?_)
            refine An_done (by kernel_rfl) ?_
            replace hs := hs.front 7 rfl
            simp only [List.cons_append, List.nil_append, List.eraseIdx_cons_zero, List.eraseIdx_cons_succ] at hs
            replace hs := hs.front 7 rfl
            simp only [List.cons_append, List.nil_append, List.eraseIdx_cons_zero, List.eraseIdx_cons_succ] at hs
            replace hs := hs.front 7 rfl
            simp only [List.cons_append, List.nil_append, List.eraseIdx_cons_zero, List.eraseIdx_cons_succ] at hs
            replace hs := hs.front 7 rfl
            simp only [List.cons_append, List.nil_append, List.eraseIdx_cons_zero, List.eraseIdx_cons_succ] at hs
            replace hs := hs.front 4 rfl
            simp only [List.cons_append, List.nil_append, List.eraseIdx_cons_zero, List.eraseIdx_cons_succ] at hs
            replace hs := hs.front 6 rfl
            simp only [List.cons_append, List.nil_append, List.eraseIdx_cons_zero, List.eraseIdx_cons_succ] at hs
            replace hs := hs.front 7 rfl
            simp only [List.cons_append, List.nil_append, List.eraseIdx_cons_zero, List.eraseIdx_cons_succ] at hs
            replace hs := hs.front 7 rfl
            simp only [List.cons_append, List.nil_append, List.eraseIdx_cons_zero, List.eraseIdx_cons_succ] at hs
            refine Jm_join (b62, b64, b61) ?_ ?_
            · rw [hEn31]; exact (subE_cons rfl (subE_cons rfl (subE_cons rfl (subE_cons rfl (subE_cons rfl (subE_cons rfl (subE_cons rfl (subE_cons rfl subE_nil))))))))
            · skip
              rw [hIv32]
              exact hs
          · skip
            refine Ls_make (m := pq) hs Try.underlying62 infq3 rfl rfl rfl (by omega) (by omega) rfl ?_
            intro b67 w68 hs
            replace hs := hs.front 1 rfl
            simp only [List.cons_append, List.nil_append, List.eraseIdx_cons_zero, List.eraseIdx_cons_succ] at hs
            replace hH := Hold.of (Ls := [_]) hs
            refine Ls_nil (Jm_An hH ?_)
            refine An_only 5 (by kernel_rfl) rfl ?_
            refine Ls_make (m := pq) hs Try.underlying62 infq3 rfl rfl rfl (by omega) (by omega) rfl ?_
            intro b69 w70 hs
            replace hs := hs.front 1 rfl
            simp only [List.cons_append, List.nil_append, List.eraseIdx_cons_zero, List.eraseIdx_cons_succ] at hs
            replace hH := Hold.of (Ls := [_]) hs
            refine Ls_nil (Jm_An hH ?_)
            refine An_take 8 rfl (by kernel_rfl) (by kernel_rfl) (by kernel_rfl) (fun _ _ _ h => h) hH (fun x hx => run_buildO (pv := [(0, _), (1, _), (2, _)]) rfl (bld64_0_1_2 _ _ _ _ _ _ _)) rfl ?_
            refine An_take 11 rfl (by kernel_rfl) (by kernel_rfl) (by kernel_rfl) (fun _ _ _ h => h) hH (fun x hx => run_buildO (pv := [(0, _), (1, _)]) rfl (bld66_0_1 _ _ _ _ _ _ _ _)) rfl ?_
            refine An_only 13 (by kernel_rfl) rfl ?_
            replace hs := hs.front 3 rfl
            simp only [List.cons_append, List.nil_append, List.eraseIdx_cons_zero, List.eraseIdx_cons_succ] at hs
            refine Ls_storeAgg hs inf66 rfl rfl rfl rfl (by simp [Value.oneCell', Value.cells, jcells]) ?_
            intro w71 hs
            replace hs := hs.front 1 rfl
            simp only [List.cons_append, List.nil_append, List.eraseIdx_cons_zero, List.eraseIdx_cons_succ] at hs
            replace hH := Hold.of (Ls := [_]) hs
            refine Ls_nil (Jm_An hH ?_)
            refine An_done (by kernel_rfl) ?_
            replace hs := hs.front 7 rfl
            simp only [List.cons_append, List.nil_append, List.eraseIdx_cons_zero, List.eraseIdx_cons_succ] at hs
            replace hs := hs.front 7 rfl
            simp only [List.cons_append, List.nil_append, List.eraseIdx_cons_zero, List.eraseIdx_cons_succ] at hs
            replace hs := hs.front 7 rfl
            simp only [List.cons_append, List.nil_append, List.eraseIdx_cons_zero, List.eraseIdx_cons_succ] at hs
            replace hs := hs.front 7 rfl
            simp only [List.cons_append, List.nil_append, List.eraseIdx_cons_zero, List.eraseIdx_cons_succ] at hs
            replace hs := hs.front 4 rfl
            simp only [List.cons_append, List.nil_append, List.eraseIdx_cons_zero, List.eraseIdx_cons_succ] at hs
            replace hs := hs.front 7 rfl
            simp only [List.cons_append, List.nil_append, List.eraseIdx_cons_zero, List.eraseIdx_cons_succ] at hs
            replace hs := hs.front 7 rfl
            simp only [List.cons_append, List.nil_append, List.eraseIdx_cons_zero, List.eraseIdx_cons_succ] at hs
            replace hs := hs.front 7 rfl
            simp only [List.cons_append, List.nil_append, List.eraseIdx_cons_zero, List.eraseIdx_cons_succ] at hs
            refine Jm_join (b69, b67, b61) ?_ ?_
            · rw [hEn31]; exact (subE_cons rfl (subE_cons rfl (subE_cons rfl (subE_cons rfl (subE_cons rfl (subE_cons rfl (subE_cons rfl (subE_cons rfl subE_nil))))))))
            · skip
              rw [hIv32]
              exact hs
      · skip
        rintro ⟨gp, gc, g15⟩ w33 hI72
        rw [hIv32] at hI72
        replace hs := hI72
        refine Jm_eqE (hEn31 _ _ _) ?_
        refine Jm_seq ?_
        refine St_seq ?_
        refine St_region ?_
        refine Ls_run (run_move rfl) rfl ?_
        refine Ls_run (run_move rfl) rfl ?_
        replace hs := hs.front 7 rfl
        simp only [List.cons_append, List.nil_append, List.eraseIdx_cons_zero, List.eraseIdx_cons_succ] at hs
        refine Ls_call Try.func37 nm37 rfl rfl (Open_g w w33 _ b0 d hs hdg.2.2.2.2 (by have := hdg.2.2.1; omega) pq hq1 hq4) rfl ?_
        rintro v73 w74 ⟨pk, rfl, hs⟩
        refine Ls_run (run_move rfl) rfl ?_
        refine Ls_run (run_extract rfl rfl) rfl ?_
        refine Ls_run (run_extract rfl rfl) rfl ?_
        refine Ls_run (run_assign rfl) rfl ?_
        refine Ls_run (run_assign rfl) rfl ?_
        refine Ls_nil ?_
        refine Jm_seq ?_
        refine St_seq ?_
        refine St_seq ?_
        refine St_region ?_
        refine Ls_run (run_move rfl) rfl ?_
        refine Ls_run (run_move rfl) rfl ?_
        refine Ls_run (run_eql rfl rfl) rfl ?_
        refine Ls_nil ?_
        refine Jm_seq ?_
        refine St_ifP rfl (fun h75 => ?_) (fun h75 => ?_)
        · skip
          have hpq : pq = pp := by omega
          have hoe : jopen d (pq : Int) = (0, some ⟨(pp : Int), nn, ((i : Int) + 1), sl, false⟩, dread_k d 2) := by rw [hpq]; exact jopen_same hjo hdj hdg.1 rfl
          rw [hoe] at hs ⊢
          obtain ⟨bk, hpk, h9⟩ := hs.joSome
          subst hpk
          replace hs := h9
          refine St_seq ?_
          replace hs := hs.front 5 rfl
          simp only [List.cons_append, List.nil_append, List.eraseIdx_cons_zero, List.eraseIdx_cons_succ] at hs
          refine St_hold (Hold.of (Ls := [_]) hs) mixed ?_
          intro w76 q77
          replace hs := hs.quiet q77
          have hH := Hold.of (Ls := [_]) hs
          refine An_take 0 rfl (by kernel_rfl) (by kernel_rfl) (by kernel_rfl) (fun _ _ _ h => h) hH (fun x hx => run_move rfl) rfl ?_
          refine An_take 1 rfl (by kernel_rfl) (by kernel_rfl) (by kernel_rfl) (fun _ _ _ h => h) hH (fun x hx => run_asB (c := true) (run_eql rfl rfl) rfl) rfl ?_
          refine An_take 2 rfl (by kernel_rfl) (by kernel_rfl) (by kernel_rfl) (fun _ _ _ h => h) hH (fun x hx => run_move rfl) rfl ?_
          refine An_take_on 3 rfl (by kernel_rfl) (by kernel_rfl) (by kernel_rfl) rfl rfl (fun _ _ _ h => h) hH (fun x hx => run_move rfl) rfl ?_
          refine An_take_on 5 rfl (by kernel_rfl) (by kernel_rfl) (by kernel_rfl) rfl rfl (fun _ _ _ h => h) hH (fun x hx => run_load_agg agg66 inf66 rfl rfl (hx.choose_spec.blk_cells 0 rfl 0 4)) rfl ?_
          refine An_only 4 (by kernel_rfl) rfl ?_
          refine Ls_on rfl rfl ?_
          replace hs := hs.front 1 rfl
          simp only [List.cons_append, List.nil_append, List.eraseIdx_cons_zero, List.eraseIdx_cons_succ] at hs
          refine Ls_call Try.func33 nm33 rfl rfl (Note_c w w76 _ bk _ ⟨(pp : Int), nn, ((i : Int) + 1), sl, false⟩ hs (by show nn.prev.length ≤ _ ∧ nn.cur.length ≤ _; omega)) rfl ?_
          rintro v78 w79 ⟨Xp, xp, Xc, xc, rfl, hs⟩
          replace hs := hs.front 3 rfl
          simp only [List.cons_append, List.nil_append, List.eraseIdx_cons_zero, List.eraseIdx_cons_succ] at hs
          replace hH := Hold.of (Ls := [_]) hs
          refine Ls_nil (Jm_An hH ?_)
          refine An_only 6 (by kernel_rfl) rfl ?_
          refine Ls_on rfl rfl ?_
          try simp only [List.nil_append, List.cons_append] at hs
          refine Ls_call Try.func36 nm36 rfl rfl (notes_c w79 nn _ _ _ _ _ _ _ _ (hs.rd_at 1 rfl) (hs.rd_at 2 rfl) (hs.rd_at 8 rfl) (hs.rd_at 9 rfl) (by omega)) rfl ?_
          rintro v80 w81 ⟨rfl, hsI⟩
          replace hs := hs.trans hsI
          simp only [List.nil_append, List.cons_append] at hs
          replace hH := Hold.of (Ls := [_]) hs
          refine Ls_nil (Jm_An hH ?_)
          refine An_take 7 rfl (by kernel_rfl) (by kernel_rfl) (by kernel_rfl) (fun _ _ _ h => h) hH (fun x hx => run_pick_t rfl rfl) rfl ?_
          refine An_take 8 rfl (by kernel_rfl) (by kernel_rfl) (by kernel_rfl) (fun _ _ _ h => h) hH (fun x hx => run_assign rfl) rfl ?_
          refine An_done (by kernel_rfl) ?_
          refine Jm_seq ?_
          refine St_ret ?_
          refine Jm_then_ret  ?_
          refine Jm_ret1 rfl rfl ?_
          exact ⟨_, rfl, rfl, hs.below⟩
        · skip
          have hoe : jopen d (pq : Int) = (180, none, dread_k d 2) := jopen_other hjo hdj hdg.1 (by show (pq : Int) ≠ (pp : Int); omega) (by omega) (by omega)
          rw [hoe] at hs ⊢
          obtain ⟨hpk, h9⟩ := hs.joNone
          subst hpk
          replace hs := h9
          rw [← flatKI_rep pq] at hs
          refine St_skip ?_
          refine Jm_seq ?_
          refine St_seq ?_
          replace hs := hs.front 1 rfl
          simp only [List.cons_append, List.nil_append, List.eraseIdx_cons_zero, List.eraseIdx_cons_succ] at hs
          replace hs := hs.front 4 rfl
          simp only [List.cons_append, List.nil_append, List.eraseIdx_cons_zero, List.eraseIdx_cons_succ] at hs
          refine St_hold (Hold.of (Ls := [_, _]) hs) mixed ?_
          intro w82 q83
          replace hs := hs.quiet q83
          have hH := Hold.of (Ls := [_, _]) hs
          refine An_take 0 rfl (by kernel_rfl) (by kernel_rfl) (by kernel_rfl) (fun _ _ _ h => h) hH (fun x hx => run_move rfl) rfl ?_
          refine An_take 1 rfl (by kernel_rfl) (by kernel_rfl) (by kernel_rfl) (fun _ _ _ h => h) hH (fun x hx => run_asB (c := true) (run_eql rfl rfl) rfl) rfl ?_
          refine An_take 2 rfl (by kernel_rfl) (by kernel_rfl) (by kernel_rfl) (fun _ _ _ h => h) hH (fun x hx => run_move rfl) rfl ?_
          refine An_take_on 3 rfl (by kernel_rfl) (by kernel_rfl) (by kernel_rfl) rfl rfl (fun _ _ _ h => h) hH (fun x hx => run_move rfl) rfl ?_
          refine An_take_on 4 rfl (by kernel_rfl) (by kernel_rfl) (by kernel_rfl) rfl rfl (fun _ _ _ h => h) hH (fun x hx => run_asB (c := true) (run_eql_ptr_nil Try.underlying59 rfl rfl) rfl) rfl ?_
          refine An_take 5 rfl (by kernel_rfl) (by kernel_rfl) (by kernel_rfl) (fun _ _ _ h => h) hH (fun x hx => run_pick_t rfl rfl) rfl ?_
          refine An_take 6 rfl (by kernel_rfl) (by kernel_rfl) (by kernel_rfl) (fun _ _ _ h => h) hH (fun x hx => run_move rfl) rfl ?_
          refine An_take_on 7 rfl (by kernel_rfl) (by kernel_rfl) (by kernel_rfl) rfl rfl (fun _ _ _ h => h) hH (fun x hx => run_move rfl) rfl ?_
          refine An_take_on 8 rfl (by kernel_rfl) (by kernel_rfl) (by kernel_rfl) rfl rfl (fun _ _ _ h => h) hH (fun x hx => run_load_agg agg66 inf66 rfl rfl (hx.choose_spec.blk_cells 1 rfl 0 4)) rfl ?_
          refine An_only 9 (by kernel_rfl) rfl ?_
          refine Ls_on rfl rfl ?_
          replace hs := hs.front 2 rfl
          simp only [List.cons_append, List.nil_append, List.eraseIdx_cons_zero, List.eraseIdx_cons_succ] at hs
          replace hs := hs.front 7 rfl
          simp only [List.cons_append, List.nil_append, List.eraseIdx_cons_zero, List.eraseIdx_cons_succ] at hs
          have hv2 := jsave_arg (j := ⟨(pp : Int), nn, ((i : Int) + 1), sl, false⟩) (d := dread_k d 2) (n := ⟨nn.batch + 1, List.replicate pq 0, List.replicate pq 0, nn.att⟩) rfl (dg_reads hdg).1 (fun q => by have q1 := q.2.2.1; simp only [List.length_replicate] at q1; omega)
          have hlr : (List.replicate pq (0 : Int)).length = pq := List.length_replicate
          refine Ls_call Try.func35 nm35 rfl rfl (Save_e w w82 _ bj b0 ⟨(pp : Int), nn, ((i : Int) + 1), sl, false⟩ (dread_k d 2) hs hjo (dg_reads hdg).2.2.2.2 ⟨nn.batch + 1, List.replicate pq 0, List.replicate pq 0, nn.att⟩ _ _ _ _ pq pq hlr hlr (nn.batch + 1) nn.att rfl rfl (fun w' X q => q.rd_at 3 rfl) (fun w' X q => q.rd_at 4 rfl) (by omega)) rfl ?_
          rintro v84 w85 ⟨rfl, hs⟩
          simp only [hv2] at hs ⊢
          replace hs := hs.front 3 rfl
          simp only [List.cons_append, List.nil_append, List.eraseIdx_cons_zero, List.eraseIdx_cons_succ] at hs
          replace hs := hs.front 3 rfl
          simp only [List.cons_append, List.nil_append, List.eraseIdx_cons_zero, List.eraseIdx_cons_succ] at hs
          replace hH := Hold.of (Ls := [_, _]) hs
          refine Ls_nil (Jm_An hH ?_)
          refine An_take_on 10 rfl (by kernel_rfl) (by kernel_rfl) (by kernel_rfl) rfl rfl (fun _ _ _ h => h) hH (fun x hx => run_asB (c := true) (run_eql rfl rfl) (by decide)) rfl ?_
          refine An_take 11 rfl (by kernel_rfl) (by kernel_rfl) (by kernel_rfl) (fun _ _ _ h => h) hH (fun x hx => run_pick_t rfl rfl) rfl ?_
          refine An_take 12 rfl (by kernel_rfl) (by kernel_rfl) (by kernel_rfl) (fun _ _ _ h => h) hH (fun x hx => run_move rfl) rfl ?_
          refine An_take_on 13 rfl (by kernel_rfl) (by kernel_rfl) (by kernel_rfl) rfl rfl (fun _ _ _ h => h) hH (fun x hx => run_move rfl) rfl ?_
          refine An_take_on 15 rfl (by kernel_rfl) (by kernel_rfl) (by kernel_rfl) rfl rfl (fun _ _ _ h => h) hH (fun x hx => run_load_agg agg66 inf66 rfl rfl (hx.choose_spec.blk_cells 0 rfl 0 4)) rfl ?_
          refine An_only 14 (by kernel_rfl) rfl ?_
          refine Ls_on rfl rfl ?_
          replace hs := hs.front 2 rfl
          simp only [List.cons_append, List.nil_append, List.eraseIdx_cons_zero, List.eraseIdx_cons_succ] at hs
          refine Ls_call Try.func33 nm33 rfl rfl (Note_c w w85 _ bj _ ⟨(pp : Int), nn, ((i : Int) + 1), sl, false⟩ hs (by show nn.prev.length ≤ _ ∧ nn.cur.length ≤ _; omega)) rfl ?_
          rintro v86 w87 ⟨Yp, yp, Yc, yc, rfl, hs⟩
          replace hs := hs.front 4 rfl
          simp only [List.cons_append, List.nil_append, List.eraseIdx_cons_zero, List.eraseIdx_cons_succ] at hs
          replace hs := hs.front 4 rfl
          simp only [List.cons_append, List.nil_append, List.eraseIdx_cons_zero, List.eraseIdx_cons_succ] at hs
          replace hH := Hold.of (Ls := [_, _]) hs
          refine Ls_nil (Jm_An hH ?_)
          refine An_only 16 (by kernel_rfl) rfl ?_
          refine Ls_on rfl rfl ?_
          try simp only [List.nil_append, List.cons_append] at hs
          refine Ls_call Try.func36 nm36 rfl rfl (notes_c w87 nn _ _ _ _ _ _ _ _ (hs.rd_at 2 rfl) (hs.rd_at 3 rfl) (hs.rd_at 8 rfl) (hs.rd_at 9 rfl) (by omega)) rfl ?_
          rintro v88 w89 ⟨rfl, hsI⟩
          replace hs := hs.trans hsI
          simp only [List.nil_append, List.cons_append] at hs
          replace hs := hs.front 1 rfl
          simp only [List.cons_append, List.nil_append, List.eraseIdx_cons_zero, List.eraseIdx_cons_succ] at hs
          replace hs := hs.front 1 rfl
          simp only [List.cons_append, List.nil_append, List.eraseIdx_cons_zero, List.eraseIdx_cons_succ] at hs
          replace hH := Hold.of (Ls := [_, _]) hs
          refine Ls_nil (Jm_An hH ?_)
          refine An_take 17 rfl (by kernel_rfl) (by kernel_rfl) (by kernel_rfl) (fun _ _ _ h => h) hH (fun x hx => run_pick_t rfl rfl) rfl ?_
          refine An_take 18 rfl (by kernel_rfl) (by kernel_rfl) (by kernel_rfl) (fun _ _ _ h => h) hH (fun x hx => run_assign rfl) rfl ?_
          refine An_done (by kernel_rfl) ?_
          refine Jm_seq ?_
          refine St_ret ?_
          refine Jm_ret1 rfl rfl ?_
          exact ⟨_, rfl, rfl, hs.below⟩
  · skip
    refine Ls_off rfl rfl rfl rfl ?_
    refine Ls_off rfl rfl rfl rfl ?_
    refine Ls_run (run_pick_f rfl rfl) rfl ?_
    refine Ls_nil ?_
    refine Jm_seq ?_
    refine St_iff rfl ?_
    refine St_exit ?_
    refine Jm_then_exit (Jm_then_exit (Jm_block_same (Jm_seq ?_)))
    refine St_seq ?_
    obtain ⟨En91, hEn91⟩ : ∃ F : Nat × Nat × Nat → Env, ∀ (gp : Nat) (gc : Nat) (g15 : Nat), F (gp, gc, g15) = [(2, .slice A2 n2 c2), (7, .int .i64 (pp : Int)), (8, .int .i64 (pq : Int)), (9, .pointer (some ⟨b0, 0, none⟩)), (11, .pointer (some ⟨bj, 0, none⟩)), (13, .pointer (some ⟨b12, 0, none⟩)), (14, .int .i64 (i : Int)), (15, .pointer (some ⟨g15, 0, none⟩))] := ⟨(fun (s : Nat × Nat × Nat) => match s with | (gp, gc, g15) => [(2, .slice A2 n2 c2), (7, .int .i64 (pp : Int)), (8, .int .i64 (pq : Int)), (9, .pointer (some ⟨b0, 0, none⟩)), (11, .pointer (some ⟨bj, 0, none⟩)), (13, .pointer (some ⟨b12, 0, none⟩)), (14, .int .i64 (i : Int)), (15, .pointer (some ⟨g15, 0, none⟩))]), fun _ _ _ => rfl⟩
    obtain ⟨Iv92, hIv92⟩ : ∃ F : Nat × Nat × Nat → World → Prop, ∀ (gp : Nat) (gc : Nat) (g15 : Nat) (w93 : World), F (gp, gc, g15) w93 = (Sat w w93 (Blk g15 [.int .i64 (nn.batch + 1), .slice (some ⟨gp, 0, none⟩) pq pq, .slice (some ⟨gc, 0, none⟩) pq pq, .int .i64 nn.att] 66 :: Own 3 1 (.slice (some ⟨gp, 0, none⟩) pq pq) pq (List.replicate pq (.int .i64 0)) :: Own 3 1 (.slice (some ⟨gc, 0, none⟩) pq pq) pq (List.replicate pq (.int .i64 0)) :: [Blk b12 [.int .i64 nn.batch, .slice Ap nn.prev.length cp, .slice Ac nn.cur.length cc, .int .i64 nn.att] 66, Own 3 1 (.slice Ap nn.prev.length cp) nn.prev.length (KI.flat nn.prev), Own 3 1 (.slice Ac nn.cur.length cc) nn.cur.length (KI.flat nn.cur), JA 98 3 bj (some ⟨b0, 0, none⟩) ⟨(pp : Int), nn, ((i : Int) + 1), sl, false⟩, DiskA 85 31 5 b0 d])) := ⟨(fun (s : Nat × Nat × Nat) => match s with | (gp, gc, g15) => fun (w93 : World) => Sat w w93 (Blk g15 [.int .i64 (nn.batch + 1), .slice (some ⟨gp, 0, none⟩) pq pq, .slice (some ⟨gc, 0, none⟩) pq pq, .int .i64 nn.att] 66 :: Own 3 1 (.slice (some ⟨gp, 0, none⟩) pq pq) pq (List.replicate pq (.int .i64 0)) :: Own 3 1 (.slice (some ⟨gc, 0, none⟩) pq pq) pq (List.replicate pq (.int .i64 0)) :: [Blk b12 [.int .i64 nn.batch, .slice Ap nn.prev.length cp, .slice Ac nn.cur.length cc, .int .i64 nn.att] 66, Own 3 1 (.slice Ap nn.prev.length cp) nn.prev.length (KI.flat nn.prev), Own 3 1 (.slice Ac nn.cur.length cc) nn.cur.length (KI.flat nn.cur), JA 98 3 bj (some ⟨b0, 0, none⟩) ⟨(pp : Int), nn, ((i : Int) + 1), sl, false⟩, DiskA 85 31 5 b0 d])), fun _ _ _ _ => rfl⟩
    refine St_join En91 Iv92 ?_ ?_
    · skip
      refine St_hold (Hold.of (Ls := [_]) hs) mixed ?_
      intro w94 q95
      replace hs := hs.quiet q95
      have hH := Hold.of (Ls := [_]) hs
      refine An_take 0 rfl (by kernel_rfl) (by kernel_rfl) (by kernel_rfl) (fun _ _ _ h => h) hH (fun x hx => run_as (run_field Try.underlying66 rfl inf64 (by decide) rfl) (show _ = Value.pointer (some ⟨b12, 0, none⟩) from rfl)) rfl ?_
      refine An_take 1 rfl (by kernel_rfl) (by kernel_rfl) (by kernel_rfl) (fun _ _ _ h => h) hH (fun x hx => run_as (run_field Try.underlying64 rfl inf3 (by decide) rfl) (show _ = Value.pointer (some ⟨b12, 0, none⟩) from rfl)) rfl ?_
      refine An_take 2 rfl (by kernel_rfl) (by kernel_rfl) (by kernel_rfl) (fun _ _ _ h => h) hH (fun x hx => run_load sc3 rfl (hx.choose_spec.blk_at 0 rfl 0 rfl)) rfl ?_
      refine An_take 3 rfl (by kernel_rfl) (by kernel_rfl) (by kernel_rfl) (fun _ _ _ h => h) hH (fun x hx => run_add rfl rfl (w64 (by omega))) rfl ?_
      refine An_take 4 rfl (by kernel_rfl) (by kernel_rfl) (by kernel_rfl) (fun _ _ _ h => h) hH (fun x hx => run_move rfl) rfl ?_
      refine An_take 6 rfl (by kernel_rfl) (by kernel_rfl) (by kernel_rfl) (fun _ _ _ h => h) hH (fun x hx => run_move rfl) rfl ?_
      refine An_take 9 rfl (by kernel_rfl) (by kernel_rfl) (by kernel_rfl) (fun _ _ _ h => h) hH (fun x hx => run_as (run_field Try.underlying66 rfl inf3 (by decide) rfl) (show _ = Value.pointer (some ⟨b12, 3, none⟩) from rfl)) rfl ?_
      refine An_take 10 rfl (by kernel_rfl) (by kernel_rfl) (by kernel_rfl) (fun _ _ _ h => h) hH (fun x hx => run_load sc3 rfl (hx.choose_spec.blk_at 0 rfl 3 rfl)) rfl ?_
      refine An_three 5 7 12 (by kernel_rfl) rfl rfl rfl ?_ ?_ ?_
      · skip
        refine Ls_make (m := pq) hs Try.underlying62 infq3 rfl rfl rfl (by omega) (by omega) rfl ?_
        intro b96 w97 hs
        replace hs := hs.front 1 rfl
        simp only [List.cons_append, List.nil_append, List.eraseIdx_cons_zero, List.eraseIdx_cons_succ] at hs
        replace hH := Hold.of (Ls := [_]) hs
        refine Ls_nil (Jm_An hH ?_)
        refine An_two 7 12 (by kernel_rfl) rfl rfl ?_ ?_
        · skip
          refine Ls_make (m := pq) hs Try.underlying62 infq3 rfl rfl rfl (by omega) (by omega) rfl ?_
          intro b98 w99 hs
          replace hs := hs.front 1 rfl
          simp only [List.cons_append, List.nil_append, List.eraseIdx_cons_zero, List.eraseIdx_cons_succ] at hs
          replace hH := Hold.of (Ls := [_]) hs
          refine Ls_nil (Jm_An hH ?_)
          refine An_take 8 rfl (by kernel_rfl) (by kernel_rfl) (by kernel_rfl) (fun _ _ _ h => h) hH (fun x hx => run_buildO (pv := [(0, _), (1, _), (2, _)]) rfl (bld64_0_1_2 _ _ _ _ _ _ _)) rfl ?_
          refine An_take 11 rfl (by kernel_rfl) (by kernel_rfl) (by kernel_rfl) (fun _ _ _ h => h) hH (fun x hx => run_buildO (pv := [(0, _), (1, _)]) rfl (bld66_0_1 _ _ _ _ _ _ _ _)) rfl ?_
          refine An_only 12 (by kernel_rfl) rfl ?_
          refine Ls_alloc hs inf66 rfl ?_
          intro b101 w100 hs
          replace hs := hs.front 1 rfl
          simp only [List.cons_append, List.nil_append, List.eraseIdx_cons_zero, List.eraseIdx_cons_succ] at hs
          replace hH := Hold.of (Ls := [_]) hs
          refine Ls_nil (Jm_An hH ?_)
          refine An_only 13 (by kernel_rfl) rfl ?_
          replace hs := hs.front 1 rfl
          simp only [List.cons_append, List.nil_append, List.eraseIdx_cons_zero, List.eraseIdx_cons_succ] at hs
          refine Ls_storeAgg hs inf66 rfl rfl rfl rfl (by simp [Value.oneCell', Value.cells, jcells]) ?_
          intro w102 hs
          replace hs := hs.front 1 rfl
          simp only [List.cons_append, List.nil_append, List.eraseIdx_cons_zero, List.eraseIdx_cons_succ] at hs
          replace hH := Hold.of (Ls := [_]) hs
          refine Ls_nil (Jm_An hH ?_)
          refine An_done (by kernel_rfl) ?_
          replace hs := hs.front 7 rfl
          simp only [List.cons_append, List.nil_append, List.eraseIdx_cons_zero, List.eraseIdx_cons_succ] at hs
          replace hs := hs.front 7 rfl
          simp only [List.cons_append, List.nil_append, List.eraseIdx_cons_zero, List.eraseIdx_cons_succ] at hs
          replace hs := hs.front 7 rfl
          simp only [List.cons_append, List.nil_append, List.eraseIdx_cons_zero, List.eraseIdx_cons_succ] at hs
          replace hs := hs.front 7 rfl
          simp only [List.cons_append, List.nil_append, List.eraseIdx_cons_zero, List.eraseIdx_cons_succ] at hs
          replace hs := hs.front 4 rfl
          simp only [List.cons_append, List.nil_append, List.eraseIdx_cons_zero, List.eraseIdx_cons_succ] at hs
          replace hs := hs.front 6 rfl
          simp only [List.cons_append, List.nil_append, List.eraseIdx_cons_zero, List.eraseIdx_cons_succ] at hs
          replace hs := hs.front 7 rfl
          simp only [List.cons_append, List.nil_append, List.eraseIdx_cons_zero, List.eraseIdx_cons_succ] at hs
          replace hs := hs.front 7 rfl
          simp only [List.cons_append, List.nil_append, List.eraseIdx_cons_zero, List.eraseIdx_cons_succ] at hs
          refine Jm_join (b96, b98, b101) ?_ ?_
          · rw [hEn91]; exact (subE_cons rfl (subE_cons rfl (subE_cons rfl (subE_cons rfl (subE_cons rfl (subE_cons rfl (subE_cons rfl (subE_cons rfl subE_nil))))))))
          · skip
            rw [hIv92]
            exact hs
        · skip
          refine Ls_alloc hs inf66 rfl ?_
          intro b104 w103 hs
          replace hs := hs.front 1 rfl
          simp only [List.cons_append, List.nil_append, List.eraseIdx_cons_zero, List.eraseIdx_cons_succ] at hs
          replace hH := Hold.of (Ls := [_]) hs
          refine Ls_nil (Jm_An hH ?_)
          refine An_only 7 (by kernel_rfl) rfl ?_
          refine Ls_make (m := pq) hs Try.underlying62 infq3 rfl rfl rfl (by omega) (by omega) rfl ?_
          intro b105 w106 hs
          replace hs := hs.front 1 rfl
          simp only [List.cons_append, List.nil_append, List.eraseIdx_cons_zero, List.eraseIdx_cons_succ] at hs
          replace hH := Hold.of (Ls := [_]) hs
          refine Ls_nil (Jm_An hH ?_)
          refine An_take 8 rfl (by kernel_rfl) (by kernel_rfl) (by kernel_rfl) (fun _ _ _ h => h) hH (fun x hx => run_buildO (pv := [(0, _), (1, _), (2, _)]) rfl (bld64_0_1_2 _ _ _ _ _ _ _)) rfl ?_
          refine An_take 11 rfl (by kernel_rfl) (by kernel_rfl) (by kernel_rfl) (fun _ _ _ h => h) hH (fun x hx => run_buildO (pv := [(0, _), (1, _)]) rfl (bld66_0_1 _ _ _ _ _ _ _ _)) rfl ?_
          refine An_only 13 (by kernel_rfl) rfl ?_
          replace hs := hs.front 2 rfl
          simp only [List.cons_append, List.nil_append, List.eraseIdx_cons_zero, List.eraseIdx_cons_succ] at hs
          refine Ls_storeAgg hs inf66 rfl rfl rfl rfl (by simp [Value.oneCell', Value.cells, jcells]) ?_
          intro w107 hs
          replace hs := hs.front 1 rfl
          simp only [List.cons_append, List.nil_append, List.eraseIdx_cons_zero, List.eraseIdx_cons_succ] at hs
          replace hH := Hold.of (Ls := [_]) hs
          refine Ls_nil (Jm_An hH ?_)
          refine An_done (by kernel_rfl) ?_
          replace hs := hs.front 7 rfl
          simp only [List.cons_append, List.nil_append, List.eraseIdx_cons_zero, List.eraseIdx_cons_succ] at hs
          replace hs := hs.front 7 rfl
          simp only [List.cons_append, List.nil_append, List.eraseIdx_cons_zero, List.eraseIdx_cons_succ] at hs
          replace hs := hs.front 7 rfl
          simp only [List.cons_append, List.nil_append, List.eraseIdx_cons_zero, List.eraseIdx_cons_succ] at hs
          replace hs := hs.front 7 rfl
          simp only [List.cons_append, List.nil_append, List.eraseIdx_cons_zero, List.eraseIdx_cons_succ] at hs
          replace hs := hs.front 4 rfl
          simp only [List.cons_append, List.nil_append, List.eraseIdx_cons_zero, List.eraseIdx_cons_succ] at hs
          replace hs := hs.front 6 rfl
          simp only [List.cons_append, List.nil_append, List.eraseIdx_cons_zero, List.eraseIdx_cons_succ] at hs
          replace hs := hs.front 7 rfl
          simp only [List.cons_append, List.nil_append, List.eraseIdx_cons_zero, List.eraseIdx_cons_succ] at hs
          replace hs := hs.front 7 rfl
          simp only [List.cons_append, List.nil_append, List.eraseIdx_cons_zero, List.eraseIdx_cons_succ] at hs
          refine Jm_join (b96, b105, b104) ?_ ?_
          · rw [hEn91]; exact (subE_cons rfl (subE_cons rfl (subE_cons rfl (subE_cons rfl (subE_cons rfl (subE_cons rfl (subE_cons rfl (subE_cons rfl subE_nil))))))))
          · skip
            rw [hIv92]
            exact hs
      · skip
        refine Ls_make (m := pq) hs Try.underlying62 infq3 rfl rfl rfl (by omega) (by omega) rfl ?_
        intro b108 w109 hs
        replace hs := hs.front 1 rfl
        simp only [List.cons_append, List.nil_append, List.eraseIdx_cons_zero, List.eraseIdx_cons_succ] at hs
        replace hH := Hold.of (Ls := [_]) hs
        refine Ls_nil (Jm_An hH ?_)
        refine An_two 5 12 (by kernel_rfl) rfl rfl ?_ ?_
        · skip
          refine Ls_make (m := pq) hs Try.underlying62 infq3 rfl rfl rfl (by omega) (by omega) rfl ?_
          intro b110 w111 hs
          replace hs := hs.front 1 rfl
          simp only [List.cons_append, List.nil_append, List.eraseIdx_cons_zero, List.eraseIdx_cons_succ] at hs
          replace hH := Hold.of (Ls := [_]) hs
          refine Ls_nil (Jm_An hH ?_)
          refine An_take 8 rfl (by kernel_rfl) (by kernel_rfl) (by kernel_rfl) (fun _ _ _ h => h) hH (fun x hx => run_buildO (pv := [(0, _), (1, _), (2, _)]) rfl (bld64_0_1_2 _ _ _ _ _ _ _)) rfl ?_
          refine An_take 11 rfl (by kernel_rfl) (by kernel_rfl) (by kernel_rfl) (fun _ _ _ h => h) hH (fun x hx => run_buildO (pv := [(0, _), (1, _)]) rfl (bld66_0_1 _ _ _ _ _ _ _ _)) rfl ?_
          refine An_only 12 (by kernel_rfl) rfl ?_
          refine Ls_alloc hs inf66 rfl ?_
          intro b113 w112 hs
          replace hs := hs.front 1 rfl
          simp only [List.cons_append, List.nil_append, List.eraseIdx_cons_zero, List.eraseIdx_cons_succ] at hs
          replace hH := Hold.of (Ls := [_]) hs
          refine Ls_nil (Jm_An hH ?_)
          refine An_only 13 (by kernel_rfl) rfl ?_
          replace hs := hs.front 1 rfl
          simp only [List.cons_append, List.nil_append, List.eraseIdx_cons_zero, List.eraseIdx_cons_succ] at hs
          refine Ls_storeAgg hs inf66 rfl rfl rfl rfl (by simp [Value.oneCell', Value.cells, jcells]) ?_
          intro w114 hs
          replace hs := hs.front 1 rfl
          simp only [List.cons_append, List.nil_append, List.eraseIdx_cons_zero, List.eraseIdx_cons_succ] at hs
          replace hH := Hold.of (Ls := [_]) hs
          refine Ls_nil (Jm_An hH ?_)
          refine An_done (by kernel_rfl) ?_
          replace hs := hs.front 7 rfl
          simp only [List.cons_append, List.nil_append, List.eraseIdx_cons_zero, List.eraseIdx_cons_succ] at hs
          replace hs := hs.front 7 rfl
          simp only [List.cons_append, List.nil_append, List.eraseIdx_cons_zero, List.eraseIdx_cons_succ] at hs
          replace hs := hs.front 7 rfl
          simp only [List.cons_append, List.nil_append, List.eraseIdx_cons_zero, List.eraseIdx_cons_succ] at hs
          replace hs := hs.front 7 rfl
          simp only [List.cons_append, List.nil_append, List.eraseIdx_cons_zero, List.eraseIdx_cons_succ] at hs
          replace hs := hs.front 4 rfl
          simp only [List.cons_append, List.nil_append, List.eraseIdx_cons_zero, List.eraseIdx_cons_succ] at hs
          replace hs := hs.front 7 rfl
          simp only [List.cons_append, List.nil_append, List.eraseIdx_cons_zero, List.eraseIdx_cons_succ] at hs
          replace hs := hs.front 7 rfl
          simp only [List.cons_append, List.nil_append, List.eraseIdx_cons_zero, List.eraseIdx_cons_succ] at hs
          replace hs := hs.front 7 rfl
          simp only [List.cons_append, List.nil_append, List.eraseIdx_cons_zero, List.eraseIdx_cons_succ] at hs
          refine Jm_join (b110, b108, b113) ?_ ?_
          · rw [hEn91]; exact (subE_cons rfl (subE_cons rfl (subE_cons rfl (subE_cons rfl (subE_cons rfl (subE_cons rfl (subE_cons rfl (subE_cons rfl subE_nil))))))))
          · skip
            rw [hIv92]
            exact hs
        · skip
          refine Ls_alloc hs inf66 rfl ?_
          intro b116 w115 hs
          replace hs := hs.front 1 rfl
          simp only [List.cons_append, List.nil_append, List.eraseIdx_cons_zero, List.eraseIdx_cons_succ] at hs
          replace hH := Hold.of (Ls := [_]) hs
          refine Ls_nil (Jm_An hH ?_)
          refine An_only 5 (by kernel_rfl) rfl ?_
          refine Ls_make (m := pq) hs Try.underlying62 infq3 rfl rfl rfl (by omega) (by omega) rfl ?_
          intro b117 w118 hs
          replace hs := hs.front 1 rfl
          simp only [List.cons_append, List.nil_append, List.eraseIdx_cons_zero, List.eraseIdx_cons_succ] at hs
          replace hH := Hold.of (Ls := [_]) hs
          refine Ls_nil (Jm_An hH ?_)
          refine An_take 8 rfl (by kernel_rfl) (by kernel_rfl) (by kernel_rfl) (fun _ _ _ h => h) hH (fun x hx => run_buildO (pv := [(0, _), (1, _), (2, _)]) rfl (bld64_0_1_2 _ _ _ _ _ _ _)) rfl ?_
          refine An_take 11 rfl (by kernel_rfl) (by kernel_rfl) (by kernel_rfl) (fun _ _ _ h => h) hH (fun x hx => run_buildO (pv := [(0, _), (1, _)]) rfl (bld66_0_1 _ _ _ _ _ _ _ _)) rfl ?_
          refine An_only 13 (by kernel_rfl) rfl ?_
          replace hs := hs.front 2 rfl
          simp only [List.cons_append, List.nil_append, List.eraseIdx_cons_zero, List.eraseIdx_cons_succ] at hs
          refine Ls_storeAgg hs inf66 rfl rfl rfl rfl (by simp [Value.oneCell', Value.cells, jcells]) ?_
          intro w119 hs
          replace hs := hs.front 1 rfl
          simp only [List.cons_append, List.nil_append, List.eraseIdx_cons_zero, List.eraseIdx_cons_succ] at hs
          replace hH := Hold.of (Ls := [_]) hs
          refine Ls_nil (Jm_An hH ?_)
          refine An_done (by kernel_rfl) ?_
          replace hs := hs.front 7 rfl
          simp only [List.cons_append, List.nil_append, List.eraseIdx_cons_zero, List.eraseIdx_cons_succ] at hs
          replace hs := hs.front 7 rfl
          simp only [List.cons_append, List.nil_append, List.eraseIdx_cons_zero, List.eraseIdx_cons_succ] at hs
          replace hs := hs.front 7 rfl
          simp only [List.cons_append, List.nil_append, List.eraseIdx_cons_zero, List.eraseIdx_cons_succ] at hs
          replace hs := hs.front 7 rfl
          simp only [List.cons_append, List.nil_append, List.eraseIdx_cons_zero, List.eraseIdx_cons_succ] at hs
          replace hs := hs.front 4 rfl
          simp only [List.cons_append, List.nil_append, List.eraseIdx_cons_zero, List.eraseIdx_cons_succ] at hs
          replace hs := hs.front 7 rfl
          simp only [List.cons_append, List.nil_append, List.eraseIdx_cons_zero, List.eraseIdx_cons_succ] at hs
          replace hs := hs.front 7 rfl
          simp only [List.cons_append, List.nil_append, List.eraseIdx_cons_zero, List.eraseIdx_cons_succ] at hs
          replace hs := hs.front 7 rfl
          simp only [List.cons_append, List.nil_append, List.eraseIdx_cons_zero, List.eraseIdx_cons_succ] at hs
          refine Jm_join (b117, b108, b116) ?_ ?_
          · rw [hEn91]; exact (subE_cons rfl (subE_cons rfl (subE_cons rfl (subE_cons rfl (subE_cons rfl (subE_cons rfl (subE_cons rfl (subE_cons rfl subE_nil))))))))
          · skip
            rw [hIv92]
            exact hs
      · skip
        refine Ls_alloc hs inf66 rfl ?_
        intro b121 w120 hs
        replace hs := hs.front 1 rfl
        simp only [List.cons_append, List.nil_append, List.eraseIdx_cons_zero, List.eraseIdx_cons_succ] at hs
        replace hH := Hold.of (Ls := [_]) hs
        refine Ls_nil (Jm_An hH ?_)
        refine An_two 5 7 (by kernel_rfl) rfl rfl ?_ ?_
        · skip
          refine Ls_make (m := pq) hs Try.underlying62 infq3 rfl rfl rfl (by omega) (by omega) rfl ?_
          intro b122 w123 hs
          replace hs := hs.front 1 rfl
          simp only [List.cons_append, List.nil_append, List.eraseIdx_cons_zero, List.eraseIdx_cons_succ] at hs
          replace hH := Hold.of (Ls := [_]) hs
          refine Ls_nil (Jm_An hH ?_)
          refine An_only 7 (by kernel_rfl) rfl ?_
          refine Ls_make (m := pq) hs Try.underlying62 infq3 rfl rfl rfl (by omega) (by omega) rfl ?_
          intro b124 w125 hs
          replace hs := hs.front 1 rfl
          simp only [List.cons_append, List.nil_append, List.eraseIdx_cons_zero, List.eraseIdx_cons_succ] at hs
          replace hH := Hold.of (Ls := [_]) hs
          refine Ls_nil (Jm_An hH ?_)
          refine An_take 8 rfl (by kernel_rfl) (by kernel_rfl) (by kernel_rfl) (fun _ _ _ h => h) hH (fun x hx => run_buildO (pv := [(0, _), (1, _), (2, _)]) rfl (bld64_0_1_2 _ _ _ _ _ _ _)) rfl ?_
          refine An_take 11 rfl (by kernel_rfl) (by kernel_rfl) (by kernel_rfl) (fun _ _ _ h => h) hH (fun x hx => run_buildO (pv := [(0, _), (1, _)]) rfl (bld66_0_1 _ _ _ _ _ _ _ _)) rfl ?_
          refine An_only 13 (by kernel_rfl) rfl ?_
          replace hs := hs.front 3 rfl
          simp only [List.cons_append, List.nil_append, List.eraseIdx_cons_zero, List.eraseIdx_cons_succ] at hs
          refine Ls_storeAgg hs inf66 rfl rfl rfl rfl (by simp [Value.oneCell', Value.cells, jcells]) ?_
          intro w126 hs
          replace hs := hs.front 1 rfl
          simp only [List.cons_append, List.nil_append, List.eraseIdx_cons_zero, List.eraseIdx_cons_succ] at hs
          replace hH := Hold.of (Ls := [_]) hs
          refine Ls_nil (Jm_An hH ?_)
          refine An_done (by kernel_rfl) ?_
          replace hs := hs.front 7 rfl
          simp only [List.cons_append, List.nil_append, List.eraseIdx_cons_zero, List.eraseIdx_cons_succ] at hs
          replace hs := hs.front 7 rfl
          simp only [List.cons_append, List.nil_append, List.eraseIdx_cons_zero, List.eraseIdx_cons_succ] at hs
          replace hs := hs.front 7 rfl
          simp only [List.cons_append, List.nil_append, List.eraseIdx_cons_zero, List.eraseIdx_cons_succ] at hs
          replace hs := hs.front 7 rfl
          simp only [List.cons_append, List.nil_append, List.eraseIdx_cons_zero, List.eraseIdx_cons_succ] at hs
          replace hs := hs.front 4 rfl
          simp only [List.cons_append, List.nil_append, List.eraseIdx_cons_zero, List.eraseIdx_cons_succ] at hs
          replace hs := hs.front 6 rfl
          simp only [List.cons_append, List.nil_append, List.eraseIdx_cons_zero, List.eraseIdx_cons_succ] at hs
          replace hs := hs.front 7 rfl
          simp only [List.cons_append, List.nil_append, List.eraseIdx_cons_zero, List.eraseIdx_cons_succ] at hs
          replace hs := hs.front 7 rfl
          simp only [List.cons_append, List.nil_append, List.eraseIdx_cons_zero, List.eraseIdx_cons_succ] at hs
          refine Jm_join (b122, b124, b121) ?_ ?_
          · rw [hEn91]; exact (subE_cons rfl (subE_cons rfl (subE_cons rfl (subE_cons rfl (subE_cons rfl (subE_cons rfl (subE_cons rfl (subE_cons rfl subE_nil))))))))
          · skip
            rw [hIv92]
            exact hs
        · skip
          refine Ls_make (m := pq) hs Try.underlying62 infq3 rfl rfl rfl (by omega) (by omega) rfl ?_
          intro b127 w128 hs
          replace hs := hs.front 1 rfl
          simp only [List.cons_append, List.nil_append, List.eraseIdx_cons_zero, List.eraseIdx_cons_succ] at hs
          replace hH := Hold.of (Ls := [_]) hs
          refine Ls_nil (Jm_An hH ?_)
          refine An_only 5 (by kernel_rfl) rfl ?_
          refine Ls_make (m := pq) hs Try.underlying62 infq3 rfl rfl rfl (by omega) (by omega) rfl ?_
          intro b129 w130 hs
          replace hs := hs.front 1 rfl
          simp only [List.cons_append, List.nil_append, List.eraseIdx_cons_zero, List.eraseIdx_cons_succ] at hs
          replace hH := Hold.of (Ls := [_]) hs
          refine Ls_nil (Jm_An hH ?_)
          refine An_take 8 rfl (by kernel_rfl) (by kernel_rfl) (by kernel_rfl) (fun _ _ _ h => h) hH (fun x hx => run_buildO (pv := [(0, _), (1, _), (2, _)]) rfl (bld64_0_1_2 _ _ _ _ _ _ _)) rfl ?_
          refine An_take 11 rfl (by kernel_rfl) (by kernel_rfl) (by kernel_rfl) (fun _ _ _ h => h) hH (fun x hx => run_buildO (pv := [(0, _), (1, _)]) rfl (bld66_0_1 _ _ _ _ _ _ _ _)) rfl ?_
          refine An_only 13 (by kernel_rfl) rfl ?_
          replace hs := hs.front 3 rfl
          simp only [List.cons_append, List.nil_append, List.eraseIdx_cons_zero, List.eraseIdx_cons_succ] at hs
          refine Ls_storeAgg hs inf66 rfl rfl rfl rfl (by simp [Value.oneCell', Value.cells, jcells]) ?_
          intro w131 hs
          replace hs := hs.front 1 rfl
          simp only [List.cons_append, List.nil_append, List.eraseIdx_cons_zero, List.eraseIdx_cons_succ] at hs
          replace hH := Hold.of (Ls := [_]) hs
          refine Ls_nil (Jm_An hH ?_)
          refine An_done (by kernel_rfl) ?_
          replace hs := hs.front 7 rfl
          simp only [List.cons_append, List.nil_append, List.eraseIdx_cons_zero, List.eraseIdx_cons_succ] at hs
          replace hs := hs.front 7 rfl
          simp only [List.cons_append, List.nil_append, List.eraseIdx_cons_zero, List.eraseIdx_cons_succ] at hs
          replace hs := hs.front 7 rfl
          simp only [List.cons_append, List.nil_append, List.eraseIdx_cons_zero, List.eraseIdx_cons_succ] at hs
          replace hs := hs.front 7 rfl
          simp only [List.cons_append, List.nil_append, List.eraseIdx_cons_zero, List.eraseIdx_cons_succ] at hs
          replace hs := hs.front 4 rfl
          simp only [List.cons_append, List.nil_append, List.eraseIdx_cons_zero, List.eraseIdx_cons_succ] at hs
          replace hs := hs.front 7 rfl
          simp only [List.cons_append, List.nil_append, List.eraseIdx_cons_zero, List.eraseIdx_cons_succ] at hs
          replace hs := hs.front 7 rfl
          simp only [List.cons_append, List.nil_append, List.eraseIdx_cons_zero, List.eraseIdx_cons_succ] at hs
          replace hs := hs.front 7 rfl
          simp only [List.cons_append, List.nil_append, List.eraseIdx_cons_zero, List.eraseIdx_cons_succ] at hs
          refine Jm_join (b129, b127, b121) ?_ ?_
          · rw [hEn91]; exact (subE_cons rfl (subE_cons rfl (subE_cons rfl (subE_cons rfl (subE_cons rfl (subE_cons rfl (subE_cons rfl (subE_cons rfl subE_nil))))))))
          · skip
            rw [hIv92]
            exact hs
    · skip
      rintro ⟨gp, gc, g15⟩ w93 hI132
      rw [hIv92] at hI132
      replace hs := hI132
      refine Jm_eqE (hEn91 _ _ _) ?_
      refine Jm_seq ?_
      refine St_seq ?_
      refine St_region ?_
      refine Ls_run (run_move rfl) rfl ?_
      refine Ls_run (run_move rfl) rfl ?_
      replace hs := hs.front 7 rfl
      simp only [List.cons_append, List.nil_append, List.eraseIdx_cons_zero, List.eraseIdx_cons_succ] at hs
      refine Ls_call Try.func37 nm37 rfl rfl (Open_g w w93 _ b0 d hs hdg.2.2.2.2 (by have := hdg.2.2.1; omega) pq hq1 hq4) rfl ?_
      rintro v133 w134 ⟨pk, rfl, hs⟩
      refine Ls_run (run_move rfl) rfl ?_
      refine Ls_run (run_extract rfl rfl) rfl ?_
      refine Ls_run (run_extract rfl rfl) rfl ?_
      refine Ls_run (run_assign rfl) rfl ?_
      refine Ls_run (run_assign rfl) rfl ?_
      refine Ls_nil ?_
      refine Jm_seq ?_
      refine St_seq ?_
      refine St_seq ?_
      refine St_region ?_
      refine Ls_run (run_move rfl) rfl ?_
      refine Ls_run (run_move rfl) rfl ?_
      refine Ls_run (run_eql rfl rfl) rfl ?_
      refine Ls_nil ?_
      refine Jm_seq ?_
      refine St_ifP rfl (fun h135 => ?_) (fun h135 => ?_)
      · skip
        have hpq : pq = pp := by omega
        have hoe : jopen d (pq : Int) = (0, some ⟨(pp : Int), nn, ((i : Int) + 1), sl, false⟩, dread_k d 2) := by rw [hpq]; exact jopen_same hjo hdj hdg.1 rfl
        rw [hoe] at hs ⊢
        obtain ⟨bk, hpk, h9⟩ := hs.joSome
        subst hpk
        replace hs := h9
        refine St_seq ?_
        replace hs := hs.front 5 rfl
        simp only [List.cons_append, List.nil_append, List.eraseIdx_cons_zero, List.eraseIdx_cons_succ] at hs
        refine St_hold (Hold.of (Ls := [_]) hs) mixed ?_
        intro w136 q137
        replace hs := hs.quiet q137
        have hH := Hold.of (Ls := [_]) hs
        refine An_take 0 rfl (by kernel_rfl) (by kernel_rfl) (by kernel_rfl) (fun _ _ _ h => h) hH (fun x hx => run_move rfl) rfl ?_
        refine An_take 1 rfl (by kernel_rfl) (by kernel_rfl) (by kernel_rfl) (fun _ _ _ h => h) hH (fun x hx => run_asB (c := true) (run_eql rfl rfl) rfl) rfl ?_
        refine An_take 2 rfl (by kernel_rfl) (by kernel_rfl) (by kernel_rfl) (fun _ _ _ h => h) hH (fun x hx => run_move rfl) rfl ?_
        refine An_take_on 3 rfl (by kernel_rfl) (by kernel_rfl) (by kernel_rfl) rfl rfl (fun _ _ _ h => h) hH (fun x hx => run_move rfl) rfl ?_
        refine An_take_on 5 rfl (by kernel_rfl) (by kernel_rfl) (by kernel_rfl) rfl rfl (fun _ _ _ h => h) hH (fun x hx => run_load_agg agg66 inf66 rfl rfl (hx.choose_spec.blk_cells 0 rfl 0 4)) rfl ?_
        refine An_only 4 (by kernel_rfl) rfl ?_
        refine Ls_on rfl rfl ?_
        replace hs := hs.front 1 rfl
        simp only [List.cons_append, List.nil_append, List.eraseIdx_cons_zero, List.eraseIdx_cons_succ] at hs
        refine Ls_call Try.func33 nm33 rfl rfl (Note_c w w136 _ bk _ ⟨(pp : Int), nn, ((i : Int) + 1), sl, false⟩ hs (by show nn.prev.length ≤ _ ∧ nn.cur.length ≤ _; omega)) rfl ?_
        rintro v138 w139 ⟨Xp, xp, Xc, xc, rfl, hs⟩
        replace hs := hs.front 3 rfl
        simp only [List.cons_append, List.nil_append, List.eraseIdx_cons_zero, List.eraseIdx_cons_succ] at hs
        replace hH := Hold.of (Ls := [_]) hs
        refine Ls_nil (Jm_An hH ?_)
        refine An_only 6 (by kernel_rfl) rfl ?_
        refine Ls_on rfl rfl ?_
        try simp only [List.nil_append, List.cons_append] at hs
        refine Ls_call Try.func36 nm36 rfl rfl (notes_c w139 nn _ _ _ _ _ _ _ _ (hs.rd_at 1 rfl) (hs.rd_at 2 rfl) (hs.rd_at 8 rfl) (hs.rd_at 9 rfl) (by omega)) rfl ?_
        rintro v140 w141 ⟨rfl, hsI⟩
        replace hs := hs.trans hsI
        simp only [List.nil_append, List.cons_append] at hs
        replace hH := Hold.of (Ls := [_]) hs
        refine Ls_nil (Jm_An hH ?_)
        refine An_take 7 rfl (by kernel_rfl) (by kernel_rfl) (by kernel_rfl) (fun _ _ _ h => h) hH (fun x hx => run_pick_t rfl rfl) rfl ?_
        refine An_take 8 rfl (by kernel_rfl) (by kernel_rfl) (by kernel_rfl) (fun _ _ _ h => h) hH (fun x hx => run_assign rfl) rfl ?_
        refine An_done (by kernel_rfl) ?_
        refine Jm_seq ?_
        refine St_ret ?_
        refine Jm_then_ret  ?_
        refine Jm_ret1 rfl rfl ?_
        exact ⟨_, rfl, rfl, hs.below⟩
      · skip
        have hoe : jopen d (pq : Int) = (180, none, dread_k d 2) := jopen_other hjo hdj hdg.1 (by show (pq : Int) ≠ (pp : Int); omega) (by omega) (by omega)
        rw [hoe] at hs ⊢
        obtain ⟨hpk, h9⟩ := hs.joNone
        subst hpk
        replace hs := h9
        rw [← flatKI_rep pq] at hs
        refine St_skip ?_
        refine Jm_seq ?_
        refine St_seq ?_
        replace hs := hs.front 1 rfl
        simp only [List.cons_append, List.nil_append, List.eraseIdx_cons_zero, List.eraseIdx_cons_succ] at hs
        replace hs := hs.front 4 rfl
        simp only [List.cons_append, List.nil_append, List.eraseIdx_cons_zero, List.eraseIdx_cons_succ] at hs
        refine St_hold (Hold.of (Ls := [_, _]) hs) mixed ?_
        intro w142 q143
        replace hs := hs.quiet q143
        have hH := Hold.of (Ls := [_, _]) hs
        refine An_take 0 rfl (by kernel_rfl) (by kernel_rfl) (by kernel_rfl) (fun _ _ _ h => h) hH (fun x hx => run_move rfl) rfl ?_
        refine An_take 1 rfl (by kernel_rfl) (by kernel_rfl) (by kernel_rfl) (fun _ _ _ h => h) hH (fun x hx => run_asB (c := true) (run_eql rfl rfl) rfl) rfl ?_
        refine An_take 2 rfl (by kernel_rfl) (by kernel_rfl) (by kernel_rfl) (fun _ _ _ h => h) hH (fun x hx => run_move rfl) rfl ?_
        refine An_take_on 3 rfl (by kernel_rfl) (by kernel_rfl) (by kernel_rfl) rfl rfl (fun _ _ _ h => h) hH (fun x hx => run_move rfl) rfl ?_
        refine An_take_on 4 rfl (by kernel_rfl) (by kernel_rfl) (by kernel_rfl) rfl rfl (fun _ _ _ h => h) hH (fun x hx => run_asB (c := true) (run_eql_ptr_nil Try.underlying59 rfl rfl) rfl) rfl ?_
        refine An_take 5 rfl (by kernel_rfl) (by kernel_rfl) (by kernel_rfl) (fun _ _ _ h => h) hH (fun x hx => run_pick_t rfl rfl) rfl ?_
        refine An_take 6 rfl (by kernel_rfl) (by kernel_rfl) (by kernel_rfl) (fun _ _ _ h => h) hH (fun x hx => run_move rfl) rfl ?_
        refine An_take_on 7 rfl (by kernel_rfl) (by kernel_rfl) (by kernel_rfl) rfl rfl (fun _ _ _ h => h) hH (fun x hx => run_move rfl) rfl ?_
        refine An_take_on 8 rfl (by kernel_rfl) (by kernel_rfl) (by kernel_rfl) rfl rfl (fun _ _ _ h => h) hH (fun x hx => run_load_agg agg66 inf66 rfl rfl (hx.choose_spec.blk_cells 1 rfl 0 4)) rfl ?_
        refine An_only 9 (by kernel_rfl) rfl ?_
        refine Ls_on rfl rfl ?_
        replace hs := hs.front 2 rfl
        simp only [List.cons_append, List.nil_append, List.eraseIdx_cons_zero, List.eraseIdx_cons_succ] at hs
        replace hs := hs.front 7 rfl
        simp only [List.cons_append, List.nil_append, List.eraseIdx_cons_zero, List.eraseIdx_cons_succ] at hs
        have hv2 := jsave_arg (j := ⟨(pp : Int), nn, ((i : Int) + 1), sl, false⟩) (d := dread_k d 2) (n := ⟨nn.batch + 1, List.replicate pq 0, List.replicate pq 0, nn.att⟩) rfl (dg_reads hdg).1 (fun q => by have q1 := q.2.2.1; simp only [List.length_replicate] at q1; omega)
        have hlr : (List.replicate pq (0 : Int)).length = pq := List.length_replicate
        refine Ls_call Try.func35 nm35 rfl rfl (Save_e w w142 _ bj b0 ⟨(pp : Int), nn, ((i : Int) + 1), sl, false⟩ (dread_k d 2) hs hjo (dg_reads hdg).2.2.2.2 ⟨nn.batch + 1, List.replicate pq 0, List.replicate pq 0, nn.att⟩ _ _ _ _ pq pq hlr hlr (nn.batch + 1) nn.att rfl rfl (fun w' X q => q.rd_at 3 rfl) (fun w' X q => q.rd_at 4 rfl) (by omega)) rfl ?_
        rintro v144 w145 ⟨rfl, hs⟩
        simp only [hv2] at hs ⊢
        replace hs := hs.front 3 rfl
        simp only [List.cons_append, List.nil_append, List.eraseIdx_cons_zero, List.eraseIdx_cons_succ] at hs
        replace hs := hs.front 3 rfl
        simp only [List.cons_append, List.nil_append, List.eraseIdx_cons_zero, List.eraseIdx_cons_succ] at hs
        replace hH := Hold.of (Ls := [_, _]) hs
        refine Ls_nil (Jm_An hH ?_)
        refine An_take_on 10 rfl (by kernel_rfl) (by kernel_rfl) (by kernel_rfl) rfl rfl (fun _ _ _ h => h) hH (fun x hx => run_asB (c := true) (run_eql rfl rfl) (by decide)) rfl ?_
        refine An_take 11 rfl (by kernel_rfl) (by kernel_rfl) (by kernel_rfl) (fun _ _ _ h => h) hH (fun x hx => run_pick_t rfl rfl) rfl ?_
        refine An_take 12 rfl (by kernel_rfl) (by kernel_rfl) (by kernel_rfl) (fun _ _ _ h => h) hH (fun x hx => run_move rfl) rfl ?_
        refine An_take_on 13 rfl (by kernel_rfl) (by kernel_rfl) (by kernel_rfl) rfl rfl (fun _ _ _ h => h) hH (fun x hx => run_move rfl) rfl ?_
        refine An_take_on 15 rfl (by kernel_rfl) (by kernel_rfl) (by kernel_rfl) rfl rfl (fun _ _ _ h => h) hH (fun x hx => run_load_agg agg66 inf66 rfl rfl (hx.choose_spec.blk_cells 0 rfl 0 4)) rfl ?_
        refine An_only 14 (by kernel_rfl) rfl ?_
        refine Ls_on rfl rfl ?_
        replace hs := hs.front 2 rfl
        simp only [List.cons_append, List.nil_append, List.eraseIdx_cons_zero, List.eraseIdx_cons_succ] at hs
        refine Ls_call Try.func33 nm33 rfl rfl (Note_c w w145 _ bj _ ⟨(pp : Int), nn, ((i : Int) + 1), sl, false⟩ hs (by show nn.prev.length ≤ _ ∧ nn.cur.length ≤ _; omega)) rfl ?_
        rintro v146 w147 ⟨Yp, yp, Yc, yc, rfl, hs⟩
        replace hs := hs.front 4 rfl
        simp only [List.cons_append, List.nil_append, List.eraseIdx_cons_zero, List.eraseIdx_cons_succ] at hs
        replace hs := hs.front 4 rfl
        simp only [List.cons_append, List.nil_append, List.eraseIdx_cons_zero, List.eraseIdx_cons_succ] at hs
        replace hH := Hold.of (Ls := [_, _]) hs
        refine Ls_nil (Jm_An hH ?_)
        refine An_only 16 (by kernel_rfl) rfl ?_
        refine Ls_on rfl rfl ?_
        try simp only [List.nil_append, List.cons_append] at hs
        refine Ls_call Try.func36 nm36 rfl rfl (notes_c w147 nn _ _ _ _ _ _ _ _ (hs.rd_at 2 rfl) (hs.rd_at 3 rfl) (hs.rd_at 8 rfl) (hs.rd_at 9 rfl) (by omega)) rfl ?_
        rintro v148 w149 ⟨rfl, hsI⟩
        replace hs := hs.trans hsI
        simp only [List.nil_append, List.cons_append] at hs
        replace hs := hs.front 1 rfl
        simp only [List.cons_append, List.nil_append, List.eraseIdx_cons_zero, List.eraseIdx_cons_succ] at hs
        replace hs := hs.front 1 rfl
        simp only [List.cons_append, List.nil_append, List.eraseIdx_cons_zero, List.eraseIdx_cons_succ] at hs
        replace hH := Hold.of (Ls := [_, _]) hs
        refine Ls_nil (Jm_An hH ?_)
        refine An_take 17 rfl (by kernel_rfl) (by kernel_rfl) (by kernel_rfl) (fun _ _ _ h => h) hH (fun x hx => run_pick_t rfl rfl) rfl ?_
        refine An_take 18 rfl (by kernel_rfl) (by kernel_rfl) (by kernel_rfl) (fun _ _ _ h => h) hH (fun x hx => run_assign rfl) rfl ?_
        refine An_done (by kernel_rfl) ?_
        refine Jm_seq ?_
        refine St_ret ?_
        refine Jm_ret1 rfl rfl ?_
        exact ⟨_, rfl, rfl, hs.below⟩
end Go.Proofs.Ytpmkedgennnekaa.Lg
