/-
  The law CoordGivesUp: an attempt of which nothing is heard is given up just at its last tick, a new one of the same batch is begun at once, and what comes of the old one does nothing. For every plan, every list of acts and every list of numbers: no condition.
-/
import Derived.Test.YtcifdianinbkeaaCg4
import Derived.Test.YtcifdianinbkeaaRows
set_option linter.unusedVariables false
set_option linter.unusedSimpArgs false
namespace Go.Proofs.Ytcifdianinbkeaa.Lg
open Go Go.RowKit Go.Proofs.Ytcifdianinbkeaa.WirePure Go.Proofs.Ytcifdianinbkeaa.PlanPure
def re (p : PlanA) (A : Option Addr) (c : Nat) : PlanA := { p with oA := A, oc := c }
theorem TOk.re {p : PlanA} {ops : OpL} {n : NSt} {tr : List TSt} {k : Nat} (h : TOk p ops n tr k) (A : Option Addr) (c : Nat) : TOk (re p A c) ops n tr k := ⟨h.b, h.a, h.nd, h.ti, h.fr, h.ph, h.go, h.fst, h.rd, h.en⟩
theorem TOk.er {p : PlanA} {ops : OpL} {n : NSt} {tr : List TSt} {k : Nat} {A : Option Addr} {c : Nat} (h : TOk (Lg.re p A c) ops n tr k) : TOk p ops n tr k := ⟨h.b, h.a, h.nd, h.ti, h.fr, h.ph, h.go, h.fst, h.rd, h.en⟩
section
variable {N : Int} {p : PlanA} {ops : OpL} {tr : List TSt} {j : JSt} {d : DSt} {m : MC}
theorem CI.re (h : CI N p ops tr j d) (A : Option Addr) (c : Nat) : CI N (re p A c) ops tr j d := ⟨h.ck, h.jp, h.jo, h.je, h.dj, h.dn, h.sz, h.rows, h.ar, h.bd, ⟨h.ts.len, fun k hk => (h.ts.at_ k hk).re A c⟩⟩
theorem CI.er {A : Option Addr} {c : Nat} (h : CI N (Lg.re p A c) ops tr j d) : CI N p ops tr j d := ⟨h.ck, h.jp, h.jo, h.je, h.dj, h.dn, h.sz, h.rows, h.ar, h.bd, ⟨h.ts.len, fun k hk => (h.ts.at_ k hk).er⟩⟩
theorem CI.mono {N' : Int} (h : CI N p ops tr j d) (hN : N ≤ N') : CI N' p ops tr j d := { h with bd := by have := h.bd; omega }
/-- What a step may turn. -/
structure StepR (p : PlanA) (ops : OpL) (n n' : NSt) (out : Option MC) : Prop where
  att : n'.att = n.att ∨ n'.att = n.att + 1
  ba : (n'.batch = n.batch ∧ n'.cur = n.cur ∧ n'.prev = n.prev) ∨ (n'.batch = n.batch + 1 ∧ n'.prev = n.cur ∧ fwd n.cur n'.cur)
  out : ∀ m, out = some m → m.f = 0 ∧ kindOf p ops m.t = 2 ∧ ((m.k = 1 ∧ n'.att = n.att + 1 ∧ m.a = n'.att) ∨ (m.k = 3 ∧ m.b = n'.batch + 1)) ∧ m.ks = [] ∧ m.ps = []
theorem StepR.same (n : NSt) : StepR p ops n n none := ⟨.inl rfl, .inl ⟨rfl, rfl, rfl⟩, fun m h => by cases h⟩
theorem StepR.fwd {n n' : NSt} {out : Option MC} (h : StepR p ops n n' out) : fwd n.cur n'.cur := by
  rcases h.ba with ⟨_, e, _⟩ | ⟨_, _, e⟩
  · rw [e]; exact ⟨rfl, fun i _ => Int.le_refl _⟩
  · exact e
/-- An act's answer: fine, or the power has gone. -/
def ActR (N : Int) (p : PlanA) (ops : OpL) (j : JSt) (d : DSt) (er : Int) (en : Bool) (out : Option MC) (tr2 : List TSt) (j2 : JSt) (d2 : DSt) : Prop :=
  (er = 0 ∧ en = false ∧ CI (N + 1) p ops tr2 j2 d2 ∧ StepR p ops j.n j2.n out) ∨ (er = 80 ∧ en = true ∧ out = none ∧ j2 = { j with ended := true } ∧ d2 = doff d)
theorem wnode (hc : chk p ops = 0) (hn : NSt) {t : TSt} (h : t.nd = workerOf p ops t.a) (ha : 1 ≤ t.a) : 1 ≤ t.nd ∧ t.nd ≤ 4 := by
  have hk := chk_ok hc
  unfold numsOk at hk
  have := tmod_bd t.a p.wo (by omega) (by omega)
  rw [h]; unfold workerOf
  rw [if_pos ⟨hc, ha⟩]
  omega
theorem wkind (hc : chk p ops = 0) {t : TSt} (h : t.nd = workerOf p ops t.a) (ha : 1 ≤ t.a) : kindOf p ops t.nd = 2 := by
  have hk := chk_ok hc
  unfold numsOk at hk
  have := tmod_bd t.a p.wo (by omega) (by omega)
  have e : workerOf p ops t.a = 1 + t.a.tmod p.wo := by unfold workerOf; rw [if_pos ⟨hc, ha⟩]
  rw [h, e]; unfold kindOf nodes
  rw [if_pos hc, if_neg (by omega), if_neg (by omega), if_pos (by omega)]
theorem CI.tickR (h : CI N p ops tr j d) (hN : N < 1099511627770) : ActR N p ops j d (ctick p ops tr false j d).2.1 (ctick p ops tr false j d).2.2.2.1 (ctick p ops tr false j d).1 (ctick p ops tr false j d).2.2.1 (ctick p ops tr false j d).2.2.2.2.1 (ctick p ops tr false j d).2.2.2.2.2 := by
  rcases h.tick hN with ⟨_, e⟩ | ⟨_, _, e⟩ | ⟨_, _, d', e, hc, _⟩
  · rw [e]; exact .inl ⟨rfl, rfl, h.aged.mono (by omega), StepR.same _⟩
  · rw [e]; exact .inr ⟨rfl, rfl, rfl, rfl, rfl⟩
  · rw [e]
    refine .inl ⟨rfl, rfl, hc, .inr rfl, .inl ⟨rfl, rfl, rfl⟩, fun m hm => ?_⟩
    cases hm
    have hw := h.jo.1.2.1
    unfold within at hw
    have h1 := wkind h.ck (t := newT p ops j (ageT p.gu tr)) rfl (by show 1 ≤ j.n.att + 1; omega)
    exact ⟨rfl, h1, .inl ⟨rfl, rfl, rfl⟩, rfl, rfl⟩
theorem CI.tick_er (h : CI N p ops tr j d) (hN : N < 1099511627770) (ha : d.armed = false) : (ctick p ops tr false j d).2.1 = 0 := by
  rcases h.tick hN with ⟨_, e⟩ | ⟨_, e, _⟩ | ⟨_, _, d', e, _⟩
  · rw [e]
  · rw [ha] at e; cases e
  · rw [e]
theorem idx_abt {i : Nat} (hq : idxB (fun t : TSt => decide (abt m t 1)) tr = some i) : i < tr.length ∧ abt m (tr.getD i T0.1) 1 := by
  have hi := idx_lt hq
  refine ⟨hi, ?_⟩
  unfold idxB at hq
  rw [List.findIdx?_eq_some_iff_getElem] at hq
  obtain ⟨h1, h2, _⟩ := hq
  rw [getD_el h1]
  exact of_decide_eq_true h2
theorem CI.readyR (h : CI N p ops tr j d) (hb : ∀ y ∈ m.es, y ≤ 256) : CI (N + 1) p ops (cready p tr m).2 j d ∧ StepR p ops j.n j.n (cready p tr m).1 := by
  refine ⟨(h.ready hb).mono (by omega), .inl rfl, .inl ⟨rfl, rfl, rfl⟩, fun x hx => ?_⟩
  unfold cready at hx
  cases hq : idxB (fun t : TSt => decide (abt m t 1)) tr with
  | none => rw [hq] at hx; cases hx
  | some i =>
    obtain ⟨hi, hab⟩ := idx_abt hq
    rw [hq] at hx
    simp only at hx
    have h0 := h.ts.at_ i hi
    split at hx
    · cases hx
    · split at hx
      · cases hx
      · split at hx
        · cases hx
        · split at hx
          · cases hx
          · rename_i h9
            cases hx
            have hw := wkind h.ck (t := tr.getD i T0.1) h0.nd h0.a.1
            have hi0 : i = 0 := by omega
            subst hi0
            exact ⟨rfl, hw, .inr ⟨rfl, by show (tr.getD 0 T0.1).b = _; rw [h0.b]; simp⟩, rfl, rfl⟩
theorem CI.takeR (h : CI N p ops tr j d) (hN : N < 1099511627770) (hs : Msound m) (ht : m.t = 0) (hk : m.k = 2 ∨ m.k = 8) : ActR N p ops j d (ctake p tr false j d m).2.1 (ctake p tr false j d m).2.2.2.1 (ctake p tr false j d m).1 (ctake p tr false j d m).2.2.1 (ctake p tr false j d m).2.2.2.2.1 (ctake p tr false j d m).2.2.2.2.2 := by
  have hm1 : mof m.k = 1 := by unfold mof; rw [if_pos (by omega)]
  have hes : ∀ y ∈ m.es, y ≤ 256 := fun y hy => by have := (hs.2.2.2.2.2.1 hm1).1 y hy; omega
  rcases hk with hk | hk
  · rw [h.take2 hs ht hk]
    obtain ⟨h1, h2⟩ := h.readyR (m := m) hes
    exact .inl ⟨rfl, rfl, h1, h2⟩
  · rw [h.take8 hs ht hk]
    rcases h.done hN m with ⟨_, e⟩ | ⟨_, _, e⟩ | ⟨hc, _, d', e, hc2, _⟩
    · rw [e]; exact .inl ⟨rfl, rfl, h.mono (by omega), StepR.same _⟩
    · rw [e]; exact .inr ⟨rfl, rfl, rfl, rfl, rfl⟩
    · rw [e]
      have hne : tr ≠ [] := fun q => hc (.inl q)
      have hl : 0 < tr.length := List.length_pos_iff.2 hne
      have hab : abt m (tr.getD 0 T0.1) 3 := Decidable.not_not.1 fun q => hc (.inr (.inl q))
      have h0 := h.ts.at_ 0 hl
      have hf := (h0.en (by rw [hab.2.2.2]; decide)).1
      rw [h0.fr, if_pos rfl] at hf
      refine .inl ⟨rfl, rfl, hc2, .inl rfl, .inr ⟨rfl, rfl, hf⟩, fun x hx => ?_⟩
      split at hx
      · rename_i h9
        cases hx
        have hl1 : 1 < tr.length := by have := h9.1; rw [List.length_drop] at this; omega
        have h1 := h.ts.at_ 1 hl1
        have hw := wkind h.ck (t := tr.getD 1 T0.1) h1.nd h1.a.1
        refine ⟨rfl, by show kindOf p ops (going ((tr.drop 1).getD 0 T0.1)).nd = 2; rw [drop_getT]; exact hw, .inr ⟨rfl, ?_⟩, rfl, rfl⟩
        show (going ((tr.drop 1).getD 0 T0.1)).b = j.n.batch + 1 + 1
        rw [drop_getT]
        show (tr.getD 1 T0.1).b = _
        rw [h1.b]; simp
      · cases hx
/-- The disk goes on again; the coordinator is opened anew. -/
theorem CI.back (h : CI N p ops tr j d) {d2 : DSt} (hb : d2.bl = d.bl) (hd : d2.down = false) (ha : d2.armed = false) : jopen d2 p.pa = (0, some j, dread_k d2 2) ∧ (∀ x ∈ d2.bl, IsBytes x ∧ x.length ≤ 1024) ∧ 1 ≤ d2.bl.length ∧ CI (N + 1) p ops [] j (dread_k d2 2) := by
  have hj : DJ d2 j := by unfold DJ; rw [hb]; exact h.dj
  have ho := jopen_same h.jo hj hd h.je
  rw [h.jp] at ho
  have hk := h.nums
  unfold numsOk at hk
  have hsm := dread_k_same d2 2
  have hsz := h.sz
  have hbd := h.bd
  refine ⟨ho, by rw [hb]; exact h.rows, by rw [hb]; omega, ⟨h.ck, h.jp, h.jo, h.je, (by unfold DJ; rw [hsm.1]; exact hj), (by rw [hsm.2.1]; exact hd), (by rw [hsm.1, hb]; exact hsz), (by rw [hsm.1, hb]; exact h.rows), (fun q => by rw [hsm.2.2.1, ha] at q; cases q), (by omega), TrOk.nil (p := p) (by omega)⟩⟩
theorem CI.cut0 (h : CI N p ops tr j d) : CI (N + 1) p ops tr j (dcut d 0) := ⟨h.ck, h.jp, h.jo, h.je, h.dj, h.dn, h.sz, h.rows, fun _ => rfl, by have := h.bd; omega, h.ts⟩
theorem CI.lens (h : CI N p ops tr j d) : tr.length ≤ 4 ∧ (∀ t ∈ tr, t.fr.length ≤ 4 ∧ t.to.length ≤ 4 ∧ (∀ y ∈ t.fr, 0 ≤ y ∧ y ≤ 256) ∧ 0 ≤ t.ti ∧ t.ti < 64) := by
  have hk := h.nums
  unfold numsOk at hk
  have hl := h.ts.len
  have he := h.ts.ends (note_eb h.jo.1).1
  rw [h.jp] at he
  refine ⟨by omega, fun t ht => ?_⟩
  obtain ⟨k, hk2, rfl⟩ := List.getElem_of_mem ht
  have h1 := he k hk2
  have h0 := h.ts.at_ k hk2
  rw [getD_el hk2] at h1
  have hti := h0.ti
  have hrd := h0.rd
  rw [getD_el hk2] at hti hrd
  refine ⟨by have := h1.1.1; omega, ?_, h1.1.2, by omega, by omega⟩
  by_cases e : tr[k].ph = 1
  · rw [(hrd e).2]; simp
  · have := (h1.2 e).1; omega
theorem CI.note (h : CI N p ops tr j d) : j.n.prev.length ≤ 4 ∧ j.n.cur.length ≤ 4 := by
  have hk := h.nums
  unfold numsOk at hk
  have h1 := noteOk_len h.jo.1
  rw [h.jp] at h1
  omega
theorem CI.ageLens (h : CI N p ops tr j d) : ∀ t ∈ ageT p.gu tr, t.to.length ≤ 1073741824 := fun t ht => by
  obtain ⟨s, h1, rfl⟩ := ageT_mem ht
  rw [(bump_to s).1]
  have := (h.lens.2 s h1).2.1; omega
/-- A message that has been sent. -/
structure MSent (x : MC × MP) : Prop where
  q : x.2.en = x.1.es.length ∧ x.2.en ≤ 4 ∧ x.2.kn = 0 ∧ x.2.pn = 0
  s : Msound x.1
  t : x.1.t = 0
  k : x.1.k = 2 ∨ x.1.k = 8
theorem CI.about (h : CI N p ops tr j d) (hN : N < 1099511627770) {i : Nat} (hi : i < tr.length) {k : Int} (hk : k = 2 ∨ k = 8) {es : List Int} (he : EB j.parts es) : Msound (aboutT k (tr.getD i T0.1) es) := by
  have h0 := h.ts.at_ i hi
  have hn := h.nums
  unfold numsOk at hn
  have hl := h.ts.len
  have hw := wnode h.ck j.n (t := tr.getD i T0.1) h0.nd h0.a.1
  have hbd := h.bd
  have hj := h.jo.1.1
  unfold within at hj
  rw [h.jp] at he
  exact about_sound hk (by show 0 ≤ (tr.getD i T0.1).nd ∧ (tr.getD i T0.1).nd ≤ 8; omega) (by show 1 ≤ (tr.getD i T0.1).b ∧ (tr.getD i T0.1).b ≤ 1099511627776; rw [h0.b]; omega) (by show 1 ≤ (tr.getD i T0.1).a ∧ (tr.getD i T0.1).a ≤ 1099511627776; have := h0.a; omega) he (by omega) (by omega)
end
/-! The first try, once more, for any plan -/
section
variable {p : PlanA} {ops : OpL} {d : DSt} {m : Nat} {es : List Int}
theorem ctake_re {A : Option Addr} {c : Nat} {tr : List TSt} {e : Bool} {j : JSt} {x : MC} : ctake (re p A c) tr e j d x = ctake p tr e j d x := rfl
theorem ctick_re {A : Option Addr} {c : Nat} {tr : List TSt} {e : Bool} {j : JSt} : ctick (re p A c) ops tr e j d = ctick p ops tr e j d := rfl
end
/-! Its memory -/
def wcells (p : PlanA) (bd bc : Nat) (A : Option Addr) (m c : Nat) : List Value :=
  [.int .i64 p.pa, .int .i64 p.st, .int .i64 p.wo, .slice p.oA p.on p.oc, .int .i64 p.ag, .int .i64 p.ba, .int .i64 p.wi, .int .i64 p.gu, .pointer (some ⟨bd, 0, none⟩), .pointer (some ⟨bc, 0, none⟩), .slice A m c]
structure WQ where
  bd : Nat
  bc : Nat
  bj : Nat
  Ao : Option Addr
  co : Nat
  sA : Option Addr
  sc : Nat
  vs : List (MC × MP)
def SK (vs : List (MC × MP)) : World → Prop := fun w => ∀ x ∈ vs, MRd w x.1 x.2
def TK (A : Option Addr) (c : Nat) (vo : List TT) : World → Prop := fun w => Rd w A vo.length c 7 (KT.flat vo) ∧ ∀ x ∈ vo, TRd w x
/-- The numbers of the types. -/
structure TNs where
  TC : Nat
  TY : Nat
  TJ : Nat
  TI : Nat
  TD : Nat
  BS : Nat
  U8 : Nat
  TM : Nat
  TW : Nat
def WM (T : TNs) (bw : Nat) (p : PlanA) (ops : OpL) (tr : List TSt) (e : Bool) (j : JSt) (d : DSt) (q : WQ) : List Assn :=
  [Blk bw (wcells p q.bd q.bc q.sA q.vs.length q.sc) T.TW, CA T.TC T.TY q.bc q.bd q.bj (re p q.Ao q.co) ops tr e, JA T.TJ T.TI q.bj (some ⟨q.bd, 0, none⟩) j, DiskA T.TD T.BS T.U8 q.bd d, Own T.TM 9 (.slice q.sA q.vs.length q.sc) q.vs.length (KM.flat q.vs), Keep (SK q.vs)]
def WA (T : TNs) (bw : Nat) (p : PlanA) (ops : OpL) (tr : List TSt) (e : Bool) (j : JSt) (d : DSt) (n : Nat) : Assn := Thing (fun q : WQ => (∀ x ∈ q.vs, MSent x) ∧ q.vs.length ≤ n) (WM T bw p ops tr e j d)
section
variable {B w : World} {T : TNs} {bw : Nat} {p : PlanA} {ops : OpL} {tr : List TSt} {e : Bool} {j : JSt} {d : DSt} {n : Nat} {L : List Assn}
theorem Sat.wopen (hs : Sat B w (WA T bw p ops tr e j d n :: L)) : ∃ bd bc bj Ao co sA sc vs, (∀ x ∈ vs, MSent x) ∧ vs.length ≤ n ∧ Sat B w (WM T bw p ops tr e j d ⟨bd, bc, bj, Ao, co, sA, sc, vs⟩ ++ L) := by
  obtain ⟨⟨bd, bc, bj, Ao, co, sA, sc, vs⟩, h1, h2⟩ := Sat.openObj hs
  exact ⟨bd, bc, bj, Ao, co, sA, sc, vs, h1.1, h1.2, h2⟩
theorem Sat.wshut {bd bc bj : Nat} {Ao : Option Addr} {co : Nat} {sA : Option Addr} {sc : Nat} {vs : List (MC × MP)} (h1 : ∀ x ∈ vs, MSent x) (h2 : vs.length ≤ n)
    (hs : Sat B w (Blk bw (wcells p bd bc sA vs.length sc) T.TW :: CA T.TC T.TY bc bd bj (re p Ao co) ops tr e :: JA T.TJ T.TI bj (some ⟨bd, 0, none⟩) j :: DiskA T.TD T.BS T.U8 bd d :: Own T.TM 9 (.slice sA vs.length sc) vs.length (KM.flat vs) :: Keep (SK vs) :: L)) : Sat B w (WA T bw p ops tr e j d n :: L) :=
  Sat.shutObj (M := WM T bw p ops tr e j d) ⟨bd, bc, bj, Ao, co, sA, sc, vs⟩ ⟨h1, h2⟩ hs
theorem tk_of {B w : World} {TY TI : Nat} {vo : List TT} {A : Option Addr} {c : Nat} (h : Sat B w (Own TY 7 (.slice A vo.length c) vo.length (KT.flat vo) :: rowsA TI KI (rvals vo) (rlists (vo.map Prod.fst)))) : TK A c vo w := by
  refine ⟨h.rd_at 0 rfl, ?_⟩
  have h2 := h.tail
  clear h
  induction vo with
  | nil => intro x hx; cases hx
  | cons y l ih =>
    intro x hx
    have e : rowsA TI KI (rvals (y :: l)) (rlists ((y :: l).map Prod.fst)) = Own TI 1 (.slice y.2.fA y.1.fr.length y.2.fc) y.1.fr.length (KI.flat y.1.fr) :: Own TI 1 (.slice y.2.tA y.1.to.length y.2.tc) y.1.to.length (KI.flat y.1.to) :: rowsA TI KI (rvals l) (rlists (l.map Prod.fst)) := rfl
    rw [e] at h2
    rcases List.mem_cons.1 hx with rfl | hx
    · exact ⟨h2.rd_at 0 rfl, h2.rd_at 1 rfl⟩
    · exact ih h2.tail.tail x hx
/-- The tries that were told, only read. -/
theorem Sat.triesK {TY TI : Nat} {vo : List TT} {A : Option Addr} {c : Nat} {X : Assn} (hv : vo.map Prod.fst = tr) (hs : Sat B w (Own TY 7 (.slice A vo.length c) vo.length (KT.flat vo) :: X :: (L ++ rowsA TI KI (rvals vo) (rlists tr)))) : Sat B w (Keep (TK A c vo) :: X :: L) := by
  subst hv
  refine Sat.toKeep (L1 := Own TY 7 (.slice A vo.length c) vo.length (KT.flat vo) :: rowsA TI KI (rvals vo) (rlists (vo.map Prod.fst))) (fun B w h => tk_of h) (hs.perm ?_)
  exact List.Perm.cons _ (perm_mid X L _)
where
  perm_mid (X : Assn) (L R : List Assn) : (X :: (L ++ R)).Perm (R ++ X :: L) := by
    have h1 : (X :: L ++ R).Perm (R ++ (X :: L)) := List.perm_append_comm
    exact h1
theorem Sat.keep2 {F G H : World → Prop} (hs : Sat B w (Keep F :: Keep G :: L)) (h : ∀ w, F w → G w → H w) : Sat B w (Keep H :: L) :=
  Sat.toKeep (L1 := [Keep F, Keep G]) (fun B w z => h w (z.kept 0 rfl) (z.kept 1 rfl)) hs
theorem Sat.ownKeep {F H : World → Prop} {A : Option Addr} {T n c : Nat} {xs : List Value} (hs : Sat B w (Own T 1 (.slice A n c) n xs :: Keep F :: L)) (h : ∀ w, Rd w A n c 1 xs → F w → H w) : Sat B w (Keep H :: L) :=
  Sat.toKeep (L1 := [Own T 1 (.slice A n c) n xs, Keep F]) (fun B w z => h w (z.rd_at 0 rfl) (z.kept 1 rfl)) hs
theorem SK.add {w : World} {vs : List (MC × MP)} {x : MC × MP} (h : SK vs w) (hx : MRd w x.1 x.2) : SK (vs ++ [x]) w := fun y hy => by
  rcases List.mem_append.1 hy with hy | hy
  · exact h y hy
  · rw [List.mem_singleton] at hy; subst hy; exact hx
theorem MSent.add {vs : List (MC × MP)} {x : MC × MP} (h : ∀ x ∈ vs, MSent x) (hx : MSent x) : ∀ y ∈ vs ++ [x], MSent y := fun y hy => by
  rcases List.mem_append.1 hy with hy | hy
  · exact h y hy
  · rw [List.mem_singleton] at hy; subst hy; exact hx
theorem msg_of {w : World} {k : Int} {t : TSt} {es : List Int} {A : Option Addr} {c : Nat} (h : Rd w A es.length c 1 (KI.flat es)) : MRd w (aboutT k t es) ⟨A, es.length, c, none, 0, 0, none, 0, 0⟩ := ⟨h, Rd.none w 1, Rd.none w 3⟩
/-- What was sent, only read. -/
def MK (A : Option Addr) (c : Nat) (l : List (MC × MP)) : World → Prop := fun w => Rd w A l.length c 9 (KM.flat l) ∧ ∀ x ∈ l, MRd w x.1 x.2
theorem mo_none {TM TI : Nat} {v : Value} (hs : Sat B w (MO TM TI v none :: L)) : v = .slice none 0 0 ∧ Sat B w (Keep (MK none 0 []) :: L) := by
  obtain ⟨h, h2⟩ := hs.moNone
  exact ⟨h, Sat.toKeep (L1 := []) (fun B w z => ⟨Rd.none w 9, fun x hx => by cases hx⟩) h2⟩
theorem mo_some {TM TI : Nat} {v : Value} {m : MC} (hk : m.ks = [] ∧ m.ps = []) (hs : Sat B w (MO TM TI v (some m) :: L)) : ∃ A c l, v = .slice A l.length c ∧ l.map Prod.fst = [m] ∧ Sat B w (Keep (MK A c l) :: L) := by
  obtain ⟨g, A, c, h, h2⟩ := hs.moSome
  refine ⟨some ⟨g, 0, none⟩, 1, [(m, ⟨A, m.es.length, c, none, 0, 0, none, 0, 0⟩)], h, rfl, ?_⟩
  refine Sat.toKeep (L1 := [Blk g (mcells m ⟨A, m.es.length, c, none, 0, 0, none, 0, 0⟩) TM, Own TI 1 (.slice A m.es.length c) m.es.length (KI.flat m.es)]) (fun B w z => ⟨msg_rd (z.is_at 0 rfl).2, fun x hx => ?_⟩) h2
  rw [List.mem_singleton] at hx
  subst hx
  exact ⟨z.rd_at 1 rfl, hk.1 ▸ Rd.none w 1, hk.2 ▸ Rd.none w 3⟩
theorem Sat.moK {TM TI : Nat} {v : Value} {out : Option MC} (hk : ∀ m, out = some m → m.ks = [] ∧ m.ps = []) (hs : Sat B w (MO TM TI v out :: L)) : ∃ A c l, v = .slice A l.length c ∧ l.map Prod.fst = out.toList ∧ Sat B w (Keep (MK A c l) :: L) := by
  cases out with
  | none => obtain ⟨h1, h2⟩ := mo_none hs; exact ⟨none, 0, [], h1, rfl, h2⟩
  | some m => exact mo_some (hk m rfl) hs
/-- An act: its kind, its number, its list. -/
abbrev AL := Int × Int × Option Addr × Nat × Nat
def KAct : El AL := ⟨3, fun x => [.int .i64 x.1, .int .i64 x.2.1, .slice x.2.2.1 x.2.2.2.1 x.2.2.2.2], (0, 0, none, 0, 0), fun _ => rfl⟩
def AOk (w : World) (x : AL) : Prop := (∃ ol, Rd w x.2.2.1 x.2.2.2.1 x.2.2.2.2 1 (KI.flat ol)) ∧ x.2.2.2.1 ≤ 9223372036854775807
theorem lenKAct {w : World} {A : Option Addr} {n c : Nat} {l : List AL} (h : Rd w A n c 3 (KAct.flat l)) : l.length = n := by
  have := h.len; rw [El.flat_length] at this; exact Nat.eq_of_mul_eq_mul_right (show 0 < 3 by decide) this
theorem Sat.wnew {bd bc bj : Nat} {Ao : Option Addr} {co : Nat} (hs : Sat B w (Blk bw (wcells p bd bc none 0 0) T.TW :: CA T.TC T.TY bc bd bj (re p Ao co) ops tr e :: JA T.TJ T.TI bj (some ⟨bd, 0, none⟩) j :: DiskA T.TD T.BS T.U8 bd d :: L)) : Sat B w (WA T bw p ops tr e j d 0 :: L) := by
  have h1 : Sat B w (Keep (SK []) :: Blk bw (wcells p bd bc none 0 0) T.TW :: CA T.TC T.TY bc bd bj (re p Ao co) ops tr e :: JA T.TJ T.TI bj (some ⟨bd, 0, none⟩) j :: DiskA T.TD T.BS T.U8 bd d :: L) := Sat.toKeep (L1 := []) (fun B w z => fun x hx => by cases hx) hs
  have h2 := h1.own_nil T.TM 9
  refine Sat.wshut (vs := []) (sA := none) (sc := 0) (Ao := Ao) (co := co) (bj := bj) (bd := bd) (bc := bc) (fun x hx => by cases hx) (Nat.le_refl _) ?_
  exact h2.F5.F5.F5.F5
end
end Go.Proofs.Ytcifdianinbkeaa.Lg
set_option linter.unusedVariables false
set_option linter.unusedSimpArgs false
namespace Go.Proofs.Ytcifdianinbkeaa.Lg
open Go Go.RowKit Go.Proofs.Ytcifdianinbkeaa.WirePure Go.Proofs.Ytcifdianinbkeaa.PlanPure
abbrev tns : TNs := ⟨79, 43, 108, 3, 122, 125, 5, 41, 31⟩
theorem wopen19 {B w : World} {bw : Nat} {p : PlanA} {ops : OpL} {tr : List TSt} {e : Bool} {j : JSt} {d : DSt} {n : Nat} {L : List Assn} (hs : Sat B w (WA tns bw p ops tr e j d n :: L)) : ∃ bd bc bj Ao co sA sc vs, (∀ x ∈ vs, MSent x) ∧ vs.length ≤ n ∧
    Sat B w (Blk bw (wcells p bd bc sA vs.length sc) 31 :: CA 79 43 bc bd bj (re p Ao co) ops tr e :: JA 108 3 bj (some ⟨bd, 0, none⟩) j :: DiskA 122 125 5 bd d :: Own 41 9 (.slice sA vs.length sc) vs.length (KM.flat vs) :: Keep (SK vs) :: L) := hs.wopen
theorem wshut19 {B w : World} {bw : Nat} {p : PlanA} {ops : OpL} {tr : List TSt} {e : Bool} {j : JSt} {d : DSt} {n : Nat} {L : List Assn} {bd bc bj : Nat} {Ao : Option Addr} {co : Nat} {sA : Option Addr} {sc : Nat} {vs : List (MC × MP)} (h1 : ∀ x ∈ vs, MSent x) (h2 : vs.length ≤ n)
    (hs : Sat B w (Blk bw (wcells p bd bc sA vs.length sc) 31 :: CA 79 43 bc bd bj (re p Ao co) ops tr e :: JA 108 3 bj (some ⟨bd, 0, none⟩) j :: DiskA 122 125 5 bd d :: Own 41 9 (.slice sA vs.length sc) vs.length (KM.flat vs) :: Keep (SK vs) :: L)) : Sat B w (WA tns bw p ops tr e j d n :: L) := Sat.wshut (T := tns) h1 h2 hs
theorem wnew19 {B w : World} {bw : Nat} {p : PlanA} {ops : OpL} {tr : List TSt} {e : Bool} {j : JSt} {d : DSt} {L : List Assn} {bd bc bj : Nat} {Ao : Option Addr} {co : Nat} (hs : Sat B w (Blk bw (wcells p bd bc none 0 0) 31 :: CA 79 43 bc bd bj (re p Ao co) ops tr e :: JA 108 3 bj (some ⟨bd, 0, none⟩) j :: DiskA 122 125 5 bd d :: L)) : Sat B w (WA tns bw p ops tr e j d 0 :: L) := Sat.wnew (T := tns) hs
theorem ActR.er {N : Int} {p : PlanA} {ops : OpL} {j : JSt} {d : DSt} {er : Int} {en : Bool} {out : Option MC} {tr2 : List TSt} {j2 : JSt} {d2 : DSt} {A : Option Addr} {c : Nat} (h : ActR N (re p A c) ops j d er en out tr2 j2 d2) : ActR N p ops j d er en out tr2 j2 d2 := by
  rcases h with ⟨h1, h2, h3, h4⟩ | h
  · exact .inl ⟨h1, h2, h3.er, ⟨h4.att, h4.ba, h4.out⟩⟩
  · exact .inr h
theorem KM_snoc (vs : List (MC × MP)) (m : MC) (q : MP) (l : List Value) (h : l = mcells m q) : KM.flat vs ++ l = KM.flat (vs ++ [(m, q)]) := by rw [El.flat_append, h, ← mcells_1]
set_option maxRecDepth 100000 in
set_option maxHeartbeats 4000000 in
theorem act_c (B w : World) (L : List Assn) (bw : Nat) (p : PlanA) (ops : OpL) (tr : List TSt) (j : JSt) (d : DSt) (sn : Nat) (N : Int) (hs : Sat B w (WA tns bw p ops tr false j d sn :: L)) (hr : Rd B p.oA p.on p.oc 3 (KOp.flat ops)) (hn : p.on ≤ 67108864) (hci : CI N p ops tr j d) (hN : N < 1099511627770) (hsn : sn ≤ 100000) (kd K : Int) (A1 : Option Addr) (n1 c1 : Nat) (ol : List Int) (hr1 : Rd B A1 n1 c1 1 (KI.flat ol)) (hn1 : n1 ≤ 9223372036854775807) :
    Calls Try.prog 18 [.pointer (some ⟨bw, 0, none⟩), .agg #[.int .i64 kd, .int .i64 K, .slice A1 n1 c1]].toArray w (Ret (fun v' w' => ∃ v out tr' j' d' n', v' = .tuple #[v, .bool true] ∧ Sat B w' (MO 41 3 v out :: WA tns bw p ops tr' false j' d' n' :: L) ∧ CI (N + 1) p ops tr' j' d' ∧ StepR p ops j.n j'.n out ∧ n' ≤ sn + 1 ∧ (kd = 1 → d.armed = false → ctick p ops tr false j d = (out, 0, tr', false, j', d')))) := by
  have hlens := hci.lens
  have hk0 := hci.nums
  unfold numsOk at hk0
  obtain ⟨bd, bc, bj, Ao, co, sA, sc, vs, hvs, hvl, hs⟩ := wopen19 hs
  unfold wcells at hs
  refine Zb Try.func18 rfl rfl rfl (Zs (Ls_box hs rfl rfl (fun b2 w1 hs => (Za rfl (Za rfl (Zt (Zm rfl (Zk rfl (Zf un31 inf28 rfl 9 rfl (Zl sc28 rfl (hs.blk_at 1 rfl 9 rfl) ?_))))))))))
  replace hs := hs.F2
  refine Zc fn12 rfl (cTries_c B w1 _ bc bd bj (re p Ao co) ops tr false hs (by omega) (fun t ht => by have := hlens.2 t ht; omega)) rfl ?_
  rintro v3 w4 ⟨vo, oA, oc, hvo, rfl, hs⟩
  replace hs := hs.triesK hvo
  have hvol : vo.length = tr.length := by rw [← hvo, List.length_map]
  refine Za rfl (Zt (Za rfl (Zt (Za rfl (Zj (St_seq (Zs (Zf un60 inf3 rfl 0 rfl (Zl sc3 rfl (hs.blk_at 2 rfl 0 rfl) (Zj (St_block (Zs (Zr (run_eql rfl rfl) rfl (Za rfl (Zj ?_)))))))))))))))
  obtain ⟨En5, hEn5⟩ := ex8 fun (v : Value) (out : Option MC) (er : Int) (en : Bool) (tr2 : List TSt) (j2 : JSt) (d2 : DSt) (n2 : Nat) => ([(0, .pointer (some ⟨bw, 0, none⟩)), (7, v), (8, .int .i64 er)] : Env)
  obtain ⟨Iv6, hIv6⟩ := ew8 fun (v : Value) (out : Option MC) (er : Int) (en : Bool) (tr2 : List TSt) (j2 : JSt) (d2 : DSt) (n2 : Nat) (w7 : World) => Sat B w7 (MO 41 3 v out :: WA tns bw p ops tr2 en j2 d2 n2 :: L) ∧ ActR N p ops j d er en out tr2 j2 d2 ∧ n2 ≤ sn + 1 ∧ (kd = 1 → ctick p ops tr false j d = (out, er, tr2, en, j2, d2))
  refine St_join En5 Iv6 ?_ ?_
  · refine St_ifP rfl (fun h8 => ?_) (fun h8 => ?_)
    · refine St_region (Zm rfl (Zk rfl (Zf un31 inf28 rfl 9 rfl (Zl sc28 rfl (hs.blk_at 3 rfl 9 rfl) ?_))))
      replace hs := hs.F5.F5.F3
      refine Zc fn11 rfl (cTick_c B w4 _ bc bd bj (re p Ao co) ops tr false j d hs (fun t ht => by have := hlens.2 t ht; omega) (by omega) (hci.re Ao co).ageLens hci.jo hci.rows (by show p.on ≤ _; omega)) rfl ?_
      rintro v9 w10 ⟨vt, rfl, hs⟩
      have hR := ((hci.re Ao co).tickR hN).er
      obtain ⟨⟨out, er, tr2, en, j2, d2⟩, ho⟩ : ∃ z, ctick (re p Ao co) ops tr false j d = z := ⟨_, rfl⟩
      rw [ho] at hs hR ⊢
      simp only at hs hR ⊢
      refine Zm rfl (Zr (run_extract rfl rfl) rfl (Zr (run_extract rfl rfl) rfl (Za rfl (Za rfl (Ls_nil ?_)))))
      replace hs := hs.F8.F8.F5.F5.F5.F8
      replace hs := wshut19 hvs hvl hs
      replace hs := hs.E2.E2.F1
      refine Jm_join (vt, out, er, en, tr2, j2, d2, sn) ?_ ?_
      · rw [hEn5]; exact sE ⟨rfl, rfl, rfl, trivial⟩
      rw [hIv6]
      exact ⟨hs, hR, by omega, fun _ => ho⟩
    refine St_seq (Zs (Zr (run_eql rfl rfl) rfl (Za rfl (Zj (St_ifPK rfl (fun h11 => ?_) (fun h11 => ?_))))))
    · refine St_skip (Zq (St_ift rfl (St_seq (Zs (Zm rfl (Zr (run_len un44 rfl) rfl (Zr (run_eql rfl rfl) rfl (Zj (St_ifP rfl (fun h13 => ?_) (fun h13 => ?_))))))))))
      · refine Zs (Za rfl (Za rfl (Zj (St_ret (Jm_then_ret (Jm_then_ret (Jm_block_ret (Jm_then_ret (Jm_ret2 rfl rfl rfl ?_)))))))))
        replace hs := hs.E0.E1.F5.F5.F5.F5.F4.F5
        replace hs := wshut19 hvs hvl hs
        exact ⟨_, rfl, _, none, tr, j, d, sn, rfl, hs.toMoNone, hci.mono (by omega), StepR.same _, by omega, fun q => by omega⟩
      refine St_skip (Zq (St_seq (St_hold (Hold.of (Ls := [_]) hs) mixed (fun w14 q15 => ?_))))
      replace hs := hs.quiet q15
      have hH := Hold.of (Ls := [_]) hs
      refine Ym hH 0 rfl (by kernel_rfl) rfl ?_
      obtain ⟨x0, hx0⟩ : ∃ z, vo.getD 0 T0 = z := ⟨_, rfl⟩
      have hx0m : x0 ∈ vo := by rw [← hx0]; exact getD_mem3 (by omega)
      have hx0t : x0.1 = tr.getD 0 T0.1 := by rw [← hx0, ← hvo, fst_getD]
      have hx0n : x0.1 ∈ tr := by rw [hx0t]; exact getD_mem3 (by omega)
      refine An_index 1  (KT) rfl (by kernel_rfl) (by kernel_rfl) (by kernel_rfl) (fun _ _ _ _ h => h) hH (fun x hx => ((hx.choose_spec.kept 0 rfl).1)) un44 inf43 rfl rfl (by omega) (by omega) hx0 rfl (fun b16 o17 hc18 => (Ya hH 2 rfl (by kernel_rfl) (fun x hx => run_as (run_load_agg agg43 inf43 rfl rfl (hc18 x hx)) (show _ = Value.agg #[.int .i64 x0.1.b, .int .i64 x0.1.a, .int .i64 x0.1.nd, .int .i64 x0.1.ph, .int .i64 x0.1.ti, .slice x0.2.fA x0.1.fr.length x0.2.fc, .slice x0.2.tA x0.1.to.length x0.2.tc] from rfl)) (Ym hH 3 rfl (by kernel_rfl) rfl (An_index 4  (KT) rfl (by kernel_rfl) (by kernel_rfl) (by kernel_rfl) (fun _ _ _ _ h => h) hH (fun x hx => ((hx.choose_spec.kept 0 rfl).1)) un44 inf43 rfl rfl (by omega) (by omega) hx0 rfl (fun b19 o20 hc21 => (Ya hH 5 rfl (by kernel_rfl) (fun x hx => run_field un43 rfl inf25 (by decide) rfl) (Ya hH 6 rfl (by kernel_rfl) (fun x hx => run_load sc25 rfl ((hc21 x hx) 6 _ rfl)) (An_two 7 8 (by kernel_rfl) rfl rfl ?_ ?_))))))))
      · refine Zc fn16 rfl (labout_c w14 8 x0 _ _ _) rfl ?_
        rintro v22 w23 ⟨rfl, hsF⟩
        replace hs := hs.T hsF
        replace hH := Hold.of (Ls := [_]) hs
        refine Ls_nil (Jm_An hH (An_only 8 (by kernel_rfl) rfl (Ls_alloc hs inf41 rfl (fun b25 w24 hs => ?_))))
        replace hs := hs.F1
        replace hH := Hold.of (Ls := [_]) hs
        refine Ls_nil (Jm_An hH (An_only 9 (by kernel_rfl) rfl ?_))
        replace hs := hs.F1
        refine Ls_storeAgg hs inf41 rfl rfl rfl rfl (by simp [Value.oneCell', Value.cells, mcells, tcells]) (fun w26 hs => ?_)
        replace hs := hs.F1
        replace hH := Hold.of (Ls := [_]) hs
        refine Ls_nil (Jm_An hH (An_done (by kernel_rfl) (Zq (St_seq (Zs (Zf un60 inf3 rfl 0 rfl (Zl sc3 rfl (hs.blk_at 3 rfl 0 rfl) (Zr (run_asB (c := true) (run_eql rfl rfl) (by rw [decide_eq_true_eq]; assumption)) rfl (Zj (St_ift rfl (Zs (Zm rfl (Zf un60 inf3 rfl 1 rfl (Zl sc3 rfl (hs.blk_at 3 rfl 1 rfl) ?_))))))))))))))
        obtain ⟨u, hu, hub⟩ := u64_nat' K
        have hul : u % vo.length < vo.length := Nat.mod_lt _ (by omega)
        refine Zr (run_conv_int un67 us3 rfl hu) rfl (Zm rfl (Zr (run_len un44 rfl) rfl (Zr (run_conv_int un67 us3 rfl (wu64 (by omega))) rfl (Zr (run_rem rfl rfl (by omega) (rem_nn' u vo.length)) rfl (Zr (run_conv_int un3 us67 rfl (w64 (by omega))) rfl ?_)))))
        obtain ⟨xi, hxi⟩ : ∃ z, vo.getD (u % vo.length) T0 = z := ⟨_, rfl⟩
        have hxim : xi ∈ vo := by rw [← hxi]; exact getD_mem3 hul
        have hxie : xi.1 = tr.getD (u % vo.length) T0.1 := by rw [← hxi, ← hvo, fst_getD]
        have hxit : xi.1 ∈ tr := by rw [hxie]; exact getD_mem3 (by omega)
        refine Ls_index (KT) ((hs.kept 0 rfl).1) un44 inf43 rfl rfl (by omega) (by omega) (show vo.getD ((u % vo.length : Nat) : Int).toNat T0 = xi from hxi) rfl (fun b28 o29 hc30 => (Zr (run_as (run_load_agg agg43 inf43 rfl rfl hc30) (show _ = Value.agg #[.int .i64 xi.1.b, .int .i64 xi.1.a, .int .i64 xi.1.nd, .int .i64 xi.1.ph, .int .i64 xi.1.ti, .slice xi.2.fA xi.1.fr.length xi.2.fc, .slice xi.2.tA xi.1.to.length xi.2.tc] from rfl)) rfl (Ls_alloc hs inf43 rfl (fun b32 w31 hs => (Ls_storeAgg hs inf43 rfl rfl rfl rfl (by simp [Value.oneCell', Value.cells, mcells, tcells]) (fun w33 hs => (Zj ?_)))))))
        replace hs := hs.F1.F4.F5.F3
        refine St_hold (Hold.of (Ls := [_, _, _, _]) hs) mixed (fun w34 q35 => ?_)
        replace hs := hs.quiet q35
        have hH := Hold.of (Ls := [_, _, _, _]) hs
        refine Ya hH 0 rfl (by kernel_rfl) (fun x hx => run_load_agg agg43 inf43 rfl rfl (hx.choose_spec.blk_cells 0 rfl 0 7)) (Ym hH 1 rfl (by kernel_rfl) rfl (Ya hH 2 rfl (by kernel_rfl) (fun x hx => run_nilCheck rfl) (Ya hH 3 rfl (by kernel_rfl) (fun x hx => run_fd un31 inf24 rfl 0 rfl) (Ya hH 4 rfl (by kernel_rfl) (fun x hx => run_load_agg agg24 inf24 rfl rfl (hx.choose_spec.blk_cells 1 rfl 0 8)) (Ya hH 5 rfl (by kernel_rfl) (fun x hx => run_fd un43 inf25 rfl 5 rfl) (Ya hH 6 rfl (by kernel_rfl) (fun x hx => run_load sc25 rfl (hx.choose_spec.blk_at 0 rfl 5 rfl)) (Ya hH 7 rfl (by kernel_rfl) (fun x hx => run_fd un60 inf25 rfl 2 rfl) (Ya hH 8 rfl (by kernel_rfl) (fun x hx => run_load sc25 rfl (hx.choose_spec.blk_at 2 rfl 2 rfl)) (An_only 9 (by kernel_rfl) rfl ?_)))))))))
        obtain ⟨mb, hmb⟩ : ∃ z : Nat, p.ba + 1 = (z : Int) := ⟨(p.ba + 1).toNat, by omega⟩
        refine Zc fn14 rfl (onward_c w34 p xi.2.fA xi.2.fc xi.1.fr (((hs.kept 3 rfl).2 _ hxim).1) A1 n1 c1 ol (hr1.inB hs) hn1 mb hmb (by omega) (by have := hlens.2 xi.1 hxit; omega) (fun y hy => (hlens.2 xi.1 hxit).2.2.1 y hy)) rfl ?_
        rintro v36 w37 ⟨xs, eA, eC, hxo, rfl, hsO⟩
        replace hs := hs.T hsO
        have hxl : xs.length = xi.1.fr.length := hxo.1
        replace hs := hs.F4.F4.F4.F4
        replace hH := Hold.of (Ls := [_, _, _, _]) hs
        refine Ls_nil (Jm_An hH (An_only 10 (by kernel_rfl) rfl (Zc fn16 rfl (labout_c w37 2 xi _ _ _) rfl ?_)))
        rintro v38 w39 ⟨rfl, hsF⟩
        replace hs := hs.T hsF
        replace hs := hs.F3.F3.F3.F3
        replace hH := Hold.of (Ls := [_, _, _, _]) hs
        refine Ls_nil (Jm_An hH (An_only 11 (by kernel_rfl) rfl ?_))
        replace hs := hs.F5
        refine Ls_storeAgg hs inf41 rfl rfl rfl rfl (by simp [Value.oneCell', Value.cells, mcells, tcells]) (fun w40 hs => ?_)
        replace hs := hs.F4.F4.F4.F4
        replace hH := Hold.of (Ls := [_, _, _, _]) hs
        refine Ls_nil (Jm_An hH (An_done (by kernel_rfl) (Zq (St_seq (Zs (Zf un41 inf25 rfl 6 rfl (Zl sc25 rfl (hs.blk_at 4 rfl 6 rfl) ?_)))))))
        have hfr := (hci.ts.ends (note_eb hci.jo.1).1 (u % vo.length) (by omega)).1
        have hk2 := hci.nums
        unfold numsOk at hk2
        rw [← hxie] at hfr
        have hfl := hfr.1
        rw [hci.jp] at hfl
        have hes4 : xs.length ≤ 4 := by omega
        have hsnt : Msound (aboutT 2 xi.1 xs) := by rw [hxie]; exact hci.about hN (by omega) (.inl rfl) (onw_facts hxo hfr).1
        refine Zr (run_len un25 rfl) rfl (Zr (run_asB (c := false) (run_eql rfl rfl) (decide_eq_false (by omega))) rfl (Zj (St_iff rfl (St_skip (Zq (St_seq ?_))))))
        replace hs := hs.F4.F2
        refine St_holdC 10 (Hold.of (Ls := [_, _]) hs) mixed (fun w42 q43 => ?_)
        replace hs := hs.quiet q43
        have hH := Hold.of (Ls := [_, _]) hs
        refine Yr (fun _ => hH) 0 rfl (by kernel_rfl) (fun x => run_move rfl) (Yr (fun _ => hH) 1 rfl (by kernel_rfl) (fun x => run_move rfl) (Yr (fun _ => hH) 2 rfl (by kernel_rfl) (fun x => run_nilCheck rfl) (Yr (fun _ => hH) 3 rfl (by kernel_rfl) (fun x => run_fd un31 inf29 rfl 10 rfl) (Yd hH 4 [10, 4] rfl (by kernel_rfl) (fun x hx => run_load sc29 rfl (hx.choose_spec.blk_at 0 rfl 10 rfl)) (Yd hH 5 [10, 5] rfl (by kernel_rfl) (fun x hx => run_load_agg agg41 inf41 rfl rfl (hx.choose_spec.blk_cells 1 rfl 0 9)) (AnC_only 6 (by kernel_rfl) rfl (Ls_literal [_] hs un29 inf41 rfl rfl rfl rfl rfl rfl (fun b44 w45 hs => ?_))))))))
        simp only [List.flatMap_cons, List.flatMap_nil, Value.cells, List.cons_append, List.nil_append] at hs
        replace hs := hs.F2.F2
        replace hH := Hold.of (Ls := [_, _]) hs
        refine Ls_nil (Jm_AnC (fun _ => hH) (AnC_only 7 (by kernel_rfl) rfl ?_))
        replace hs := hs.F10
        refine Ls_append hs un29 inf41 rfl (by decide) (by decide) rfl rfl (rd_block (hs.is_at 3 rfl).2 9 1 rfl) (by simp [Value.oneCell', mcells]) (by omega) rfl (fun A46 c47 w48 hs => ?_)
        replace hs := hs.E3
        rw [← hxl] at hs ⊢
        rw [KM_snoc vs (aboutT 2 xi.1 xs) (⟨eA, xs.length, eC, none, 0, 0, none, 0, 0⟩ : MP) _ (by simp [mcells, aboutT])] at hs
        obtain ⟨v2, hv2⟩ : ∃ z, vs ++ [(aboutT 2 xi.1 xs, (⟨eA, xs.length, eC, none, 0, 0, none, 0, 0⟩ : MP))] = z := ⟨_, rfl⟩
        have hl2 : vs.length + 1 = v2.length := by rw [← hv2]; simp
        rw [hv2, hl2] at hs
        rw [hl2]
        have hmem : (aboutT 2 xi.1 xs, (⟨eA, xs.length, eC, none, 0, 0, none, 0, 0⟩ : MP)) ∈ v2 := by rw [← hv2]; simp
        replace hs := hs.F2.F2
        replace hH := Hold.of (Ls := [_, _]) hs
        refine Ls_nil (Jm_AnC (fun _ => hH) (Yr (fun _ => hH) 8 rfl (by kernel_rfl) (fun x => run_nilCheck rfl) (Yr (fun _ => hH) 9 rfl (by kernel_rfl) (fun x => run_fd un31 inf29 rfl 10 rfl) (AnC_only 10 (by kernel_rfl) rfl (Ls_store hs inf29 rfl rfl rfl rfl (fun w49 hs => ?_))))))
        try simp only [List.set_cons_zero, List.set_cons_succ] at hs
        refine Ls_nil (Jm_AnC_closed (by kernel_rfl) (AnC_done (by kernel_rfl) (Zq ?_)))
        replace hs := hs.F1.F1
        refine St_hold (Hold.of (Ls := [_, _]) hs) mixed (fun w50 q51 => ?_)
        replace hs := hs.quiet q51
        have hH := Hold.of (Ls := [_, _]) hs
        refine Ym hH 0 rfl (by kernel_rfl) rfl (Ya hH 1 rfl (by kernel_rfl) (fun x hx => run_nilCheck rfl) (Ya hH 2 rfl (by kernel_rfl) (fun x hx => run_fd un31 inf28 rfl 9 rfl) (Ya hH 3 rfl (by kernel_rfl) (fun x hx => run_load sc28 rfl (hx.choose_spec.blk_at 0 rfl 9 rfl)) (Ya hH 4 rfl (by kernel_rfl) (fun x hx => run_load_agg agg41 inf41 rfl rfl (hx.choose_spec.blk_cells 1 rfl 0 9)) (An_only 5 (by kernel_rfl) rfl ?_)))))
        replace hs := hs.F10.F7
        replace hs := hs.ownKeep (H := SK v2) (fun w h1 h2 => hv2 ▸ h2.add (msg_of (t := xi.1) (k := 2) h1))
        replace hs := hs.F9.F9.F9
        have hms := hsnt
        refine Zc fn15 rfl (cTake_c B w50 _ bc bd bj (re p Ao co) ops tr false j d hs hci.jo hci.rows (aboutT 2 xi.1 xs) (⟨eA, xs.length, eC, none, 0, 0, none, 0, 0⟩ : MP) (fun w' X z => (z.kept 1 rfl) _ hmem) rfl (by refine ⟨?_, ?_, ?_⟩ <;> simp only <;> omega) (by omega) (fun t ht => by have := hlens.2 t ht; omega) (fun t ht => by have := hlens.2 t ht; exact ⟨by omega, this.2.2.1⟩)) rfl ?_
        rintro v52 w53 ⟨vt, rfl, hs⟩
        have hR := ((hci.re Ao co).takeR hN hms rfl (.inl rfl)).er
        obtain ⟨⟨out, er, tr2, en, j2, d2⟩, ho⟩ : ∃ z, ctake (re p Ao co) tr false j d (aboutT 2 xi.1 xs) = z := ⟨_, rfl⟩
        rw [ho] at hs hR ⊢
        simp only at hs hR ⊢
        have hvs2 : ∀ x ∈ v2, MSent x := hv2 ▸ MSent.add hvs ⟨⟨rfl, hes4, rfl, rfl⟩, hms, rfl, .inl rfl⟩
        replace hs := hs.F6.F6
        replace hH := Hold.of (Ls := [_, _]) hs
        refine Ls_nil (Jm_An hH (Ym hH 6 rfl (by kernel_rfl) rfl (Ya hH 7 rfl (by kernel_rfl) (fun x hx => run_extract rfl rfl) (Ya hH 8 rfl (by kernel_rfl) (fun x hx => run_extract rfl rfl) (Ya hH 9 rfl (by kernel_rfl) (fun x hx => run_assign rfl) (Ya hH 10 rfl (by kernel_rfl) (fun x hx => run_assign rfl) (An_done (by kernel_rfl) ?_)))))))
        replace hvl : v2.length ≤ sn + 1 := by omega
        clear hvs
        have hvs := hvs2
        replace hs := hs.F6.F7.F7.F7.F7.F5
        replace hs := wshut19 hvs hvl hs
        replace hs := hs.E1.E2.E2.E2.F1
        refine Jm_join (vt, out, er, en, tr2, j2, d2, sn + 1) ?_ ?_
        · rw [hEn5]; exact sE ⟨rfl, rfl, rfl, trivial⟩
        rw [hIv6]
        exact ⟨hs, hR, by omega, fun q => by omega⟩
      refine Ls_alloc hs inf41 rfl (fun b55 w54 hs => ?_)
      replace hs := hs.F1
      replace hH := Hold.of (Ls := [_]) hs
      refine Ls_nil (Jm_An hH (An_only 7 (by kernel_rfl) rfl (Zc fn16 rfl (labout_c w54 8 x0 _ _ _) rfl ?_)))
      rintro v56 w57 ⟨rfl, hsF⟩
      replace hs := hs.T hsF
      replace hH := Hold.of (Ls := [_]) hs
      refine Ls_nil (Jm_An hH (An_only 9 (by kernel_rfl) rfl ?_))
      replace hs := hs.F1
      refine Ls_storeAgg hs inf41 rfl rfl rfl rfl (by simp [Value.oneCell', Value.cells, mcells, tcells]) (fun w58 hs => ?_)
      replace hs := hs.F1
      replace hH := Hold.of (Ls := [_]) hs
      refine Ls_nil (Jm_An hH (An_done (by kernel_rfl) (Zq (St_seq (Zs (Zf un60 inf3 rfl 0 rfl (Zl sc3 rfl (hs.blk_at 3 rfl 0 rfl) (Zr (run_asB (c := true) (run_eql rfl rfl) (by rw [decide_eq_true_eq]; assumption)) rfl (Zj (St_ift rfl (Zs (Zm rfl (Zf un60 inf3 rfl 1 rfl (Zl sc3 rfl (hs.blk_at 3 rfl 1 rfl) ?_))))))))))))))
      obtain ⟨u, hu, hub⟩ := u64_nat' K
      have hul : u % vo.length < vo.length := Nat.mod_lt _ (by omega)
      refine Zr (run_conv_int un67 us3 rfl hu) rfl (Zm rfl (Zr (run_len un44 rfl) rfl (Zr (run_conv_int un67 us3 rfl (wu64 (by omega))) rfl (Zr (run_rem rfl rfl (by omega) (rem_nn' u vo.length)) rfl (Zr (run_conv_int un3 us67 rfl (w64 (by omega))) rfl ?_)))))
      obtain ⟨xi, hxi⟩ : ∃ z, vo.getD (u % vo.length) T0 = z := ⟨_, rfl⟩
      have hxim : xi ∈ vo := by rw [← hxi]; exact getD_mem3 hul
      have hxie : xi.1 = tr.getD (u % vo.length) T0.1 := by rw [← hxi, ← hvo, fst_getD]
      have hxit : xi.1 ∈ tr := by rw [hxie]; exact getD_mem3 (by omega)
      refine Ls_index (KT) ((hs.kept 0 rfl).1) un44 inf43 rfl rfl (by omega) (by omega) (show vo.getD ((u % vo.length : Nat) : Int).toNat T0 = xi from hxi) rfl (fun b60 o61 hc62 => (Zr (run_as (run_load_agg agg43 inf43 rfl rfl hc62) (show _ = Value.agg #[.int .i64 xi.1.b, .int .i64 xi.1.a, .int .i64 xi.1.nd, .int .i64 xi.1.ph, .int .i64 xi.1.ti, .slice xi.2.fA xi.1.fr.length xi.2.fc, .slice xi.2.tA xi.1.to.length xi.2.tc] from rfl)) rfl (Ls_alloc hs inf43 rfl (fun b64 w63 hs => (Ls_storeAgg hs inf43 rfl rfl rfl rfl (by simp [Value.oneCell', Value.cells, mcells, tcells]) (fun w65 hs => (Zj ?_)))))))
      replace hs := hs.F1.F4.F5.F3
      refine St_hold (Hold.of (Ls := [_, _, _, _]) hs) mixed (fun w66 q67 => ?_)
      replace hs := hs.quiet q67
      have hH := Hold.of (Ls := [_, _, _, _]) hs
      refine Ya hH 0 rfl (by kernel_rfl) (fun x hx => run_load_agg agg43 inf43 rfl rfl (hx.choose_spec.blk_cells 0 rfl 0 7)) (Ym hH 1 rfl (by kernel_rfl) rfl (Ya hH 2 rfl (by kernel_rfl) (fun x hx => run_nilCheck rfl) (Ya hH 3 rfl (by kernel_rfl) (fun x hx => run_fd un31 inf24 rfl 0 rfl) (Ya hH 4 rfl (by kernel_rfl) (fun x hx => run_load_agg agg24 inf24 rfl rfl (hx.choose_spec.blk_cells 1 rfl 0 8)) (Ya hH 5 rfl (by kernel_rfl) (fun x hx => run_fd un43 inf25 rfl 5 rfl) (Ya hH 6 rfl (by kernel_rfl) (fun x hx => run_load sc25 rfl (hx.choose_spec.blk_at 0 rfl 5 rfl)) (Ya hH 7 rfl (by kernel_rfl) (fun x hx => run_fd un60 inf25 rfl 2 rfl) (Ya hH 8 rfl (by kernel_rfl) (fun x hx => run_load sc25 rfl (hx.choose_spec.blk_at 2 rfl 2 rfl)) (An_only 9 (by kernel_rfl) rfl ?_)))))))))
      obtain ⟨mb, hmb⟩ : ∃ z : Nat, p.ba + 1 = (z : Int) := ⟨(p.ba + 1).toNat, by omega⟩
      refine Zc fn14 rfl (onward_c w66 p xi.2.fA xi.2.fc xi.1.fr (((hs.kept 3 rfl).2 _ hxim).1) A1 n1 c1 ol (hr1.inB hs) hn1 mb hmb (by omega) (by have := hlens.2 xi.1 hxit; omega) (fun y hy => (hlens.2 xi.1 hxit).2.2.1 y hy)) rfl ?_
      rintro v68 w69 ⟨xs, eA, eC, hxo, rfl, hsO⟩
      replace hs := hs.T hsO
      have hxl : xs.length = xi.1.fr.length := hxo.1
      replace hs := hs.F4.F4.F4.F4
      replace hH := Hold.of (Ls := [_, _, _, _]) hs
      refine Ls_nil (Jm_An hH (An_only 10 (by kernel_rfl) rfl (Zc fn16 rfl (labout_c w69 2 xi _ _ _) rfl ?_)))
      rintro v70 w71 ⟨rfl, hsF⟩
      replace hs := hs.T hsF
      replace hs := hs.F3.F3.F3.F3
      replace hH := Hold.of (Ls := [_, _, _, _]) hs
      refine Ls_nil (Jm_An hH (An_only 11 (by kernel_rfl) rfl ?_))
      replace hs := hs.F5
      refine Ls_storeAgg hs inf41 rfl rfl rfl rfl (by simp [Value.oneCell', Value.cells, mcells, tcells]) (fun w72 hs => ?_)
      replace hs := hs.F4.F4.F4.F4
      replace hH := Hold.of (Ls := [_, _, _, _]) hs
      refine Ls_nil (Jm_An hH (An_done (by kernel_rfl) (Zq (St_seq (Zs (Zf un41 inf25 rfl 6 rfl (Zl sc25 rfl (hs.blk_at 4 rfl 6 rfl) ?_)))))))
      have hfr := (hci.ts.ends (note_eb hci.jo.1).1 (u % vo.length) (by omega)).1
      have hk2 := hci.nums
      unfold numsOk at hk2
      rw [← hxie] at hfr
      have hfl := hfr.1
      rw [hci.jp] at hfl
      have hes4 : xs.length ≤ 4 := by omega
      have hsnt : Msound (aboutT 2 xi.1 xs) := by rw [hxie]; exact hci.about hN (by omega) (.inl rfl) (onw_facts hxo hfr).1
      refine Zr (run_len un25 rfl) rfl (Zr (run_asB (c := false) (run_eql rfl rfl) (decide_eq_false (by omega))) rfl (Zj (St_iff rfl (St_skip (Zq (St_seq ?_))))))
      replace hs := hs.F4.F2
      refine St_holdC 10 (Hold.of (Ls := [_, _]) hs) mixed (fun w74 q75 => ?_)
      replace hs := hs.quiet q75
      have hH := Hold.of (Ls := [_, _]) hs
      refine Yr (fun _ => hH) 0 rfl (by kernel_rfl) (fun x => run_move rfl) (Yr (fun _ => hH) 1 rfl (by kernel_rfl) (fun x => run_move rfl) (Yr (fun _ => hH) 2 rfl (by kernel_rfl) (fun x => run_nilCheck rfl) (Yr (fun _ => hH) 3 rfl (by kernel_rfl) (fun x => run_fd un31 inf29 rfl 10 rfl) (Yd hH 4 [10, 4] rfl (by kernel_rfl) (fun x hx => run_load sc29 rfl (hx.choose_spec.blk_at 0 rfl 10 rfl)) (Yd hH 5 [10, 5] rfl (by kernel_rfl) (fun x hx => run_load_agg agg41 inf41 rfl rfl (hx.choose_spec.blk_cells 1 rfl 0 9)) (AnC_only 6 (by kernel_rfl) rfl (Ls_literal [_] hs un29 inf41 rfl rfl rfl rfl rfl rfl (fun b76 w77 hs => ?_))))))))
      simp only [List.flatMap_cons, List.flatMap_nil, Value.cells, List.cons_append, List.nil_append] at hs
      replace hs := hs.F2.F2
      replace hH := Hold.of (Ls := [_, _]) hs
      refine Ls_nil (Jm_AnC (fun _ => hH) (AnC_only 7 (by kernel_rfl) rfl ?_))
      replace hs := hs.F10
      refine Ls_append hs un29 inf41 rfl (by decide) (by decide) rfl rfl (rd_block (hs.is_at 3 rfl).2 9 1 rfl) (by simp [Value.oneCell', mcells]) (by omega) rfl (fun A78 c79 w80 hs => ?_)
      replace hs := hs.E3
      rw [← hxl] at hs ⊢
      rw [KM_snoc vs (aboutT 2 xi.1 xs) (⟨eA, xs.length, eC, none, 0, 0, none, 0, 0⟩ : MP) _ (by simp [mcells, aboutT])] at hs
      obtain ⟨v2, hv2⟩ : ∃ z, vs ++ [(aboutT 2 xi.1 xs, (⟨eA, xs.length, eC, none, 0, 0, none, 0, 0⟩ : MP))] = z := ⟨_, rfl⟩
      have hl2 : vs.length + 1 = v2.length := by rw [← hv2]; simp
      rw [hv2, hl2] at hs
      rw [hl2]
      have hmem : (aboutT 2 xi.1 xs, (⟨eA, xs.length, eC, none, 0, 0, none, 0, 0⟩ : MP)) ∈ v2 := by rw [← hv2]; simp
      replace hs := hs.F2.F2
      replace hH := Hold.of (Ls := [_, _]) hs
      refine Ls_nil (Jm_AnC (fun _ => hH) (Yr (fun _ => hH) 8 rfl (by kernel_rfl) (fun x => run_nilCheck rfl) (Yr (fun _ => hH) 9 rfl (by kernel_rfl) (fun x => run_fd un31 inf29 rfl 10 rfl) (AnC_only 10 (by kernel_rfl) rfl (Ls_store hs inf29 rfl rfl rfl rfl (fun w81 hs => ?_))))))
      try simp only [List.set_cons_zero, List.set_cons_succ] at hs
      refine Ls_nil (Jm_AnC_closed (by kernel_rfl) (AnC_done (by kernel_rfl) (Zq ?_)))
      replace hs := hs.F1.F1
      refine St_hold (Hold.of (Ls := [_, _]) hs) mixed (fun w82 q83 => ?_)
      replace hs := hs.quiet q83
      have hH := Hold.of (Ls := [_, _]) hs
      refine Ym hH 0 rfl (by kernel_rfl) rfl (Ya hH 1 rfl (by kernel_rfl) (fun x hx => run_nilCheck rfl) (Ya hH 2 rfl (by kernel_rfl) (fun x hx => run_fd un31 inf28 rfl 9 rfl) (Ya hH 3 rfl (by kernel_rfl) (fun x hx => run_load sc28 rfl (hx.choose_spec.blk_at 0 rfl 9 rfl)) (Ya hH 4 rfl (by kernel_rfl) (fun x hx => run_load_agg agg41 inf41 rfl rfl (hx.choose_spec.blk_cells 1 rfl 0 9)) (An_only 5 (by kernel_rfl) rfl ?_)))))
      replace hs := hs.F10.F7
      replace hs := hs.ownKeep (H := SK v2) (fun w h1 h2 => hv2 ▸ h2.add (msg_of (t := xi.1) (k := 2) h1))
      replace hs := hs.F9.F9.F9
      have hms := hsnt
      refine Zc fn15 rfl (cTake_c B w82 _ bc bd bj (re p Ao co) ops tr false j d hs hci.jo hci.rows (aboutT 2 xi.1 xs) (⟨eA, xs.length, eC, none, 0, 0, none, 0, 0⟩ : MP) (fun w' X z => (z.kept 1 rfl) _ hmem) rfl (by refine ⟨?_, ?_, ?_⟩ <;> simp only <;> omega) (by omega) (fun t ht => by have := hlens.2 t ht; omega) (fun t ht => by have := hlens.2 t ht; exact ⟨by omega, this.2.2.1⟩)) rfl ?_
      rintro v84 w85 ⟨vt, rfl, hs⟩
      have hR := ((hci.re Ao co).takeR hN hms rfl (.inl rfl)).er
      obtain ⟨⟨out, er, tr2, en, j2, d2⟩, ho⟩ : ∃ z, ctake (re p Ao co) tr false j d (aboutT 2 xi.1 xs) = z := ⟨_, rfl⟩
      rw [ho] at hs hR ⊢
      simp only at hs hR ⊢
      have hvs2 : ∀ x ∈ v2, MSent x := hv2 ▸ MSent.add hvs ⟨⟨rfl, hes4, rfl, rfl⟩, hms, rfl, .inl rfl⟩
      replace hs := hs.F6.F6
      replace hH := Hold.of (Ls := [_, _]) hs
      refine Ls_nil (Jm_An hH (Ym hH 6 rfl (by kernel_rfl) rfl (Ya hH 7 rfl (by kernel_rfl) (fun x hx => run_extract rfl rfl) (Ya hH 8 rfl (by kernel_rfl) (fun x hx => run_extract rfl rfl) (Ya hH 9 rfl (by kernel_rfl) (fun x hx => run_assign rfl) (Ya hH 10 rfl (by kernel_rfl) (fun x hx => run_assign rfl) (An_done (by kernel_rfl) ?_)))))))
      replace hvl : v2.length ≤ sn + 1 := by omega
      clear hvs
      have hvs := hvs2
      replace hs := hs.F6.F7.F7.F7.F7.F5
      replace hs := wshut19 hvs hvl hs
      replace hs := hs.E1.E2.E2.E2.F1
      refine Jm_join (vt, out, er, en, tr2, j2, d2, sn + 1) ?_ ?_
      · rw [hEn5]; exact sE ⟨rfl, rfl, rfl, trivial⟩
      rw [hIv6]
      exact ⟨hs, hR, by omega, fun q => by omega⟩
    refine St_region (Zr (run_eql rfl rfl) rfl (Za rfl (Zj (St_ifPK rfl (fun h86 => ?_) (fun h86 => ?_)))))
    · refine St_seq (Zs (Zm rfl (Zr (run_len un44 rfl) rfl (Zr (run_eql rfl rfl) rfl (Zj (St_ifP rfl (fun h87 => ?_) (fun h87 => ?_)))))))
      · refine Zs (Za rfl (Za rfl (Zj (St_ret (Jm_then_ret (Jm_then_ret (Jm_block_ret (Jm_then_ret (Jm_ret2 rfl rfl rfl ?_)))))))))
        replace hs := hs.E0.E1.F5.F5.F5.F5.F4.F5
        replace hs := wshut19 hvs hvl hs
        exact ⟨_, rfl, _, none, tr, j, d, sn, rfl, hs.toMoNone, hci.mono (by omega), StepR.same _, by omega, fun q => by omega⟩
      refine St_skip (Zq (St_seq (St_hold (Hold.of (Ls := [_]) hs) mixed (fun w88 q89 => ?_))))
      replace hs := hs.quiet q89
      have hH := Hold.of (Ls := [_]) hs
      refine Ym hH 0 rfl (by kernel_rfl) rfl ?_
      obtain ⟨x0, hx0⟩ : ∃ z, vo.getD 0 T0 = z := ⟨_, rfl⟩
      have hx0m : x0 ∈ vo := by rw [← hx0]; exact getD_mem3 (by omega)
      have hx0t : x0.1 = tr.getD 0 T0.1 := by rw [← hx0, ← hvo, fst_getD]
      have hx0n : x0.1 ∈ tr := by rw [hx0t]; exact getD_mem3 (by omega)
      refine An_index 1  (KT) rfl (by kernel_rfl) (by kernel_rfl) (by kernel_rfl) (fun _ _ _ _ h => h) hH (fun x hx => ((hx.choose_spec.kept 0 rfl).1)) un44 inf43 rfl rfl (by omega) (by omega) hx0 rfl (fun b90 o91 hc92 => (Ya hH 2 rfl (by kernel_rfl) (fun x hx => run_as (run_load_agg agg43 inf43 rfl rfl (hc92 x hx)) (show _ = Value.agg #[.int .i64 x0.1.b, .int .i64 x0.1.a, .int .i64 x0.1.nd, .int .i64 x0.1.ph, .int .i64 x0.1.ti, .slice x0.2.fA x0.1.fr.length x0.2.fc, .slice x0.2.tA x0.1.to.length x0.2.tc] from rfl)) (Ym hH 3 rfl (by kernel_rfl) rfl (An_index 4  (KT) rfl (by kernel_rfl) (by kernel_rfl) (by kernel_rfl) (fun _ _ _ _ h => h) hH (fun x hx => ((hx.choose_spec.kept 0 rfl).1)) un44 inf43 rfl rfl (by omega) (by omega) hx0 rfl (fun b93 o94 hc95 => (Ya hH 5 rfl (by kernel_rfl) (fun x hx => run_field un43 rfl inf25 (by decide) rfl) (Ya hH 6 rfl (by kernel_rfl) (fun x hx => run_load sc25 rfl ((hc95 x hx) 6 _ rfl)) (An_two 7 8 (by kernel_rfl) rfl rfl ?_ ?_))))))))
      · refine Zc fn16 rfl (labout_c w88 8 x0 _ _ _) rfl ?_
        rintro v96 w97 ⟨rfl, hsF⟩
        replace hs := hs.T hsF
        replace hH := Hold.of (Ls := [_]) hs
        refine Ls_nil (Jm_An hH (An_only 8 (by kernel_rfl) rfl (Ls_alloc hs inf41 rfl (fun b99 w98 hs => ?_))))
        replace hs := hs.F1
        replace hH := Hold.of (Ls := [_]) hs
        refine Ls_nil (Jm_An hH (An_only 9 (by kernel_rfl) rfl ?_))
        replace hs := hs.F1
        refine Ls_storeAgg hs inf41 rfl rfl rfl rfl (by simp [Value.oneCell', Value.cells, mcells, tcells]) (fun w100 hs => ?_)
        replace hs := hs.F1
        replace hH := Hold.of (Ls := [_]) hs
        refine Ls_nil (Jm_An hH (An_done (by kernel_rfl) (Zq (St_seq (Zs (Zf un60 inf3 rfl 0 rfl (Zl sc3 rfl (hs.blk_at 3 rfl 0 rfl) (Zr (run_asB (c := false) (run_eql rfl rfl) (by rw [decide_eq_false_iff_not]; assumption)) rfl (Zj (St_iff rfl (St_skip (Zq (St_seq (Zs (Zf un41 inf25 rfl 6 rfl (Zl sc25 rfl (hs.blk_at 1 rfl 6 rfl) (Zr (run_len un25 rfl) rfl (Zr (run_eql rfl rfl) rfl (Zj (St_ifP rfl (fun h102 => ?_) (fun h102 => ?_)))))))))))))))))))))
        · refine Zs (Za rfl (Za rfl (Zj (St_ret (Jm_then_ret (Jm_then_ret (Jm_block_ret (Jm_then_ret (Jm_ret2 rfl rfl rfl ?_)))))))))
          replace hs := hs.E0.E0.E1.F5.F5.F5.F5.F4.F5
          replace hs := wshut19 hvs hvl hs
          exact ⟨_, rfl, _, none, tr, j, d, sn, rfl, hs.toMoNone, hci.mono (by omega), StepR.same _, by omega, fun q => by omega⟩
        have hes4 : x0.1.to.length ≤ 4 := (hlens.2 _ hx0n).2.1
        have hph : (tr.getD 0 T0.1).ph ≠ 1 := fun q => by have h9 := ((hci.ts.at_ 0 (by omega)).rd q).2; rw [← hx0t] at h9; rw [h9] at h102; exact h102 (by simp)
        have hsnt : Msound (aboutT 8 x0.1 x0.1.to) := by rw [hx0t]; exact hci.about hN (by omega) (.inr rfl) ((hci.ts.ends (note_eb hci.jo.1).1 0 (by omega)).2 hph)
        refine St_skip (Zq (St_seq ?_))
        replace hs := hs.F1.F4
        refine St_holdC 10 (Hold.of (Ls := [_, _]) hs) mixed (fun w103 q104 => ?_)
        replace hs := hs.quiet q104
        have hH := Hold.of (Ls := [_, _]) hs
        refine Yr (fun _ => hH) 0 rfl (by kernel_rfl) (fun x => run_move rfl) (Yr (fun _ => hH) 1 rfl (by kernel_rfl) (fun x => run_move rfl) (Yr (fun _ => hH) 2 rfl (by kernel_rfl) (fun x => run_nilCheck rfl) (Yr (fun _ => hH) 3 rfl (by kernel_rfl) (fun x => run_fd un31 inf29 rfl 10 rfl) (Yd hH 4 [10, 4] rfl (by kernel_rfl) (fun x hx => run_load sc29 rfl (hx.choose_spec.blk_at 0 rfl 10 rfl)) (Yd hH 5 [10, 5] rfl (by kernel_rfl) (fun x hx => run_load_agg agg41 inf41 rfl rfl (hx.choose_spec.blk_cells 1 rfl 0 9)) (AnC_only 6 (by kernel_rfl) rfl (Ls_literal [_] hs un29 inf41 rfl rfl rfl rfl rfl rfl (fun b105 w106 hs => ?_))))))))
        simp only [List.flatMap_cons, List.flatMap_nil, Value.cells, List.cons_append, List.nil_append] at hs
        replace hs := hs.F2.F2
        replace hH := Hold.of (Ls := [_, _]) hs
        refine Ls_nil (Jm_AnC (fun _ => hH) (AnC_only 7 (by kernel_rfl) rfl ?_))
        replace hs := hs.F8
        refine Ls_append hs un29 inf41 rfl (by decide) (by decide) rfl rfl (rd_block (hs.is_at 3 rfl).2 9 1 rfl) (by simp [Value.oneCell', mcells]) (by omega) rfl (fun A107 c108 w109 hs => ?_)
        replace hs := hs.E3
        rw [KM_snoc vs (aboutT 8 x0.1 x0.1.to) (⟨x0.2.tA, x0.1.to.length, x0.2.tc, none, 0, 0, none, 0, 0⟩ : MP) _ (by simp [mcells, aboutT])] at hs
        obtain ⟨v2, hv2⟩ : ∃ z, vs ++ [(aboutT 8 x0.1 x0.1.to, (⟨x0.2.tA, x0.1.to.length, x0.2.tc, none, 0, 0, none, 0, 0⟩ : MP))] = z := ⟨_, rfl⟩
        have hl2 : vs.length + 1 = v2.length := by rw [← hv2]; simp
        rw [hv2, hl2] at hs
        rw [hl2]
        have hmem : (aboutT 8 x0.1 x0.1.to, (⟨x0.2.tA, x0.1.to.length, x0.2.tc, none, 0, 0, none, 0, 0⟩ : MP)) ∈ v2 := by rw [← hv2]; simp
        replace hs := hs.F2.F2
        replace hH := Hold.of (Ls := [_, _]) hs
        refine Ls_nil (Jm_AnC (fun _ => hH) (Yr (fun _ => hH) 8 rfl (by kernel_rfl) (fun x => run_nilCheck rfl) (Yr (fun _ => hH) 9 rfl (by kernel_rfl) (fun x => run_fd un31 inf29 rfl 10 rfl) (AnC_only 10 (by kernel_rfl) rfl (Ls_store hs inf29 rfl rfl rfl rfl (fun w110 hs => ?_))))))
        try simp only [List.set_cons_zero, List.set_cons_succ] at hs
        refine Ls_nil (Jm_AnC_closed (by kernel_rfl) (AnC_done (by kernel_rfl) (Zq ?_)))
        replace hs := hs.F1.F1
        refine St_hold (Hold.of (Ls := [_, _]) hs) mixed (fun w111 q112 => ?_)
        replace hs := hs.quiet q112
        have hH := Hold.of (Ls := [_, _]) hs
        refine Ym hH 0 rfl (by kernel_rfl) rfl (Ya hH 1 rfl (by kernel_rfl) (fun x hx => run_nilCheck rfl) (Ya hH 2 rfl (by kernel_rfl) (fun x hx => run_fd un31 inf28 rfl 9 rfl) (Ya hH 3 rfl (by kernel_rfl) (fun x hx => run_load sc28 rfl (hx.choose_spec.blk_at 0 rfl 9 rfl)) (Ya hH 4 rfl (by kernel_rfl) (fun x hx => run_load_agg agg41 inf41 rfl rfl (hx.choose_spec.blk_cells 1 rfl 0 9)) (An_only 5 (by kernel_rfl) rfl ?_)))))
        replace hs := hs.F8.F4
        replace hs := hs.keep2 (H := SK v2) (fun w h1 h2 => hv2 ▸ h2.add (msg_of (t := x0.1) (k := 8) (h1.2 _ hx0m).2))
        replace hs := hs.F7.F7.F6
        have hms := hsnt
        refine Zc fn15 rfl (cTake_c B w111 _ bc bd bj (re p Ao co) ops tr false j d hs hci.jo hci.rows (aboutT 8 x0.1 x0.1.to) (⟨x0.2.tA, x0.1.to.length, x0.2.tc, none, 0, 0, none, 0, 0⟩ : MP) (fun w' X z => (z.kept 1 rfl) _ hmem) rfl (by refine ⟨?_, ?_, ?_⟩ <;> simp only <;> omega) (by omega) (fun t ht => by have := hlens.2 t ht; omega) (fun t ht => by have := hlens.2 t ht; exact ⟨by omega, this.2.2.1⟩)) rfl ?_
        rintro v113 w114 ⟨vt, rfl, hs⟩
        have hR := ((hci.re Ao co).takeR hN hms rfl (.inr rfl)).er
        obtain ⟨⟨out, er, tr2, en, j2, d2⟩, ho⟩ : ∃ z, ctake (re p Ao co) tr false j d (aboutT 8 x0.1 x0.1.to) = z := ⟨_, rfl⟩
        rw [ho] at hs hR ⊢
        simp only at hs hR ⊢
        have hvs2 : ∀ x ∈ v2, MSent x := hv2 ▸ MSent.add hvs ⟨⟨rfl, hes4, rfl, rfl⟩, hms, rfl, .inr rfl⟩
        replace hs := hs.F6.F6
        replace hH := Hold.of (Ls := [_, _]) hs
        refine Ls_nil (Jm_An hH (Ym hH 6 rfl (by kernel_rfl) rfl (Ya hH 7 rfl (by kernel_rfl) (fun x hx => run_extract rfl rfl) (Ya hH 8 rfl (by kernel_rfl) (fun x hx => run_extract rfl rfl) (Ya hH 9 rfl (by kernel_rfl) (fun x hx => run_assign rfl) (Ya hH 10 rfl (by kernel_rfl) (fun x hx => run_assign rfl) (An_done (by kernel_rfl) ?_)))))))
        replace hvl : v2.length ≤ sn + 1 := by omega
        clear hvs
        have hvs := hvs2
        replace hs := hs.F6.F7.F7.F7.F7.F5
        replace hs := wshut19 hvs hvl hs
        replace hs := hs.E1.E2.F1
        refine Jm_join (vt, out, er, en, tr2, j2, d2, sn + 1) ?_ ?_
        · rw [hEn5]; exact sE ⟨rfl, rfl, rfl, trivial⟩
        rw [hIv6]
        exact ⟨hs, hR, by omega, fun q => by omega⟩
      refine Ls_alloc hs inf41 rfl (fun b116 w115 hs => ?_)
      replace hs := hs.F1
      replace hH := Hold.of (Ls := [_]) hs
      refine Ls_nil (Jm_An hH (An_only 7 (by kernel_rfl) rfl (Zc fn16 rfl (labout_c w115 8 x0 _ _ _) rfl ?_)))
      rintro v117 w118 ⟨rfl, hsF⟩
      replace hs := hs.T hsF
      replace hH := Hold.of (Ls := [_]) hs
      refine Ls_nil (Jm_An hH (An_only 9 (by kernel_rfl) rfl ?_))
      replace hs := hs.F1
      refine Ls_storeAgg hs inf41 rfl rfl rfl rfl (by simp [Value.oneCell', Value.cells, mcells, tcells]) (fun w119 hs => ?_)
      replace hs := hs.F1
      replace hH := Hold.of (Ls := [_]) hs
      refine Ls_nil (Jm_An hH (An_done (by kernel_rfl) (Zq (St_seq (Zs (Zf un60 inf3 rfl 0 rfl (Zl sc3 rfl (hs.blk_at 3 rfl 0 rfl) (Zr (run_asB (c := false) (run_eql rfl rfl) (by rw [decide_eq_false_iff_not]; assumption)) rfl (Zj (St_iff rfl (St_skip (Zq (St_seq (Zs (Zf un41 inf25 rfl 6 rfl (Zl sc25 rfl (hs.blk_at 1 rfl 6 rfl) (Zr (run_len un25 rfl) rfl (Zr (run_eql rfl rfl) rfl (Zj (St_ifP rfl (fun h121 => ?_) (fun h121 => ?_)))))))))))))))))))))
      · refine Zs (Za rfl (Za rfl (Zj (St_ret (Jm_then_ret (Jm_then_ret (Jm_block_ret (Jm_then_ret (Jm_ret2 rfl rfl rfl ?_)))))))))
        replace hs := hs.E0.E0.E1.F5.F5.F5.F5.F4.F5
        replace hs := wshut19 hvs hvl hs
        exact ⟨_, rfl, _, none, tr, j, d, sn, rfl, hs.toMoNone, hci.mono (by omega), StepR.same _, by omega, fun q => by omega⟩
      have hes4 : x0.1.to.length ≤ 4 := (hlens.2 _ hx0n).2.1
      have hph : (tr.getD 0 T0.1).ph ≠ 1 := fun q => by have h9 := ((hci.ts.at_ 0 (by omega)).rd q).2; rw [← hx0t] at h9; rw [h9] at h121; exact h121 (by simp)
      have hsnt : Msound (aboutT 8 x0.1 x0.1.to) := by rw [hx0t]; exact hci.about hN (by omega) (.inr rfl) ((hci.ts.ends (note_eb hci.jo.1).1 0 (by omega)).2 hph)
      refine St_skip (Zq (St_seq ?_))
      replace hs := hs.F1.F4
      refine St_holdC 10 (Hold.of (Ls := [_, _]) hs) mixed (fun w122 q123 => ?_)
      replace hs := hs.quiet q123
      have hH := Hold.of (Ls := [_, _]) hs
      refine Yr (fun _ => hH) 0 rfl (by kernel_rfl) (fun x => run_move rfl) (Yr (fun _ => hH) 1 rfl (by kernel_rfl) (fun x => run_move rfl) (Yr (fun _ => hH) 2 rfl (by kernel_rfl) (fun x => run_nilCheck rfl) (Yr (fun _ => hH) 3 rfl (by kernel_rfl) (fun x => run_fd un31 inf29 rfl 10 rfl) (Yd hH 4 [10, 4] rfl (by kernel_rfl) (fun x hx => run_load sc29 rfl (hx.choose_spec.blk_at 0 rfl 10 rfl)) (Yd hH 5 [10, 5] rfl (by kernel_rfl) (fun x hx => run_load_agg agg41 inf41 rfl rfl (hx.choose_spec.blk_cells 1 rfl 0 9)) (AnC_only 6 (by kernel_rfl) rfl (Ls_literal [_] hs un29 inf41 rfl rfl rfl rfl rfl rfl (fun b124 w125 hs => ?_))))))))
      simp only [List.flatMap_cons, List.flatMap_nil, Value.cells, List.cons_append, List.nil_append] at hs
      replace hs := hs.F2.F2
      replace hH := Hold.of (Ls := [_, _]) hs
      refine Ls_nil (Jm_AnC (fun _ => hH) (AnC_only 7 (by kernel_rfl) rfl ?_))
      replace hs := hs.F8
      refine Ls_append hs un29 inf41 rfl (by decide) (by decide) rfl rfl (rd_block (hs.is_at 3 rfl).2 9 1 rfl) (by simp [Value.oneCell', mcells]) (by omega) rfl (fun A126 c127 w128 hs => ?_)
      replace hs := hs.E3
      rw [KM_snoc vs (aboutT 8 x0.1 x0.1.to) (⟨x0.2.tA, x0.1.to.length, x0.2.tc, none, 0, 0, none, 0, 0⟩ : MP) _ (by simp [mcells, aboutT])] at hs
      obtain ⟨v2, hv2⟩ : ∃ z, vs ++ [(aboutT 8 x0.1 x0.1.to, (⟨x0.2.tA, x0.1.to.length, x0.2.tc, none, 0, 0, none, 0, 0⟩ : MP))] = z := ⟨_, rfl⟩
      have hl2 : vs.length + 1 = v2.length := by rw [← hv2]; simp
      rw [hv2, hl2] at hs
      rw [hl2]
      have hmem : (aboutT 8 x0.1 x0.1.to, (⟨x0.2.tA, x0.1.to.length, x0.2.tc, none, 0, 0, none, 0, 0⟩ : MP)) ∈ v2 := by rw [← hv2]; simp
      replace hs := hs.F2.F2
      replace hH := Hold.of (Ls := [_, _]) hs
      refine Ls_nil (Jm_AnC (fun _ => hH) (Yr (fun _ => hH) 8 rfl (by kernel_rfl) (fun x => run_nilCheck rfl) (Yr (fun _ => hH) 9 rfl (by kernel_rfl) (fun x => run_fd un31 inf29 rfl 10 rfl) (AnC_only 10 (by kernel_rfl) rfl (Ls_store hs inf29 rfl rfl rfl rfl (fun w129 hs => ?_))))))
      try simp only [List.set_cons_zero, List.set_cons_succ] at hs
      refine Ls_nil (Jm_AnC_closed (by kernel_rfl) (AnC_done (by kernel_rfl) (Zq ?_)))
      replace hs := hs.F1.F1
      refine St_hold (Hold.of (Ls := [_, _]) hs) mixed (fun w130 q131 => ?_)
      replace hs := hs.quiet q131
      have hH := Hold.of (Ls := [_, _]) hs
      refine Ym hH 0 rfl (by kernel_rfl) rfl (Ya hH 1 rfl (by kernel_rfl) (fun x hx => run_nilCheck rfl) (Ya hH 2 rfl (by kernel_rfl) (fun x hx => run_fd un31 inf28 rfl 9 rfl) (Ya hH 3 rfl (by kernel_rfl) (fun x hx => run_load sc28 rfl (hx.choose_spec.blk_at 0 rfl 9 rfl)) (Ya hH 4 rfl (by kernel_rfl) (fun x hx => run_load_agg agg41 inf41 rfl rfl (hx.choose_spec.blk_cells 1 rfl 0 9)) (An_only 5 (by kernel_rfl) rfl ?_)))))
      replace hs := hs.F8.F4
      replace hs := hs.keep2 (H := SK v2) (fun w h1 h2 => hv2 ▸ h2.add (msg_of (t := x0.1) (k := 8) (h1.2 _ hx0m).2))
      replace hs := hs.F7.F7.F6
      have hms := hsnt
      refine Zc fn15 rfl (cTake_c B w130 _ bc bd bj (re p Ao co) ops tr false j d hs hci.jo hci.rows (aboutT 8 x0.1 x0.1.to) (⟨x0.2.tA, x0.1.to.length, x0.2.tc, none, 0, 0, none, 0, 0⟩ : MP) (fun w' X z => (z.kept 1 rfl) _ hmem) rfl (by refine ⟨?_, ?_, ?_⟩ <;> simp only <;> omega) (by omega) (fun t ht => by have := hlens.2 t ht; omega) (fun t ht => by have := hlens.2 t ht; exact ⟨by omega, this.2.2.1⟩)) rfl ?_
      rintro v132 w133 ⟨vt, rfl, hs⟩
      have hR := ((hci.re Ao co).takeR hN hms rfl (.inr rfl)).er
      obtain ⟨⟨out, er, tr2, en, j2, d2⟩, ho⟩ : ∃ z, ctake (re p Ao co) tr false j d (aboutT 8 x0.1 x0.1.to) = z := ⟨_, rfl⟩
      rw [ho] at hs hR ⊢
      simp only at hs hR ⊢
      have hvs2 : ∀ x ∈ v2, MSent x := hv2 ▸ MSent.add hvs ⟨⟨rfl, hes4, rfl, rfl⟩, hms, rfl, .inr rfl⟩
      replace hs := hs.F6.F6
      replace hH := Hold.of (Ls := [_, _]) hs
      refine Ls_nil (Jm_An hH (Ym hH 6 rfl (by kernel_rfl) rfl (Ya hH 7 rfl (by kernel_rfl) (fun x hx => run_extract rfl rfl) (Ya hH 8 rfl (by kernel_rfl) (fun x hx => run_extract rfl rfl) (Ya hH 9 rfl (by kernel_rfl) (fun x hx => run_assign rfl) (Ya hH 10 rfl (by kernel_rfl) (fun x hx => run_assign rfl) (An_done (by kernel_rfl) ?_)))))))
      replace hvl : v2.length ≤ sn + 1 := by omega
      clear hvs
      have hvs := hvs2
      replace hs := hs.F6.F7.F7.F7.F7.F5
      replace hs := wshut19 hvs hvl hs
      replace hs := hs.E1.E2.F1
      refine Jm_join (vt, out, er, en, tr2, j2, d2, sn + 1) ?_ ?_
      · rw [hEn5]; exact sE ⟨rfl, rfl, rfl, trivial⟩
      rw [hIv6]
      exact ⟨hs, hR, by omega, fun q => by omega⟩
    refine Zs (Zr (run_eql rfl rfl) rfl (Za rfl (Zj (St_ifP rfl (fun h134 => ?_) (fun h134 => ?_)))))
    · refine Zs (Zm rfl (Zk rfl (Zf un31 inf29 rfl 10 rfl (Zl sc29 rfl (hs.blk_at 3 rfl 10 rfl) (Zr (run_len un29 rfl) rfl (Zr (run_gtr rfl rfl) rfl (Zj (St_ifP rfl (fun h135 => ?_) (fun h135 => ?_)))))))))
      · replace hs := hs.F6.F3.F4
        refine St_hold (Hold.of (Ls := [_, _, _]) hs) mixed (fun w136 q137 => ?_)
        replace hs := hs.quiet q137
        have hH := Hold.of (Ls := [_, _, _]) hs
        refine Ym hH 0 rfl (by kernel_rfl) rfl (Ya hH 1 rfl (by kernel_rfl) (fun x hx => run_nilCheck rfl) (Ya hH 2 rfl (by kernel_rfl) (fun x hx => run_fd un31 inf28 rfl 9 rfl) (Ya hH 3 rfl (by kernel_rfl) (fun x hx => run_load sc28 rfl (hx.choose_spec.blk_at 0 rfl 9 rfl)) (Ym hH 4 rfl (by kernel_rfl) rfl (Ya hH 5 rfl (by kernel_rfl) (fun x hx => run_nilCheck rfl) (Ya hH 6 rfl (by kernel_rfl) (fun x hx => run_fd un31 inf29 rfl 10 rfl) (Ya hH 7 rfl (by kernel_rfl) (fun x hx => run_load sc29 rfl (hx.choose_spec.blk_at 0 rfl 10 rfl)) (Ya hH 8 rfl (by kernel_rfl) (fun x hx => run_fd un60 inf3 rfl 1 rfl) (Ya hH 9 rfl (by kernel_rfl) (fun x hx => run_load sc3 rfl (hx.choose_spec.blk_at 1 rfl 1 rfl)) ?_)))))))))
        obtain ⟨u, hu, hub⟩ := u64_nat' K
        have hul : u % vs.length < vs.length := Nat.mod_lt _ (by omega)
        refine Ya hH 10 rfl (by kernel_rfl) (fun x hx => run_conv_int un67 us3 rfl hu) (Ym hH 11 rfl (by kernel_rfl) rfl (Ya hH 12 rfl (by kernel_rfl) (fun x hx => run_nilCheck rfl) (Ya hH 13 rfl (by kernel_rfl) (fun x hx => run_fd un31 inf29 rfl 10 rfl) (Ya hH 14 rfl (by kernel_rfl) (fun x hx => run_load sc29 rfl (hx.choose_spec.blk_at 0 rfl 10 rfl)) (Ya hH 15 rfl (by kernel_rfl) (fun x hx => run_len un29 rfl) (Ya hH 16 rfl (by kernel_rfl) (fun x hx => run_conv_int un67 us3 rfl (wu64 (by omega))) (Ya hH 17 rfl (by kernel_rfl) (fun x hx => run_rem rfl rfl (by omega) (rem_nn' u vs.length)) (Ya hH 18 rfl (by kernel_rfl) (fun x hx => run_conv_int un3 us67 rfl (w64 (by omega))) ?_))))))))
        obtain ⟨⟨m4, q4⟩, hx4⟩ : ∃ z, vs.getD (u % vs.length) (MC0, MP0) = z := ⟨_, rfl⟩
        have hx4m : (m4, q4) ∈ vs := by rw [← hx4]; exact getD_mem3 hul
        refine An_index 19  (KM) rfl (by kernel_rfl) (by kernel_rfl) (by kernel_rfl) (fun _ _ _ _ h => h) hH (fun x hx => (hx.choose_spec.rd_at 2 rfl)) un29 inf41 rfl rfl (by omega) (by omega) (show vs.getD ((u % vs.length : Nat) : Int).toNat (MC0, MP0) = (m4, q4) from hx4) rfl (fun b138 o139 hc140 => (Ya hH 20 rfl (by kernel_rfl) (fun x hx => run_as (run_load_agg agg41 inf41 rfl rfl (hc140 x hx)) (show _ = Value.agg #[.int .i64 m4.k, .int .i64 m4.f, .int .i64 m4.t, .int .i64 m4.b, .int .i64 m4.a, .int .i64 m4.c, .slice q4.eA q4.en q4.ec, .slice q4.kA q4.kn q4.kc, .slice q4.pA q4.pn q4.pc] from rfl)) (An_only 21 (by kernel_rfl) rfl ?_)))
        replace hs := hs.F6.F6.F6
        have hms := hvs _ hx4m
        refine Zc fn15 rfl (cTake_c B w136 _ bc bd bj (re p Ao co) ops tr false j d hs hci.jo hci.rows m4 q4 (fun w' X z => (z.kept 5 rfl) _ hx4m) hms.q.1.symm (by have := hms.q; simp only at this; omega) (by omega) (fun t ht => by have := hlens.2 t ht; omega) (fun t ht => by have := hlens.2 t ht; exact ⟨by omega, this.2.2.1⟩)) rfl ?_
        rintro v141 w142 ⟨vt, rfl, hs⟩
        have hR := ((hci.re Ao co).takeR hN hms.s hms.t hms.k).er
        obtain ⟨⟨out, er, tr2, en, j2, d2⟩, ho⟩ : ∃ z, ctake (re p Ao co) tr false j d m4 = z := ⟨_, rfl⟩
        rw [ho] at hs hR ⊢
        simp only at hs hR ⊢
        replace hs := hs.F6.F6.F6
        replace hH := Hold.of (Ls := [_, _, _]) hs
        refine Ls_nil (Jm_An hH (Ym hH 22 rfl (by kernel_rfl) rfl (Ya hH 23 rfl (by kernel_rfl) (fun x hx => run_extract rfl rfl) (Ya hH 24 rfl (by kernel_rfl) (fun x hx => run_extract rfl rfl) (Ya hH 25 rfl (by kernel_rfl) (fun x hx => run_assign rfl) (Ya hH 26 rfl (by kernel_rfl) (fun x hx => run_assign rfl) (An_done (by kernel_rfl) ?_)))))))
        replace hs := hs.F8.F3.F7.F7.F7.F5
        replace hs := wshut19 hvs hvl hs
        replace hs := hs.E1.E2.F1
        refine Jm_join (vt, out, er, en, tr2, j2, d2, sn) ?_ ?_
        · rw [hEn5]; exact sE ⟨rfl, rfl, rfl, trivial⟩
        rw [hIv6]
        exact ⟨hs, hR, by omega, fun q => by omega⟩
      refine St_skip ?_
      replace hs := hs.F7.F7.F7.F7.F5.F7
      replace hs := wshut19 hvs hvl hs
      replace hs := hs.toMoNone (TM := 41) (TI := 3)
      replace hs := hs.E2.E2
      refine Jm_join (.slice none 0 0, none, 0, false, tr, j, d, sn) ?_ ?_
      · rw [hEn5]; exact sE ⟨rfl, rfl, rfl, trivial⟩
      rw [hIv6]
      exact ⟨hs, (.inl ⟨rfl, rfl, hci.mono (by omega), StepR.same _⟩), by omega, fun q => by omega⟩
    refine Zs (Zr (run_eql rfl rfl) rfl (Za rfl (Zj (St_ifP rfl (fun h143 => ?_) (fun h143 => ?_)))))
    · refine St_region (Zm rfl (Zk rfl (Zf un31 inf27 rfl 8 rfl (Zl sc27 rfl (hs.blk_at 3 rfl 8 rfl) ?_))))
      replace hs := hs.F5
      obtain ⟨vs0, A0, c0, hv0, hs⟩ := hs.dopen
      refine Zc fn42 rfl (Cut_c B w4 _ bd d A0 c0 hs 0) rfl ?_
      rintro v144 w145 ⟨rfl, hs⟩
      replace hs := Sat.dshut (s := dcut d 0) hv0 hs
      refine Ls_nil ?_
      replace hs := hs.F7.F7.F2.F7.F5.F7
      replace hs := wshut19 hvs hvl hs
      replace hs := hs.toMoNone (TM := 41) (TI := 3)
      replace hs := hs.E2.E2
      refine Jm_join (.slice none 0 0, none, 0, false, tr, j, (dcut d 0), sn) ?_ ?_
      · rw [hEn5]; exact sE ⟨rfl, rfl, rfl, trivial⟩
      rw [hIv6]
      exact ⟨hs, (.inl ⟨rfl, rfl, hci.cut0, StepR.same _⟩), by omega, fun q => by omega⟩
    refine Zs (Zr (run_eql rfl rfl) rfl (Za rfl (Zj (St_ifP rfl (fun h146 => ?_) (fun h146 => ?_)))))
    · refine Zs (Zm rfl (Zk rfl (Zf un31 inf27 rfl 8 rfl (Zl sc27 rfl (hs.blk_at 3 rfl 8 rfl) ?_))))
      replace hs := hs.F5
      obtain ⟨vs0, A0, c0, hv0, hs⟩ := hs.dopen
      refine Zc fn20 rfl (On_c B w4 _ bd d A0 c0 hs) rfl ?_
      rintro v147 w148 ⟨rfl, hs⟩
      replace hs := Sat.dshut (s := don d) hv0 hs
      obtain ⟨hop, hrows, hbl1, hciO⟩ := hci.back (d2 := don d) rfl rfl rfl
      refine Zj ?_
      replace hs := hs.F4
      refine St_holdC 15 (Hold.of (Ls := [_]) hs) mixed (fun w149 q150 => ?_)
      replace hs := hs.quiet q150
      have hH := Hold.of (Ls := [_]) hs
      refine Yr (fun _ => hH) 0 rfl (by kernel_rfl) (fun x => run_move rfl) (Yr (fun _ => hH) 1 rfl (by kernel_rfl) (fun x => run_move rfl) (Yr (fun _ => hH) 2 rfl (by kernel_rfl) (fun x => run_nilCheck rfl) (Yr (fun _ => hH) 3 rfl (by kernel_rfl) (fun x => run_fd un31 inf24 rfl 0 rfl) (Yd hH 4 [15, 4] rfl (by kernel_rfl) (fun x hx => run_load_agg agg24 inf24 rfl rfl (hx.choose_spec.blk_cells 0 rfl 0 8)) (Yr (fun _ => hH) 5 rfl (by kernel_rfl) (fun x => run_move rfl) (Yr (fun _ => hH) 6 rfl (by kernel_rfl) (fun x => run_nilCheck rfl) (Yr (fun _ => hH) 7 rfl (by kernel_rfl) (fun x => run_fd un31 inf27 rfl 8 rfl) (Yd hH 8 [15, 8] rfl (by kernel_rfl) (fun x hx => run_load sc27 rfl (hx.choose_spec.blk_at 0 rfl 8 rfl)) (AnC_only 9 (by kernel_rfl) rfl ?_)))))))))
      replace hs := hs.E3.E4.F1
      refine Zc fn21 rfl (cOpen_c B w149 _ bd p ops (don d) (dread_k (don d) 2) j hs hr hn hci.ck hrows hbl1 hop) rfl ?_
      rintro v151 w152 ⟨bc2, bj2, Ao2, co2, rfl, hs⟩
      replace hs := hs.F3
      replace hH := Hold.of (Ls := [_]) hs
      refine Ls_nil (Jm_AnC (fun _ => hH) (Yr (fun _ => hH) 10 rfl (by kernel_rfl) (fun x => run_move rfl) (Yr (fun _ => hH) 11 rfl (by kernel_rfl) (fun x => run_extract rfl rfl) (Yr (fun _ => hH) 12 rfl (by kernel_rfl) (fun x => run_extract rfl rfl) (Yr (fun _ => hH) 13 rfl (by kernel_rfl) (fun x => run_nilCheck rfl) (Yr (fun _ => hH) 14 rfl (by kernel_rfl) (fun x => run_fd un31 inf28 rfl 9 rfl) (AnC_only 15 (by kernel_rfl) rfl (Ls_store hs inf28 rfl rfl rfl rfl (fun w153 hs => ?_)))))))))
      try simp only [List.set_cons_zero, List.set_cons_succ] at hs
      refine Ls_nil (Jm_AnC_closed (by kernel_rfl) (AnC_switch (H' := fun _ => True) 17 (by kernel_rfl) ?_))
      replace hH := trivial
      refine Yr (fun _ => hH) 16 rfl (by kernel_rfl) (fun x => run_assign rfl) (AnC_done (by kernel_rfl) ?_)
      replace hs := hs.F7.F7.F5.F5.F5.F5
      replace hs := wshut19 hvs hvl hs
      replace hs := hs.toMoNone (TM := 41) (TI := 3)
      replace hs := hs.E2.E2
      refine Jm_join (.slice none 0 0, none, 0, false, [], j, (dread_k (don d) 2), sn) ?_ ?_
      · rw [hEn5]; exact sE ⟨rfl, rfl, rfl, trivial⟩
      rw [hIv6]
      exact ⟨hs, (.inl ⟨rfl, rfl, hciO, StepR.same _⟩), by omega, fun q => by omega⟩
    refine St_skip ?_
    replace hs := hs.F7.F7.F7.F7.F5.F7
    replace hs := wshut19 hvs hvl hs
    replace hs := hs.toMoNone (TM := 41) (TI := 3)
    replace hs := hs.E2.E2
    refine Jm_join (.slice none 0 0, none, 0, false, tr, j, d, sn) ?_ ?_
    · rw [hEn5]; exact sE ⟨rfl, rfl, rfl, trivial⟩
    rw [hIv6]
    exact ⟨hs, (.inl ⟨rfl, rfl, hci.mono (by omega), StepR.same _⟩), by omega, fun q => by omega⟩
  rintro ⟨v, out, er, en, tr2, j2, d2, n2⟩ w7 hI154
  rw [hIv6] at hI154
  obtain ⟨hs, hR, hn2, hk1⟩ := hI154
  refine Jm_eqE (hEn5 _ _ _ _ _ _ _ _) (Jm_block_normal (Zq (St_seq (Zs (Zm rfl (Zr (run_eql rfl rfl) rfl (Zj (St_ifP rfl (fun h155 => ?_) (fun h155 => ?_)))))))))
  · have hR2 := hR.resolve_left (fun q => by have := q.1; omega)
    obtain ⟨rfl, rfl, rfl, rfl, rfl⟩ := hR2
    clear hR
    obtain ⟨hvn, h9⟩ := hs.moNone
    subst hvn
    replace hs := h9
    obtain ⟨bd, bc, bj, Ao, co, sA, sc, vs, hvs, hvl, hs⟩ := wopen19 hs
    unfold wcells at hs
    refine St_seq (Zs (Zm rfl (Zk rfl (Zf un31 inf27 rfl 8 rfl (Zl sc27 rfl (hs.blk_at 0 rfl 8 rfl) ?_)))))
    replace hs := hs.F3
    obtain ⟨A0, c0, hd0⟩ := hs.dhd
    refine Zc fn43 rfl (Down_c w7 bd (doff d) A0 c0 hd0) rfl ?_
    rintro v156 w157 ⟨rfl, rfl⟩
    refine Zr (run_not rfl) rfl (Zm rfl (Zo rfl (Zm rfl (Zo rfl (Zk rfl (Zo rfl (Zf un31 inf28 rfl 9 rfl (Zo rfl (Zl sc28 rfl (hs.blk_at 1 rfl 9 rfl) (Zo rfl ?_))))))))))
    replace hs := hs.F2
    refine Zc fn29 rfl (cEnded_c B w7 _ bc bd bj (re p Ao co) ops tr2 true hs) rfl ?_
    rintro v158 w159 ⟨rfl, rfl⟩
    refine Zo rfl (Zr (run_not rfl) rfl (Zr (run_pick_f rfl rfl) rfl (Zm rfl (Zo rfl (Zm rfl (Zo rfl (Zr (run_len un29 rfl) rfl (Zo rfl (Zr (run_asB (c := false) (run_neq rfl rfl) (by decide)) rfl (Zr (run_pick_f rfl rfl) rfl (Zj (St_iff rfl (St_skip (Zq (Zs (Zm rfl (Zk rfl (Zf un31 inf27 rfl 8 rfl (Zl sc27 rfl (hs.blk_at 2 rfl 8 rfl) ?_)))))))))))))))))))
    replace hs := hs.F1
    obtain ⟨vs0, A0, c0, hv0, hs⟩ := hs.dopen
    refine Zc fn20 rfl (On_c B w7 _ bd (doff d) A0 c0 hs) rfl ?_
    rintro v161 w162 ⟨rfl, hs⟩
    replace hs := Sat.dshut (s := don (doff d)) hv0 hs
    obtain ⟨hop, hrows, hbl1, hciO⟩ := hci.back (d2 := don (doff d)) rfl rfl rfl
    refine Zj ?_
    replace hs := hs.F2
    refine St_holdC 15 (Hold.of (Ls := [_]) hs) mixed (fun w163 q164 => ?_)
    replace hs := hs.quiet q164
    have hH := Hold.of (Ls := [_]) hs
    refine Yr (fun _ => hH) 0 rfl (by kernel_rfl) (fun x => run_move rfl) (Yr (fun _ => hH) 1 rfl (by kernel_rfl) (fun x => run_move rfl) (Yr (fun _ => hH) 2 rfl (by kernel_rfl) (fun x => run_nilCheck rfl) (Yr (fun _ => hH) 3 rfl (by kernel_rfl) (fun x => run_fd un31 inf24 rfl 0 rfl) (Yd hH 4 [15, 4] rfl (by kernel_rfl) (fun x hx => run_load_agg agg24 inf24 rfl rfl (hx.choose_spec.blk_cells 0 rfl 0 8)) (Yr (fun _ => hH) 5 rfl (by kernel_rfl) (fun x => run_move rfl) (Yr (fun _ => hH) 6 rfl (by kernel_rfl) (fun x => run_nilCheck rfl) (Yr (fun _ => hH) 7 rfl (by kernel_rfl) (fun x => run_fd un31 inf27 rfl 8 rfl) (Yd hH 8 [15, 8] rfl (by kernel_rfl) (fun x hx => run_load sc27 rfl (hx.choose_spec.blk_at 0 rfl 8 rfl)) (AnC_only 9 (by kernel_rfl) rfl ?_)))))))))
    replace hs := hs.E2.E2.F1
    refine Zc fn21 rfl (cOpen_c B w163 _ bd p ops (don (doff d)) (dread_k (don (doff d)) 2) j hs hr hn hci.ck hrows hbl1 hop) rfl ?_
    rintro v165 w166 ⟨bc2, bj2, Ao2, co2, rfl, hs⟩
    replace hs := hs.F3
    replace hH := Hold.of (Ls := [_]) hs
    refine Ls_nil (Jm_AnC (fun _ => hH) (Yr (fun _ => hH) 10 rfl (by kernel_rfl) (fun x => run_move rfl) (Yr (fun _ => hH) 11 rfl (by kernel_rfl) (fun x => run_extract rfl rfl) (Yr (fun _ => hH) 12 rfl (by kernel_rfl) (fun x => run_extract rfl rfl) (Yr (fun _ => hH) 13 rfl (by kernel_rfl) (fun x => run_nilCheck rfl) (Yr (fun _ => hH) 14 rfl (by kernel_rfl) (fun x => run_fd un31 inf28 rfl 9 rfl) (AnC_only 15 (by kernel_rfl) rfl (Ls_store hs inf28 rfl rfl rfl rfl (fun w167 hs => ?_)))))))))
    try simp only [List.set_cons_zero, List.set_cons_succ] at hs
    refine Ls_nil (Jm_AnC_closed (by kernel_rfl) (AnC_switch (H' := fun _ => True) 17 (by kernel_rfl) ?_))
    replace hH := trivial
    refine Yr (fun _ => hH) 16 rfl (by kernel_rfl) (fun x => run_assign rfl) (AnC_done (by kernel_rfl) (Zq (Zs (Zm rfl (Zm rfl (Zr (run_asB (c := true) (run_eql rfl rfl) (by decide)) rfl (Za rfl (Za rfl (Zj (St_ret (Jm_ret2 rfl rfl rfl ?_)))))))))))
    replace hs := hs.F5.F5.F5.F5.F5.F5
    replace hs := wshut19 hvs hvl hs
    exact ⟨_, rfl, _, none, [], j, _, n2, rfl, hs.toMoNone, hciO, StepR.same _, hn2, fun q ha => absurd (hci.tick_er hN ha) (by rw [hk1 q]; show ¬ (80 : Int) = 0; decide)⟩
  refine St_skip (Zq (Zs (Zm rfl (Zm rfl (Zr (run_eql rfl rfl) rfl (Za rfl (Za rfl (Zj (St_ret (Jm_ret2 rfl rfl rfl ?_))))))))))
  rcases hR with ⟨rfl, rfl, hc, hst⟩ | ⟨rfl, _⟩
  · exact ⟨_, rfl, v, out, tr2, j2, d2, n2, rfl, hs, hc, hst, hn2, fun q _ => hk1 q⟩
  · exact absurd rfl (by assumption)
end Go.Proofs.Ytcifdianinbkeaa.Lg
set_option linter.unusedVariables false
set_option linter.unusedSimpArgs false
namespace Go.Proofs.Ytcifdianinbkeaa.Lg
open Go Go.RowKit Go.Proofs.Ytcifdianinbkeaa.WirePure Go.Proofs.Ytcifdianinbkeaa.PlanPure
end Go.Proofs.Ytcifdianinbkeaa.Lg
set_option linter.unusedVariables false
set_option linter.unusedSimpArgs false
namespace Go.Proofs.Ytcifdianinbkeaa.Lg
open Go Go.RowKit Go.Proofs.Ytcifdianinbkeaa.WirePure Go.Proofs.Ytcifdianinbkeaa.PlanPure
def tiAt (t : TSt) (k : Int) : TSt := { t with ti := k }
section
variable {N : Int} {p : PlanA} {ops : OpL} {j : JSt} {d : DSt} {t o : TSt} {k : Int} {es : List Int}
theorem age_at (h1 : t.ph = 1) (hk : k + 1 < p.gu) : ageT p.gu [tiAt t k] = [tiAt t (k + 1)] := by
  have e : [tiAt t k].map bump = [tiAt t (k + 1)] := by
    show [bump (tiAt t k)] = _
    unfold bump
    rw [if_pos (by show t.ph ≠ 2; omega)]
    rfl
  unfold ageT
  rw [e]
  have hi : idxB (fun t : TSt => decide (p.gu ≤ t.ti)) [tiAt t (k + 1)] = none := idx_none (fun i hi => by
    have : i = 0 := by simp at hi; exact hi
    subst this
    exact decide_eq_false (by show ¬ p.gu ≤ k + 1; omega))
  rw [hi]
theorem age_out (h1 : t.ph = 1) (hk : p.gu ≤ k + 1) : ageT p.gu [tiAt t k] = [] := by
  have e : [tiAt t k].map bump = [tiAt t (k + 1)] := by
    show [bump (tiAt t k)] = _
    unfold bump
    rw [if_pos (by show t.ph ≠ 2; omega)]
    rfl
  unfold ageT
  rw [e]
  have hi : idxB (fun t : TSt => decide (p.gu ≤ t.ti)) [tiAt t (k + 1)] = some 0 := idx_some (by simp) (decide_eq_true (by show p.gu ≤ k + 1; omega)) (fun i hi => by omega)
  rw [hi]
  rfl
theorem gu_tick (he : j.ended = false) (hd : d.down = false) (h1 : t.ph = 1) (hk : k + 1 < p.gu) : ctick p ops [tiAt t k] false j d = (none, 0, [tiAt t (k + 1)], false, j, d) := by
  have hE : (false || j.ended || d.down) = false := by rw [he, hd]; rfl
  unfold ctick
  rw [age_at h1 hk, if_neg (by rw [hE]; decide), if_pos (.inr ⟨by simp, by show t.ph = 1; exact h1⟩), hE]
theorem gu_last (he : j.ended = false) (hd : d.down = false) (h1 : t.ph = 1) (hk : p.gu ≤ k + 1) : ctick p ops [tiAt t k] false j d = ctick p ops [] false j d := by
  have hE : ¬ (false || j.ended || d.down) = true := by rw [he, hd]; decide
  unfold ctick
  rw [age_out h1 hk, ageT_nil, if_neg hE, if_neg hE]
theorem open_tick (h : CI N p ops [] j d) (hN : N < 1099511627770) (ha : d.armed = false) : ∃ d', ctick p ops [] false j d = (some (sayM 1 (newT p ops j []) (newT p ops j []).fr), 0, [newT p ops j []], false, jnext j (nextN j), d') ∧ CI (N + 1) p ops [newT p ops j []] (jnext j (nextN j)) d' ∧ d'.armed = false := by
  have hk := h.nums
  unfold numsOk at hk
  rcases h.tick hN with ⟨h1, _⟩ | ⟨_, h2, _⟩ | ⟨_, _, d', h3, h4, h5⟩
  · unfold idle at h1
    rw [ageT_nil] at h1
    simp at h1
    omega
  · rw [ha] at h2; cases h2
  · rw [ageT_nil] at h3 h4
    exact ⟨d', h3, h4, h5⟩
theorem CI.none_ (h : CI N p ops [t] j d) : CI N p ops [] j d := { h with ts := TrOk.nil (by have hk := h.nums; unfold numsOk at hk; omega) }
theorem old_ready (h : CI N p ops [t] j d) (hs : Msound (aboutT 2 o es)) (hne : t.a ≠ o.a) : ctake p [t] false j d (aboutT 2 o es) = (none, 0, [t], false, j, d) := by
  rw [h.take2 hs rfl rfl, ready_not (t := t) (m := aboutT 2 o es) (fun q => hne q.2.1)]
theorem old_done (h : CI N p ops [t] j d) (hs : Msound (aboutT 8 o es)) (hne : t.a ≠ o.a) : ctake p [t] false j d (aboutT 8 o es) = (none, 0, [t], false, j, d) := first_not (k := 8) h hs rfl rfl (.inl fun q => hne q.2.1)
theorem tk_fr {A : Option Addr} {c : Nat} {l : List Int} {n : Nat} {q : TP} (hf : t.fr = l) (hn : l.length = n) {w : World} (h : TK A c [(t, q)] w) : Rd w q.fA n q.fc 1 (KI.flat l) := by
  have h9 := (h.2 _ (List.mem_singleton.2 rfl)).1
  simp only [hf, hn] at h9
  exact h9
end
set_option maxRecDepth 100000 in
set_option maxHeartbeats 4000000 in
theorem CoordGivesUp_ok (w : World) (p : PlanA) (ops : OpL) (hr : Rd w p.oA p.on p.oc 3 (KOp.flat ops)) (hn : p.on ≤ 67108864) (hck : chk p ops = 0) (A1 : Option Addr) (n1 c1 : Nat) (al : List AL) (hra : Rd w A1 n1 c1 3 (KAct.flat al)) (hao : ∀ x ∈ al, AOk w x) (hn1 : n1 ≤ 9223372036854775807) (A2 : Option Addr) (n2a c2a : Nat) (ol2 : List Int) (hro : Rd w A2 n2a c2a 1 (KI.flat ol2)) (hn2a : n2a ≤ 9223372036854775807) :
    Calls Try.prog 5 [.agg #[.int .i64 p.pa, .int .i64 p.st, .int .i64 p.wo, .slice p.oA p.on p.oc, .int .i64 p.ag, .int .i64 p.ba, .int .i64 p.wi, .int .i64 p.gu], .slice A1 n1 c1, .slice A2 n2a c2a].toArray w (Ret (fun v' w' => v' = .bool true ∧ Below w.heap.size w w')) := by
  have hs := Sat.start w
  have hk2 := chk_ok hck
  unfold numsOk at hk2
  refine Zb Try.func5 rfl rfl rfl (Zs (Ls_box hs rfl rfl (fun b2 w1 hs => (Za rfl (Zj (St_seq (Zs (Zc fn8 rfl (awake19_c w1) rfl ?_))))))))
  rintro v3 w4 ⟨rfl, hsA5⟩
  replace hs := hs.T hsA5
  refine Zr (run_not rfl) rfl (Zj (St_iff rfl (St_skip (Zq (Zs (Zr (run_load_agg agg24 inf24 rfl rfl (hs.blk_cells 0 rfl 0 8)) rfl (Zc fn9 rfl (laid19_c w4 p ops (hr.inB hs) hn hck) rfl ?_)))))))
  rintro v7 w9 ⟨bd, bc, bj, Ao, co, m, d, hm, rfl, hsF, hg, hdj⟩
  replace hs := hs.T hsF
  have hCI : CI 0 p ops [] (jnew m) d := CI.new hck hm hg hdj
  have hnt0 := hCI.note
  refine Zm rfl (Zr (run_extract rfl rfl) rfl (Zr (run_extract rfl rfl) rfl (Ls_alloc hs inf31 rfl (fun b11 w10 hs => (Ls_storeAgg hs inf31 rfl rfl rfl rfl (by simp [Value.oneCell', Value.cells, mcells, tcells]) (fun w12 hs => ?_))))))
  replace hs := hs.F3.F3.F3.F3
  replace hs := wnew19 (p := p) (Ao := Ao) (co := co) hs
  refine Za rfl (Zj (St_seq (Zs (Zm rfl (Zr (run_not rfl) rfl (Zj (St_iff rfl (St_skip (Zq (St_seq (Zs (Za rfl (Zj (St_block ?_))))))))))))))
  obtain ⟨En14, hEn14⟩ := ex5 fun (i : Nat) (tr : List TSt) (j : JSt) (d : DSt) (sn : Nat) => ([(1, .slice A1 n1 c1), (2, .slice A2 n2a c2a), (3, .pointer (some ⟨b2, 0, none⟩)), (7, .pointer (some ⟨b11, 0, none⟩)), (9, .int .i64 (i : Int))] : Env)
  obtain ⟨Iv15, hIv15⟩ := ew5 fun (i : Nat) (tr : List TSt) (j : JSt) (d : DSt) (sn : Nat) (wr : World) => Sat w wr [WA tns b11 p ops tr false j d sn, Blk b2 [.int .i64 p.pa, .int .i64 p.st, .int .i64 p.wo, .slice p.oA p.on p.oc, .int .i64 p.ag, .int .i64 p.ba, .int .i64 p.wi, .int .i64 p.gu] 24] ∧ CI (i : Int) p ops tr j d ∧ sn ≤ i ∧ i ≤ n1 ∧ i ≤ 600
  obtain ⟨ms16, hms16⟩ := ex5 fun (i : Nat) (tr : List TSt) (j : JSt) (d : DSt) (sn : Nat) => (n1 - i : Nat)
  refine St_loop En14 Iv15 ms16 (0, [], jnew m, d, 0) ?_ ?_ ?_
  · rw [hIv15]
    exact ⟨hs, hCI, Nat.le_refl _, Nat.zero_le _, Nat.zero_le _⟩
  · rw [hEn14]; exact sE ⟨rfl, rfl, rfl, rfl, rfl, trivial⟩
  rintro ⟨i, tr, j, d, sn⟩ wr hI17
  rw [hIv15] at hI17
  obtain ⟨hs, hci, hsn, hi, hi6⟩ := hI17
  refine St_eqE (hEn14 _ _ _ _ _) (St_seq (Zs (Zm rfl (Zm rfl (Zr (run_len un56 rfl) rfl (Zr (run_lss rfl rfl) rfl (Zm rfl (Ls_partP (t := 36) rfl (fun h18 => ?_) (fun h18 => ?_)))))))))
  · refine Zo rfl (Zm rfl (Zo rfl (Zr (run_lss rfl rfl) rfl (Zr (run_pick_t rfl rfl) rfl (Zj (St_ifP rfl (fun h19 => ?_) (fun h19 => ?_)))))))
    · refine St_skip (Zq (St_seq (St_block (Zs (Zm rfl (Zm rfl ?_))))))
      obtain ⟨xa, hxa⟩ : ∃ z, al.getD i (0, 0, none, 0, 0) = z := ⟨_, rfl⟩
      have hal : al.length = n1 := lenKAct hra
      have hxam : xa ∈ al := by rw [← hxa]; exact getD_mem3 (by omega)
      obtain ⟨⟨ol, hol⟩, hol2⟩ := hao _ hxam
      refine Ls_index (KAct) (hra.inB hs) un56 inf60 rfl rfl (by omega) (by omega) hxa rfl (fun b20 o21 hc22 => (Zr (run_as (run_load_agg agg60 inf60 rfl rfl hc22) (show _ = Value.agg #[.int .i64 xa.1, .int .i64 xa.2.1, .slice xa.2.2.1 xa.2.2.2.1 xa.2.2.2.2] from rfl)) rfl (Zc fn18 rfl (act_c w wr _ b11 p ops tr j d sn (i : Int) hs hr hn hci (by omega) (by omega) xa.1 xa.2.1 xa.2.2.1 xa.2.2.2.1 xa.2.2.2.2 ol hol hol2) rfl ?_)))
      rintro v23 w24 ⟨va, out, tr2, j2, d2, n2, rfl, hs, hc2, hst, hn2, hkk⟩
      obtain ⟨mA, mc, ml, rfl, hml, hs⟩ := hs.moK (fun m hm => (hst.out m hm).2.2.2)
      have hml1 : ml.length ≤ 1 := by rw [← List.length_map (f := Prod.fst), hml]; cases out <;> simp
      have hnt2 := hc2.note
      have hatt := hst.att
      have hbat := hst.ba
      refine Zm rfl (Zr (run_extract rfl rfl) rfl (Zr (run_extract rfl rfl) rfl (Za rfl (Za rfl (Zt (Zm rfl (Zr (run_not rfl) rfl (Zj (St_iff rfl (St_skip (Jm_block_normal (Zq (St_region (Zm rfl (Zr (run_add rfl rfl (w64 (by omega))) rfl (Za rfl (Ls_nil ?_)))))))))))))))))
      replace hs := hs.E0.F1.F1
      refine Jm_round (i + 1, tr2, j2, d2, n2) ?_ ?_ ?_
      · rw [hEn14]; exact sE ⟨rfl, rfl, rfl, rfl, rfl, trivial⟩
      · rw [hIv15]
        exact ⟨hs, (show ((i : Int) + 1) = ((i + 1 : Nat) : Int) by omega) ▸ hc2, by omega, by omega, by omega⟩
      rw [hms16, hms16]
      omega
    refine St_exit (Jm_then_exit (Jm_then_exit (Jm_block_same (Zq (Zs ?_)))))
    obtain ⟨bd, bc, bj, Ao, co, sA, sc, vs, hvs, hvl, hs⟩ := wopen19 hs
    unfold wcells at hs
    refine Zf un31 inf27 rfl 8 rfl (Zl sc27 rfl (hs.blk_at 0 rfl 8 rfl) ?_)
    replace hs := hs.F3
    obtain ⟨vs0, A0, c0, hv0, hs⟩ := hs.dopen
    refine Zc fn20 rfl (On_c w wr _ bd d A0 c0 hs) rfl ?_
    rintro v26 w27 ⟨rfl, hs⟩
    replace hs := Sat.dshut (s := don d) hv0 hs
    obtain ⟨hop, hrows, hbl1, hciO⟩ := hci.back (d2 := don d) rfl rfl rfl
    have harm : (dread_k (don d) 2).armed = false := by rw [(dread_k_same (don d) 2).2.2.1]; rfl
    refine Zt (Zr (run_load_agg agg24 inf24 rfl rfl (hs.blk_cells 6 rfl 0 8)) rfl (Zf un31 inf27 rfl 8 rfl (Zl sc27 rfl (hs.blk_at 1 rfl 8 rfl) ?_)))
    replace hs := hs.E2.E2.E1.E1.E1
    refine Zc fn21 rfl (cOpen_c w w27 _ bd p ops (don d) (dread_k (don d) 2) j hs (hr.inB (Sat.start w)) hn hck hrows hbl1 hop) rfl ?_
    rintro v28 w29 ⟨bc2, bj2, Ao2, co2, rfl, hs⟩
    obtain ⟨d0, hd0⟩ : ∃ z, dread_k (don d) 2 = z := ⟨_, rfl⟩
    rw [hd0] at hs hciO harm
    clear hop hrows hbl1
    refine Zm rfl (Zr (run_extract rfl rfl) rfl (Zr (run_extract rfl rfl) rfl (Za rfl (Za rfl (Zj (St_seq (Zs (Zm rfl (Zr (run_asB (c := false) (run_neq rfl rfl) (by decide)) rfl (Zm rfl (Zo rfl (Zm rfl (Zo rfl (Zc fn12 rfl (cTries_c w w29 _ bc2 bd bj2 (re p Ao2 co2) ops [] false hs (by simp) (fun t ht => by cases ht)) rfl ?_))))))))))))))
    rintro v30 w31 ⟨vo, o0A, o0c, hvo, rfl, hs⟩
    replace hs := hs.triesK hvo
    obtain rfl := List.map_eq_nil_iff.1 hvo
    refine Zo rfl (Zr (run_len un44 rfl) rfl (Zo rfl (Zr (run_asB (c := false) (run_neq rfl rfl) (by decide)) rfl (Zr (run_pick_f rfl rfl) rfl (Zj (St_iff rfl (St_skip (Zq (Zs (Zm rfl ?_))))))))))
    replace hs := hs.F3.F3.F3
    obtain ⟨d1, ht1, hC1, ha1⟩ := open_tick hciO (by omega) harm
    obtain ⟨j1, hj1⟩ : ∃ z, jnext j (nextN j) = z := ⟨_, rfl⟩
    obtain ⟨o0, ho0⟩ : ∃ z, newT p ops j [] = z := ⟨_, rfl⟩
    have ho1 : o0.ph = 1 := ho0 ▸ rfl
    have ho2 : o0.ti = 0 := ho0 ▸ rfl
    have ho3 : o0.fr = j.n.cur := ho0 ▸ rfl
    have ho4 : o0.to = [] := ho0 ▸ rfl
    have ho5 : o0.a = j.n.att + 1 := ho0 ▸ rfl
    have ho6 : o0.b = j.n.batch + 1 := ho0 ▸ (show j.n.batch + (([] : List TSt).length : Int) + 1 = _ by simp)
    have hoz : tiAt o0 0 = o0 := by rw [← ho2]; rfl
    rw [hj1, ho0] at ht1 hC1
    have hnt := hciO.note
    have hbd := hciO.bd
    have hw1 := within_hi hciO.jo.1.1
    have hw2 := within_hi hciO.jo.1.2.1
    obtain ⟨cu, hcu⟩ : ∃ z, j.n.cur = z := ⟨_, rfl⟩
    obtain ⟨cn, hcn⟩ : ∃ z, cu.length = z := ⟨_, rfl⟩
    rw [hcu] at ho3 hnt
    rw [hcn] at hnt
    have hjn : j1.n.cur = cu ∧ j1.n.att = j.n.att + 1 ∧ j1.n.batch = j.n.batch := by rw [← hj1, ← hcu]; exact ⟨rfl, rfl, rfl⟩
    have hcn2 : cn ≤ 4 := hnt.2
    have hcu4 : cu.length ≤ 4 := by omega
    refine Zc fn11 rfl (cTick_c w w31 _ bc2 bd bj2 (re p Ao2 co2) ops [] false j d0 hs (fun t ht => by cases ht) (by simp) (by rw [ageT_nil]; simp) hciO.jo hciO.rows (by show p.on ≤ _; omega)) rfl ?_
    rintro v33 w34 ⟨va, rfl, hs⟩
    rw [ctick_re, ht1] at hs ⊢
    simp only at hs ⊢
    obtain ⟨ga, Aa, ca, hva, h9⟩ := hs.moSome
    subst hva
    replace hs := h9
    refine Zm rfl (Zr (run_extract rfl rfl) rfl (Zr (run_extract rfl rfl) rfl (Za rfl (Za rfl (Zj (St_seq (Zs (Zm rfl (Zr (run_asB (c := false) (run_neq rfl rfl) (by decide)) rfl (Zm rfl (Zo rfl (Zm rfl (Zo rfl (Zr (run_len un29 rfl) rfl (Zo rfl (Zr (run_asB (c := false) (run_neq rfl rfl) (by decide)) rfl (Zr (run_pick_f rfl rfl) rfl (Zm rfl (Zo rfl (Zm rfl (Zo rfl (Ls_index (KM) (msg_rd (hs.is_at 0 rfl).2) un29 inf41 rfl rfl (by omega) (by omega) rfl rfl (fun b35 o36 hc37 => (Zo rfl (Zr (run_field un41 rfl inf3 (by decide) rfl) rfl (Zo rfl (Zr (run_as (run_load sc3 rfl (hc37 0 _ rfl)) (show _ = Value.int .i64 1 from rfl)) rfl (Zo rfl (Zr (run_asB (c := false) (run_neq rfl rfl) (by decide)) rfl (Zr (run_pick_f rfl rfl) rfl (Zj (St_iff rfl (St_skip (Zq (Zs (Zm rfl ?_))))))))))))))))))))))))))))))))))))
    replace hs := hs.F2
    refine Zc fn12 rfl (cTries_c w w34 _ bc2 bd bj2 (re p Ao2 co2) ops [o0] false hs (by simp) (fun t ht => by rw [List.mem_singleton] at ht; subst ht; exact ⟨by rw [ho3]; omega, by rw [ho4]; simp⟩)) rfl ?_
    rintro v39 w40 ⟨vo, o1A, o1c, hvo, rfl, hs⟩
    replace hs := hs.triesK hvo
    obtain ⟨q1, hq1⟩ := one_row hvo
    subst hq1
    refine Ls_index (KT) ((hs.kept 0 rfl).1) un44 inf43 rfl rfl (by decide) (by simp) (show _ = (o0, q1) from rfl) rfl (fun b41 o42 hc43 => (Zr (run_as (run_load_agg agg43 inf43 rfl rfl hc43) (show _ = Value.agg #[.int .i64 (o0, q1).1.b, .int .i64 (o0, q1).1.a, .int .i64 (o0, q1).1.nd, .int .i64 (o0, q1).1.ph, .int .i64 (o0, q1).1.ti, .slice (o0, q1).2.fA (o0, q1).1.fr.length (o0, q1).2.fc, .slice (o0, q1).2.tA (o0, q1).1.to.length (o0, q1).2.tc] from rfl)) rfl (Ls_alloc hs inf43 rfl (fun b45 w44 hs => (Ls_storeAgg hs inf43 rfl rfl rfl rfl (by simp [Value.oneCell', Value.cells, mcells, tcells]) (fun w46 hs => (Zj (St_seq (Zs (Za rfl (Zj (St_block ?_))))))))))))
    replace hs := hs.E3.E3.E5.F5.F1.F5.F5.F5.F5
    obtain ⟨En47, hEn47⟩ := ex1 fun (n : Nat) => ([(2, .slice A2 n2a c2a), (3, .pointer (some ⟨b2, 0, none⟩)), (12, .pointer (some ⟨bc2, 0, none⟩)), (15, .pointer (some ⟨b45, 0, none⟩)), (16, .int .i64 (n : Int))] : Env)
    obtain ⟨Iv48, hIv48⟩ := ew1 fun (n : Nat) (wr : World) => Sat w wr [Keep (TK o1A o1c [(o0, q1)]), CA 79 43 bc2 bd bj2 (re p Ao2 co2) ops [tiAt o0 ((n : Int) - 1)] false, JA 108 3 bj2 (some ⟨bd, 0, none⟩) j1, DiskA 122 125 5 bd d1, Blk b45 [.int .i64 (o0, q1).1.b, .int .i64 (o0, q1).1.a, .int .i64 (o0, q1).1.nd, .int .i64 (o0, q1).1.ph, .int .i64 (o0, q1).1.ti, .slice (o0, q1).2.fA (o0, q1).1.fr.length (o0, q1).2.fc, .slice (o0, q1).2.tA (o0, q1).1.to.length (o0, q1).2.tc] 43, Blk b2 [.int .i64 p.pa, .int .i64 p.st, .int .i64 p.wo, .slice p.oA p.on p.oc, .int .i64 p.ag, .int .i64 p.ba, .int .i64 p.wi, .int .i64 p.gu] 24] ∧ 1 ≤ n ∧ (n : Int) ≤ p.gu
    obtain ⟨ms49, hms49⟩ := ex1 fun (n : Nat) => (p.gu.toNat - n : Nat)
    refine St_loop En47 Iv48 ms49 (1) ?_ ?_ ?_
    · rw [hIv48]
      refine ⟨?_, Nat.le_refl _, by omega⟩
      rw [show (((1 : Nat) : Int) - 1) = 0 by omega, hoz]
      exact hs
    · rw [hEn47]; exact sE ⟨rfl, rfl, rfl, rfl, rfl, trivial⟩
    rintro n wr hI50
    rw [hIv48] at hI50
    obtain ⟨hs, hn1g, hng⟩ := hI50
    refine St_eqE (hEn47 _) (St_seq (Zs (Zm rfl (Zf un24 inf3 rfl 7 rfl (Zl sc3 rfl (hs.blk_at 5 rfl 7 rfl) (Zr (run_lss rfl rfl) rfl (Zj (St_ifP rfl (fun h51 => ?_) (fun h51 => ?_)))))))))
    · refine St_skip (Zq (St_seq (St_block (Zs (Zm rfl ?_)))))
      replace hs := hs.F3.F3.F3
      have hE : ctick p ops [tiAt o0 ((n : Int) - 1)] false j1 d1 = (none, 0, [tiAt o0 (n : Int)], false, j1, d1) := by have h9 := gu_tick (p := p) (ops := ops) (j := j1) (d := d1) (t := o0) (k := (n : Int) - 1) hC1.je hC1.dn ho1 (by omega); rw [show (n : Int) - 1 + 1 = (n : Int) by omega] at h9; exact h9
      refine Zc fn11 rfl (cTick_c w wr _ bc2 bd bj2 (re p Ao2 co2) ops [tiAt o0 ((n : Int) - 1)] false j1 d1 hs (fun t ht => by rw [List.mem_singleton] at ht; subst ht; show _ ≤ (n : Int) - 1 ∧ (n : Int) - 1 ≤ _; omega) (by simp) (by show ∀ t ∈ ageT p.gu _, _; rw [age_at ho1 (by omega)]; intro t ht; rw [List.mem_singleton] at ht; subst ht; show o0.to.length ≤ _; rw [ho4]; simp) hC1.jo hC1.rows (by show p.on ≤ _; omega)) rfl ?_
      rintro v52 w53 ⟨va, rfl, hs⟩
      rw [ctick_re, hE] at hs ⊢
      simp only at hs ⊢
      obtain ⟨hvb, h9⟩ := hs.moNone
      subst hvb
      replace hs := h9
      refine Zm rfl (Zr (run_extract rfl rfl) rfl (Zr (run_extract rfl rfl) rfl (Za rfl (Za rfl (Zt (Zm rfl (Zc fn12 rfl (cTries_c w w53 _ bc2 bd bj2 (re p Ao2 co2) ops [tiAt o0 (n : Int)] false hs (by simp) (fun t ht => by rw [List.mem_singleton] at ht; subst ht; exact ⟨by show o0.fr.length ≤ _; rw [ho3]; omega, by show o0.to.length ≤ _; rw [ho4]; simp⟩)) rfl ?_)))))))
      rintro v54 w55 ⟨vo, o2A, o2c, hvo, rfl, hs⟩
      replace hs := hs.triesK hvo
      obtain ⟨q2, hq2⟩ := one_row hvo
      subst hq2
      refine Za rfl (Zj (St_seq ?_))
      replace hs := hs.F5
      refine St_hold (Hold.of (Ls := [_, _]) hs) mixed (fun w56 q57 => ?_)
      replace hs := hs.quiet q57
      have hH := Hold.of (Ls := [_, _]) hs
      refine Ym hH 0 rfl (by kernel_rfl) rfl (Ya hH 1 rfl (by kernel_rfl) (fun x hx => run_asB (c := false) (run_neq rfl rfl) (by decide)) (Ym hH 2 rfl (by kernel_rfl) rfl (Yo hH 3 rfl (by kernel_rfl) rfl (fun x hx => run_move rfl) (Yo hH 4 rfl (by kernel_rfl) rfl (fun x hx => run_len un29 rfl) (Yo hH 5 rfl (by kernel_rfl) rfl (fun x hx => run_asB (c := false) (run_neq rfl rfl) (by decide)) (Ya hH 6 rfl (by kernel_rfl) (fun x hx => run_pick_f rfl rfl) (Ym hH 7 rfl (by kernel_rfl) rfl (Yo hH 8 rfl (by kernel_rfl) rfl (fun x hx => run_move rfl) (Yo hH 9 rfl (by kernel_rfl) rfl (fun x hx => run_len un44 rfl) (Yo hH 10 rfl (by kernel_rfl) rfl (fun x hx => run_asB (c := false) (run_neq rfl rfl) (by simp)) (Ya hH 11 rfl (by kernel_rfl) (fun x hx => run_pick_f rfl rfl) (Ym hH 12 rfl (by kernel_rfl) rfl (Yo hH 13 rfl (by kernel_rfl) rfl (fun x hx => run_move rfl) (An_index_on 14  (KT) rfl (by kernel_rfl) (by kernel_rfl) (by kernel_rfl) rfl rfl (fun _ _ _ _ h => h) hH (fun x hx => ((hx.choose_spec.kept 1 rfl).1)) un44 inf43 rfl rfl (by decide) (by simp) (show _ = (tiAt o0 (n : Int), q2) from rfl) rfl (fun b58 o59 hc60 => (Yo hH 15 rfl (by kernel_rfl) rfl (fun x hx => run_field un43 rfl inf3 (by decide) rfl) (Yo hH 16 rfl (by kernel_rfl) rfl (fun x hx => run_as (run_load sc3 rfl ((hc60 x hx) 1 _ rfl)) (show _ = Value.int .i64 o0.a from rfl)) (Yo hH 17 rfl (by kernel_rfl) rfl (fun x hx => run_fd un43 inf3 rfl 1 rfl) (Yo hH 18 rfl (by kernel_rfl) rfl (fun x hx => run_load sc3 rfl (hx.choose_spec.blk_at 0 rfl 1 rfl)) (Yo hH 19 rfl (by kernel_rfl) rfl (fun x hx => run_asB (c := false) (run_neq rfl rfl) (decide_eq_false (fun q => q rfl))) (Ya hH 20 rfl (by kernel_rfl) (fun x hx => run_pick_f rfl rfl) (Ym hH 21 rfl (by kernel_rfl) rfl (Yo hH 22 rfl (by kernel_rfl) rfl (fun x hx => run_move rfl) (An_index_on 23  (KT) rfl (by kernel_rfl) (by kernel_rfl) (by kernel_rfl) rfl rfl (fun _ _ _ _ h => h) hH (fun x hx => ((hx.choose_spec.kept 1 rfl).1)) un44 inf43 rfl rfl (by decide) (by simp) (show _ = (tiAt o0 (n : Int), q2) from rfl) rfl (fun b61 o62 hc63 => (Yo hH 24 rfl (by kernel_rfl) rfl (fun x hx => run_field un43 rfl inf3 (by decide) rfl) (Yo hH 25 rfl (by kernel_rfl) rfl (fun x hx => run_as (run_load sc3 rfl ((hc63 x hx) 4 _ rfl)) (show _ = Value.int .i64 (n : Int) from rfl)) (Yo hH 26 rfl (by kernel_rfl) rfl (fun x hx => run_move rfl) (Yo hH 27 rfl (by kernel_rfl) rfl (fun x hx => run_asB (c := false) (run_neq rfl rfl) (decide_eq_false (fun q => q rfl))) (Ya hH 28 rfl (by kernel_rfl) (fun x hx => run_pick_f rfl rfl) (An_done (by kernel_rfl) (Zq (St_iff rfl (St_skip (Jm_block_normal (Zq (St_region (Zm rfl (Zr (run_add rfl rfl (w64 (by omega))) rfl (Za rfl (Ls_nil ?_)))))))))))))))))))))))))))))))))))))))))
      replace hs := hs.E1.F5.F1.F4.F4.F4.F5
      refine Jm_round (n + 1) ?_ ?_ ?_
      · rw [hEn47]; exact sE ⟨rfl, rfl, rfl, rfl, rfl, trivial⟩
      · rw [hIv48]
        refine ⟨?_, by omega, by omega⟩
        rw [show (((n + 1 : Nat) : Int) - 1) = (n : Int) by omega]
        exact hs
      rw [hms49, hms49]
      omega
    refine St_exit (Jm_then_exit (Jm_then_exit (Jm_block_same (Zq (Zs (Zm rfl ?_))))))
    replace hs := hs.F3.F3.F3
    obtain ⟨d2, ht2, hC2, ha2⟩ := open_tick hC1.none_ (by omega) ha1
    rw [← gu_last (t := o0) (k := (n : Int) - 1) hC1.je hC1.dn ho1 (by omega)] at ht2
    obtain ⟨j2, hj2⟩ : ∃ z, jnext j1 (nextN j1) = z := ⟨_, rfl⟩
    obtain ⟨n0, hn0⟩ : ∃ z, newT p ops j1 [] = z := ⟨_, rfl⟩
    have hn3 : n0.fr = cu := by rw [← hn0]; exact hjn.1
    have hn4 : n0.to = [] := hn0 ▸ rfl
    have hn5 : n0.a = o0.a + 1 := by rw [ho5, ← hn0]; show j1.n.att + 1 = _; omega
    have hn6 : n0.b = o0.b := by rw [ho6, ← hn0]; show j1.n.batch + (([] : List TSt).length : Int) + 1 = _; simp; omega
    have hn7 : n0.ti = 0 := hn0 ▸ rfl
    rw [hj2, hn0] at ht2 hC2
    refine Zc fn11 rfl (cTick_c w wr _ bc2 bd bj2 (re p Ao2 co2) ops [tiAt o0 ((n : Int) - 1)] false j1 d1 hs (fun t ht => by rw [List.mem_singleton] at ht; subst ht; show _ ≤ (n : Int) - 1 ∧ (n : Int) - 1 ≤ _; omega) (by simp) (by show ∀ t ∈ ageT p.gu _, _; rw [age_out ho1 (by omega)]; simp) hC1.jo hC1.rows (by show p.on ≤ _; omega)) rfl ?_
    rintro v65 w66 ⟨va, rfl, hs⟩
    rw [ctick_re, ht2] at hs ⊢
    simp only at hs ⊢
    obtain ⟨ga, Aa, ca, hva, h9⟩ := hs.moSome
    subst hva
    replace hs := h9
    refine Zm rfl (Zr (run_extract rfl rfl) rfl (Zr (run_extract rfl rfl) rfl (Za rfl (Za rfl (Zt (Zm rfl ?_))))))
    replace hs := hs.F2
    refine Zc fn12 rfl (cTries_c w w66 _ bc2 bd bj2 (re p Ao2 co2) ops [n0] false hs (by simp) (fun t ht => by rw [List.mem_singleton] at ht; subst ht; exact ⟨by rw [hn3]; omega, by rw [hn4]; simp⟩)) rfl ?_
    rintro v67 w68 ⟨vo, o3A, o3c, hvo, rfl, hs⟩
    replace hs := hs.triesK hvo
    obtain ⟨q3, hq3⟩ := one_row hvo
    subst hq3
    refine Za rfl (Zj (St_seq (St_seq ?_)))
    replace hs := hs.F6.F1.F7
    refine St_hold (Hold.of (Ls := [_, _, _]) hs) mixed (fun w69 q70 => ?_)
    replace hs := hs.quiet q70
    have hH := Hold.of (Ls := [_, _, _]) hs
    refine Ym hH 0 rfl (by kernel_rfl) rfl (Ya hH 1 rfl (by kernel_rfl) (fun x hx => run_asB (c := false) (run_neq rfl rfl) (by decide)) (Ym hH 2 rfl (by kernel_rfl) rfl (Yo hH 3 rfl (by kernel_rfl) rfl (fun x hx => run_move rfl) (Yo hH 4 rfl (by kernel_rfl) rfl (fun x hx => run_len un29 rfl) (Yo hH 5 rfl (by kernel_rfl) rfl (fun x hx => run_asB (c := false) (run_neq rfl rfl) (by decide)) (Ya hH 6 rfl (by kernel_rfl) (fun x hx => run_pick_f rfl rfl) (Ym hH 7 rfl (by kernel_rfl) rfl (Yo hH 8 rfl (by kernel_rfl) rfl (fun x hx => run_move rfl) (Yo hH 9 rfl (by kernel_rfl) rfl (fun x hx => run_len un44 rfl) (Yo hH 10 rfl (by kernel_rfl) rfl (fun x hx => run_asB (c := false) (run_neq rfl rfl) (by simp)) (Ya hH 11 rfl (by kernel_rfl) (fun x hx => run_pick_f rfl rfl) (Ym hH 12 rfl (by kernel_rfl) rfl (Yo hH 13 rfl (by kernel_rfl) rfl (fun x hx => run_move rfl) (An_index_on 14  (KT) rfl (by kernel_rfl) (by kernel_rfl) (by kernel_rfl) rfl rfl (fun _ _ _ _ h => h) hH (fun x hx => ((hx.choose_spec.kept 1 rfl).1)) un44 inf43 rfl rfl (by decide) (by simp) (show _ = (n0, q3) from rfl) rfl (fun b71 o72 hc73 => (Yo hH 15 rfl (by kernel_rfl) rfl (fun x hx => run_field un43 rfl inf3 (by decide) rfl) (Yo hH 16 rfl (by kernel_rfl) rfl (fun x hx => run_as (run_load sc3 rfl ((hc73 x hx) 0 _ rfl)) (show _ = Value.int .i64 n0.b from rfl)) (Yo hH 17 rfl (by kernel_rfl) rfl (fun x hx => run_fd un43 inf3 rfl 0 rfl) (Yo hH 18 rfl (by kernel_rfl) rfl (fun x hx => run_load sc3 rfl (hx.choose_spec.blk_at 0 rfl 0 rfl)) (Yo hH 19 rfl (by kernel_rfl) rfl (fun x hx => run_asB (c := false) (run_neq rfl rfl) (decide_eq_false (by omega))) (Ya hH 20 rfl (by kernel_rfl) (fun x hx => run_pick_f rfl rfl) (Ym hH 21 rfl (by kernel_rfl) rfl (Yo hH 22 rfl (by kernel_rfl) rfl (fun x hx => run_move rfl) (An_index_on 23  (KT) rfl (by kernel_rfl) (by kernel_rfl) (by kernel_rfl) rfl rfl (fun _ _ _ _ h => h) hH (fun x hx => ((hx.choose_spec.kept 1 rfl).1)) un44 inf43 rfl rfl (by decide) (by simp) (show _ = (n0, q3) from rfl) rfl (fun b74 o75 hc76 => (Yo hH 24 rfl (by kernel_rfl) rfl (fun x hx => run_field un43 rfl inf3 (by decide) rfl) (Yo hH 25 rfl (by kernel_rfl) rfl (fun x hx => run_as (run_load sc3 rfl ((hc76 x hx) 1 _ rfl)) (show _ = Value.int .i64 n0.a from rfl)) (Yo hH 26 rfl (by kernel_rfl) rfl (fun x hx => run_fd un43 inf3 rfl 1 rfl) (Yo hH 27 rfl (by kernel_rfl) rfl (fun x hx => run_load sc3 rfl (hx.choose_spec.blk_at 0 rfl 1 rfl)) (Yo hH 28 rfl (by kernel_rfl) rfl (fun x hx => run_add rfl rfl (w64 (by omega))) (Yo hH 29 rfl (by kernel_rfl) rfl (fun x hx => run_asB (c := false) (run_neq rfl rfl) (decide_eq_false (by omega))) (Ya hH 30 rfl (by kernel_rfl) (fun x hx => run_pick_f rfl rfl) (Ym hH 31 rfl (by kernel_rfl) rfl (Yo hH 32 rfl (by kernel_rfl) rfl (fun x hx => run_move rfl) (An_index_on 33  (KT) rfl (by kernel_rfl) (by kernel_rfl) (by kernel_rfl) rfl rfl (fun _ _ _ _ h => h) hH (fun x hx => ((hx.choose_spec.kept 1 rfl).1)) un44 inf43 rfl rfl (by decide) (by simp) (show _ = (n0, q3) from rfl) rfl (fun b77 o78 hc79 => (Yo hH 34 rfl (by kernel_rfl) rfl (fun x hx => run_field un43 rfl inf3 (by decide) rfl) (Yo hH 35 rfl (by kernel_rfl) rfl (fun x hx => run_as (run_load sc3 rfl ((hc79 x hx) 4 _ rfl)) (show _ = Value.int .i64 n0.ti from rfl)) (Yo hH 36 rfl (by kernel_rfl) rfl (fun x hx => run_asB (c := false) (run_neq rfl rfl) (decide_eq_false (by omega))) (Ya hH 37 rfl (by kernel_rfl) (fun x hx => run_pick_f rfl rfl) (Ym hH 38 rfl (by kernel_rfl) rfl (Yo hH 39 rfl (by kernel_rfl) rfl (fun x hx => run_move rfl) (An_index_on 40  (KT) rfl (by kernel_rfl) (by kernel_rfl) (by kernel_rfl) rfl rfl (fun _ _ _ _ h => h) hH (fun x hx => ((hx.choose_spec.kept 1 rfl).1)) un44 inf43 rfl rfl (by decide) (by simp) (show _ = (n0, q3) from rfl) rfl (fun b80 o81 hc82 => (Yo hH 41 rfl (by kernel_rfl) rfl (fun x hx => run_field un43 rfl inf25 (by decide) rfl) (Yo hH 42 rfl (by kernel_rfl) rfl (fun x hx => run_as (run_load sc25 rfl ((hc82 x hx) 5 _ rfl)) (show Value.slice q3.fA n0.fr.length q3.fc = Value.slice q3.fA cn q3.fc by rw [hn3, hcn])) (Yo hH 43 rfl (by kernel_rfl) rfl (fun x hx => run_fd un43 inf25 rfl 5 rfl) (Yo hH 44 rfl (by kernel_rfl) rfl (fun x hx => run_as (run_load sc25 rfl (hx.choose_spec.blk_at 0 rfl 5 rfl)) (show Value.slice q1.fA o0.fr.length q1.fc = Value.slice q1.fA cn q1.fc by rw [ho3, hcn])) (An_only 45 (by kernel_rfl) rfl (Zo rfl (Zc fn13 rfl (ints19_c w69 _ _ _ cu _ _ _ cu (tk_fr hn3 hcn (hs.kept 1 rfl)) (tk_fr ho3 hcn (hs.kept 2 rfl)) (by omega)) rfl ?_)))))))))))))))))))))))))))))))))))))))))))))))))))
    rintro v83 w84 ⟨rfl, hsF⟩
    replace hs := hs.T hsF
    rw [decide_eq_true rfl]
    replace hs := hs.F2.F2.F2
    replace hH := Hold.of (Ls := [_, _, _]) hs
    refine Ls_nil (Jm_An hH (Yo hH 46 rfl (by kernel_rfl) rfl (fun x hx => run_not rfl) (Ya hH 47 rfl (by kernel_rfl) (fun x hx => run_pick_f rfl rfl) (An_done (by kernel_rfl) (Zq (St_iff rfl (St_skip (Zq (Zs (Zm rfl ?_))))))))))
    replace hs := hs.F6.F4
    refine Zc fn17 rfl (cNote_c w w84 _ bc2 bd bj2 (re p Ao2 co2) ops [n0] false j2 hs (by have := hC2.note; omega)) rfl ?_
    rintro v86 w87 ⟨Nnp, nnp, Nnc, nnc, rfl, hs⟩
    refine Ls_alloc hs inf53 rfl (fun b89 w88 hs => (Ls_storeAgg hs inf53 rfl rfl rfl rfl (by simp [Value.oneCell', Value.cells, mcells, tcells]) (fun w90 hs => (Zj (St_seq ?_)))))
    replace hs := hs.F7.F11.F7
    refine St_hold (Hold.of (Ls := [_, _, _]) hs) mixed (fun w91 q92 => ?_)
    replace hs := hs.quiet q92
    have hH := Hold.of (Ls := [_, _, _]) hs
    refine Ym hH 0 rfl (by kernel_rfl) rfl (Ya hH 1 rfl (by kernel_rfl) (fun x hx => run_load_agg agg43 inf43 rfl rfl (hx.choose_spec.blk_cells 0 rfl 0 7)) (Ya hH 2 rfl (by kernel_rfl) (fun x hx => run_load_agg agg24 inf24 rfl rfl (hx.choose_spec.blk_cells 1 rfl 0 8)) (Ya hH 3 rfl (by kernel_rfl) (fun x hx => run_fd un43 inf25 rfl 5 rfl) (Ya hH 4 rfl (by kernel_rfl) (fun x hx => run_as (run_load sc25 rfl (hx.choose_spec.blk_at 0 rfl 5 rfl)) (show Value.slice q1.fA o0.fr.length q1.fc = Value.slice q1.fA cu.length q1.fc by rw [ho3])) (Ym hH 5 rfl (by kernel_rfl) rfl (An_only 6 (by kernel_rfl) rfl ?_))))))
    obtain ⟨mb, hmb⟩ : ∃ z : Nat, p.ba + 1 = (z : Int) := ⟨(p.ba + 1).toNat, by omega⟩
    refine Zc fn14 rfl (onward_c w91 p q1.fA q1.fc cu (tk_fr ho3 rfl (hs.kept 2 rfl)) A2 n2a c2a ol2 (hro.inB hs) hn2a mb hmb (by omega) (by omega) (fun y hy => by rw [← hcu] at hy; exact (noteOk_pos hciO.jo.1).2 y hy)) rfl ?_
    rintro v93 w94 ⟨xa, eaA, eaC, hxa, rfl, hsO⟩
    replace hs := hs.T hsO
    rw [hcn] at hs ⊢
    have hla : xa.length = cn := by rw [hxa.1, hcn]
    have heba : EB j1.parts xa := by
      have h8 := (note_eb hC1.jo.1).1
      rw [hjn.1] at h8
      exact (onw_facts hxa h8).1
    replace hs := hs.F3.F3.F3
    replace hH := Hold.of (Ls := [_, _, _]) hs
    refine Ls_nil (Jm_An hH (An_only 7 (by kernel_rfl) rfl (Zc fn16 rfl (labout_c w94 2 (o0, q1) _ _ _) rfl ?_)))
    rintro v95 w96 ⟨rfl, hsF⟩
    replace hs := hs.T hsF
    replace hs := hs.F2.F2.F2
    replace hH := Hold.of (Ls := [_, _, _]) hs
    refine Ls_nil (Jm_An hH (An_only 8 (by kernel_rfl) rfl ?_))
    replace hs := hs.F12.F9.F9
    have hsoa : Msound (aboutT 2 o0 xa) := hC1.about (i := 0) (by omega) (by simp) (.inl rfl) heba
    have hE := old_ready hC2 hsoa (by omega)
    refine Zc fn15 rfl (cTake_c w w96 _ bc2 bd bj2 (re p Ao2 co2) ops [n0] false j2 d2 hs hC2.jo hC2.rows (aboutT 2 o0 xa) ⟨eaA, cn, eaC, none, 0, 0, none, 0, 0⟩ (fun w' X z => ⟨z.rd_at 4 rfl, Rd.none w' 1, Rd.none w' 3⟩) hla (by refine ⟨?_, ?_, ?_⟩ <;> simp only <;> omega) (by simp) (fun t ht => by have := hC2.lens.2 t ht; omega) (fun t ht => by have := hC2.lens.2 t ht; exact ⟨by omega, this.2.2.1⟩)) rfl ?_
    rintro v97 w98 ⟨vb, rfl, hs⟩
    rw [ctake_re, hE] at hs ⊢
    simp only at hs ⊢
    obtain ⟨hvb, h9⟩ := hs.moNone
    subst hvb
    replace hs := h9
    replace hs := hs.F5.F5.F5
    replace hH := Hold.of (Ls := [_, _, _]) hs
    refine Ls_nil (Jm_An hH (Ym hH 9 rfl (by kernel_rfl) rfl (Ya hH 10 rfl (by kernel_rfl) (fun x hx => run_extract rfl rfl) (Ya hH 11 rfl (by kernel_rfl) (fun x hx => run_extract rfl rfl) (Ya hH 12 rfl (by kernel_rfl) (fun x hx => run_assign rfl) (Ya hH 13 rfl (by kernel_rfl) (fun x hx => run_assign rfl) (An_done (by kernel_rfl) (Zq (St_seq (Zs (Zm rfl (Zr (run_asB (c := false) (run_neq rfl rfl) (by decide)) rfl (Zm rfl (Zo rfl (Zm rfl (Zo rfl (Zr (run_len un29 rfl) rfl (Zo rfl (Zr (run_asB (c := false) (run_neq rfl rfl) (by decide)) rfl (Zr (run_pick_f rfl rfl) rfl (Zj (St_iff rfl (St_skip (Zq (St_seq ?_)))))))))))))))))))))))))
    replace hs := hs.F2.F2.F2
    refine St_hold (Hold.of (Ls := [_, _, _]) hs) mixed (fun w100 q101 => ?_)
    replace hs := hs.quiet q101
    have hH := Hold.of (Ls := [_, _, _]) hs
    refine Ym hH 0 rfl (by kernel_rfl) rfl (Ya hH 1 rfl (by kernel_rfl) (fun x hx => run_load_agg agg43 inf43 rfl rfl (hx.choose_spec.blk_cells 0 rfl 0 7)) (Ya hH 2 rfl (by kernel_rfl) (fun x hx => run_load_agg agg24 inf24 rfl rfl (hx.choose_spec.blk_cells 1 rfl 0 8)) (Ya hH 3 rfl (by kernel_rfl) (fun x hx => run_fd un43 inf25 rfl 5 rfl) (Ya hH 4 rfl (by kernel_rfl) (fun x hx => run_as (run_load sc25 rfl (hx.choose_spec.blk_at 0 rfl 5 rfl)) (show Value.slice q1.fA o0.fr.length q1.fc = Value.slice q1.fA cu.length q1.fc by rw [ho3])) (Ym hH 5 rfl (by kernel_rfl) rfl (An_only 6 (by kernel_rfl) rfl ?_))))))
    obtain ⟨mb, hmb⟩ : ∃ z : Nat, p.ba + 1 = (z : Int) := ⟨(p.ba + 1).toNat, by omega⟩
    refine Zc fn14 rfl (onward_c w100 p q1.fA q1.fc cu (tk_fr ho3 rfl (hs.kept 2 rfl)) A2 n2a c2a ol2 (hro.inB hs) hn2a mb hmb (by omega) (by omega) (fun y hy => by rw [← hcu] at hy; exact (noteOk_pos hciO.jo.1).2 y hy)) rfl ?_
    rintro v102 w103 ⟨xb, ebA, ebC, hxb, rfl, hsO⟩
    replace hs := hs.T hsO
    rw [hcn] at hs ⊢
    have hlb : xb.length = cn := by rw [hxb.1, hcn]
    have hebb : EB j1.parts xb := by
      have h8 := (note_eb hC1.jo.1).1
      rw [hjn.1] at h8
      exact (onw_facts hxb h8).1
    replace hs := hs.F3.F3.F3
    replace hH := Hold.of (Ls := [_, _, _]) hs
    refine Ls_nil (Jm_An hH (An_only 7 (by kernel_rfl) rfl (Zc fn16 rfl (labout_c w103 8 (o0, q1) _ _ _) rfl ?_)))
    rintro v104 w105 ⟨rfl, hsF⟩
    replace hs := hs.T hsF
    replace hs := hs.F2.F2.F2
    replace hH := Hold.of (Ls := [_, _, _]) hs
    refine Ls_nil (Jm_An hH (An_only 8 (by kernel_rfl) rfl ?_))
    replace hs := hs.F6.F6.F6
    have hsob : Msound (aboutT 8 o0 xb) := hC1.about (i := 0) (by omega) (by simp) (.inr rfl) hebb
    have hE := old_done hC2 hsob (by omega)
    refine Zc fn15 rfl (cTake_c w w105 _ bc2 bd bj2 (re p Ao2 co2) ops [n0] false j2 d2 hs hC2.jo hC2.rows (aboutT 8 o0 xb) ⟨ebA, cn, ebC, none, 0, 0, none, 0, 0⟩ (fun w' X z => ⟨z.rd_at 4 rfl, Rd.none w' 1, Rd.none w' 3⟩) hlb (by refine ⟨?_, ?_, ?_⟩ <;> simp only <;> omega) (by simp) (fun t ht => by have := hC2.lens.2 t ht; omega) (fun t ht => by have := hC2.lens.2 t ht; exact ⟨by omega, this.2.2.1⟩)) rfl ?_
    rintro v106 w107 ⟨vb, rfl, hs⟩
    rw [ctake_re, hE] at hs ⊢
    simp only at hs ⊢
    obtain ⟨hvb, h9⟩ := hs.moNone
    subst hvb
    replace hs := h9
    replace hs := hs.F5.F5.F5
    replace hH := Hold.of (Ls := [_, _, _]) hs
    refine Ls_nil (Jm_An hH (Ym hH 9 rfl (by kernel_rfl) rfl (Ya hH 10 rfl (by kernel_rfl) (fun x hx => run_extract rfl rfl) (Ya hH 11 rfl (by kernel_rfl) (fun x hx => run_extract rfl rfl) (Ya hH 12 rfl (by kernel_rfl) (fun x hx => run_assign rfl) (Ya hH 13 rfl (by kernel_rfl) (fun x hx => run_assign rfl) (An_done (by kernel_rfl) (Zq (St_seq ?_)))))))))
    replace hs := hs.F8
    refine St_hold (Hold.of (Ls := [_]) hs) mixed (fun w108 q109 => ?_)
    replace hs := hs.quiet q109
    have hH := Hold.of (Ls := [_]) hs
    refine Ym hH 0 rfl (by kernel_rfl) rfl (Ya hH 1 rfl (by kernel_rfl) (fun x hx => run_asB (c := true) (run_eql rfl rfl) (by decide)) (Ym hH 2 rfl (by kernel_rfl) rfl (Yo hH 3 rfl (by kernel_rfl) rfl (fun x hx => run_move rfl) (Yo hH 4 rfl (by kernel_rfl) rfl (fun x hx => run_len un29 rfl) (Yo hH 5 rfl (by kernel_rfl) rfl (fun x hx => run_asB (c := true) (run_eql rfl rfl) (by decide)) (Ya hH 6 rfl (by kernel_rfl) (fun x hx => run_pick_t rfl rfl) (Ym hH 7 rfl (by kernel_rfl) rfl (Yo hH 8 rfl (by kernel_rfl) rfl (fun x hx => run_move rfl) (Yo hH 10 rfl (by kernel_rfl) rfl (fun x hx => run_move rfl) (An_only 9 (by kernel_rfl) rfl (Zo rfl ?_)))))))))))
    replace hs := hs.F4
    refine Zc fn12 rfl (cTries_c w w108 _ bc2 bd bj2 (re p Ao2 co2) ops [n0] false hs (by simp) (fun t ht => by rw [List.mem_singleton] at ht; subst ht; exact ⟨by rw [hn3]; omega, by rw [hn4]; simp⟩)) rfl ?_
    rintro v110 w111 ⟨vo, o4A, o4c, hvo, rfl, hs⟩
    replace hs := hs.triesK hvo
    obtain ⟨q4, hq4⟩ := one_row hvo
    subst hq4
    replace hs := hs.F2
    replace hH := Hold.of (Ls := [_]) hs
    refine Ls_nil (Jm_An hH (An_only 11 (by kernel_rfl) rfl (Zo rfl (Zc fn22 rfl (tries_c w111 _ _ _ [(n0, q4)] _ _ _ [(n0, q3)] (hs.kept 1 rfl).1 (hs.kept 12 rfl).1 rfl (hs.kept 1 rfl).2 (hs.kept 12 rfl).2 (by simp) (fun x hx => by rw [List.mem_singleton] at hx; subst hx; exact ⟨by rw [hn3]; omega, by rw [hn4]; simp⟩)) rfl ?_))))
    rintro v112 w113 ⟨rfl, hsF⟩
    replace hs := hs.T hsF
    replace hH := Hold.of (Ls := [_]) hs
    refine Ls_nil (Jm_An hH (Ya hH 12 rfl (by kernel_rfl) (fun x hx => run_pick_t rfl rfl) (Ym hH 13 rfl (by kernel_rfl) rfl (Yo hH 14 rfl (by kernel_rfl) rfl (fun x hx => run_move rfl) (Yo hH 16 rfl (by kernel_rfl) rfl (fun x hx => run_load_agg agg53 inf53 rfl rfl (hx.choose_spec.blk_cells 0 rfl 0 4)) (An_only 15 (by kernel_rfl) rfl (Zo rfl ?_)))))))
    replace hs := hs.F6.F3
    refine Zc fn17 rfl (cNote_c w w113 _ bc2 bd bj2 (re p Ao2 co2) ops [n0] false j2 hs (by have := hC2.note; omega)) rfl ?_
    rintro v114 w115 ⟨Nnp2, nnp2, Nnc2, nnc2, rfl, hs⟩
    replace hs := hs.F4
    replace hH := Hold.of (Ls := [_]) hs
    refine Ls_nil (Jm_An hH (An_only 17 (by kernel_rfl) rfl (Zo rfl (Zc fn23 rfl (notes19_c w115 j2.n _ _ _ _ _ _ _ _ (hs.rd_at 1 rfl) (hs.rd_at 2 rfl) (hs.rd_at 12 rfl) (hs.rd_at 13 rfl) (by have := hC2.note; omega)) rfl ?_))))
    rintro v116 w117 ⟨rfl, hsF⟩
    replace hs := hs.T hsF
    replace hH := Hold.of (Ls := [_]) hs
    refine Ls_nil (Jm_An hH (Ya hH 18 rfl (by kernel_rfl) (fun x hx => run_pick_t rfl rfl) (Ya hH 19 rfl (by kernel_rfl) (fun x hx => run_assign rfl) (An_done (by kernel_rfl) (Zq (St_ret (Jm_ret1 rfl rfl ?_)))))))
    exact ⟨_, rfl, rfl, hs.below⟩
  refine Zx rfl (Zx rfl (Zr (run_pick_f rfl rfl) rfl (Zj (St_iff rfl (St_exit (Jm_then_exit (Jm_then_exit (Jm_block_same (Zq (Zs ?_))))))))))
  obtain ⟨bd, bc, bj, Ao, co, sA, sc, vs, hvs, hvl, hs⟩ := wopen19 hs
  unfold wcells at hs
  refine Zf un31 inf27 rfl 8 rfl (Zl sc27 rfl (hs.blk_at 0 rfl 8 rfl) ?_)
  replace hs := hs.F3
  obtain ⟨vs0, A0, c0, hv0, hs⟩ := hs.dopen
  refine Zc fn20 rfl (On_c w wr _ bd d A0 c0 hs) rfl ?_
  rintro v119 w120 ⟨rfl, hs⟩
  replace hs := Sat.dshut (s := don d) hv0 hs
  obtain ⟨hop, hrows, hbl1, hciO⟩ := hci.back (d2 := don d) rfl rfl rfl
  have harm : (dread_k (don d) 2).armed = false := by rw [(dread_k_same (don d) 2).2.2.1]; rfl
  refine Zt (Zr (run_load_agg agg24 inf24 rfl rfl (hs.blk_cells 6 rfl 0 8)) rfl (Zf un31 inf27 rfl 8 rfl (Zl sc27 rfl (hs.blk_at 1 rfl 8 rfl) ?_)))
  replace hs := hs.E2.E2.E1.E1.E1
  refine Zc fn21 rfl (cOpen_c w w120 _ bd p ops (don d) (dread_k (don d) 2) j hs (hr.inB (Sat.start w)) hn hck hrows hbl1 hop) rfl ?_
  rintro v121 w122 ⟨bc2, bj2, Ao2, co2, rfl, hs⟩
  obtain ⟨d0, hd0⟩ : ∃ z, dread_k (don d) 2 = z := ⟨_, rfl⟩
  rw [hd0] at hs hciO harm
  clear hop hrows hbl1
  refine Zm rfl (Zr (run_extract rfl rfl) rfl (Zr (run_extract rfl rfl) rfl (Za rfl (Za rfl (Zj (St_seq (Zs (Zm rfl (Zr (run_asB (c := false) (run_neq rfl rfl) (by decide)) rfl (Zm rfl (Zo rfl (Zm rfl (Zo rfl (Zc fn12 rfl (cTries_c w w122 _ bc2 bd bj2 (re p Ao2 co2) ops [] false hs (by simp) (fun t ht => by cases ht)) rfl ?_))))))))))))))
  rintro v123 w124 ⟨vo, o0A, o0c, hvo, rfl, hs⟩
  replace hs := hs.triesK hvo
  obtain rfl := List.map_eq_nil_iff.1 hvo
  refine Zo rfl (Zr (run_len un44 rfl) rfl (Zo rfl (Zr (run_asB (c := false) (run_neq rfl rfl) (by decide)) rfl (Zr (run_pick_f rfl rfl) rfl (Zj (St_iff rfl (St_skip (Zq (Zs (Zm rfl ?_))))))))))
  replace hs := hs.F3.F3.F3
  obtain ⟨d1, ht1, hC1, ha1⟩ := open_tick hciO (by omega) harm
  obtain ⟨j1, hj1⟩ : ∃ z, jnext j (nextN j) = z := ⟨_, rfl⟩
  obtain ⟨o0, ho0⟩ : ∃ z, newT p ops j [] = z := ⟨_, rfl⟩
  have ho1 : o0.ph = 1 := ho0 ▸ rfl
  have ho2 : o0.ti = 0 := ho0 ▸ rfl
  have ho3 : o0.fr = j.n.cur := ho0 ▸ rfl
  have ho4 : o0.to = [] := ho0 ▸ rfl
  have ho5 : o0.a = j.n.att + 1 := ho0 ▸ rfl
  have ho6 : o0.b = j.n.batch + 1 := ho0 ▸ (show j.n.batch + (([] : List TSt).length : Int) + 1 = _ by simp)
  have hoz : tiAt o0 0 = o0 := by rw [← ho2]; rfl
  rw [hj1, ho0] at ht1 hC1
  have hnt := hciO.note
  have hbd := hciO.bd
  have hw1 := within_hi hciO.jo.1.1
  have hw2 := within_hi hciO.jo.1.2.1
  obtain ⟨cu, hcu⟩ : ∃ z, j.n.cur = z := ⟨_, rfl⟩
  obtain ⟨cn, hcn⟩ : ∃ z, cu.length = z := ⟨_, rfl⟩
  rw [hcu] at ho3 hnt
  rw [hcn] at hnt
  have hjn : j1.n.cur = cu ∧ j1.n.att = j.n.att + 1 ∧ j1.n.batch = j.n.batch := by rw [← hj1, ← hcu]; exact ⟨rfl, rfl, rfl⟩
  have hcn2 : cn ≤ 4 := hnt.2
  have hcu4 : cu.length ≤ 4 := by omega
  refine Zc fn11 rfl (cTick_c w w124 _ bc2 bd bj2 (re p Ao2 co2) ops [] false j d0 hs (fun t ht => by cases ht) (by simp) (by rw [ageT_nil]; simp) hciO.jo hciO.rows (by show p.on ≤ _; omega)) rfl ?_
  rintro v126 w127 ⟨va, rfl, hs⟩
  rw [ctick_re, ht1] at hs ⊢
  simp only at hs ⊢
  obtain ⟨ga, Aa, ca, hva, h9⟩ := hs.moSome
  subst hva
  replace hs := h9
  refine Zm rfl (Zr (run_extract rfl rfl) rfl (Zr (run_extract rfl rfl) rfl (Za rfl (Za rfl (Zj (St_seq (Zs (Zm rfl (Zr (run_asB (c := false) (run_neq rfl rfl) (by decide)) rfl (Zm rfl (Zo rfl (Zm rfl (Zo rfl (Zr (run_len un29 rfl) rfl (Zo rfl (Zr (run_asB (c := false) (run_neq rfl rfl) (by decide)) rfl (Zr (run_pick_f rfl rfl) rfl (Zm rfl (Zo rfl (Zm rfl (Zo rfl (Ls_index (KM) (msg_rd (hs.is_at 0 rfl).2) un29 inf41 rfl rfl (by omega) (by omega) rfl rfl (fun b128 o129 hc130 => (Zo rfl (Zr (run_field un41 rfl inf3 (by decide) rfl) rfl (Zo rfl (Zr (run_as (run_load sc3 rfl (hc130 0 _ rfl)) (show _ = Value.int .i64 1 from rfl)) rfl (Zo rfl (Zr (run_asB (c := false) (run_neq rfl rfl) (by decide)) rfl (Zr (run_pick_f rfl rfl) rfl (Zj (St_iff rfl (St_skip (Zq (Zs (Zm rfl ?_))))))))))))))))))))))))))))))))))))
  replace hs := hs.F2
  refine Zc fn12 rfl (cTries_c w w127 _ bc2 bd bj2 (re p Ao2 co2) ops [o0] false hs (by simp) (fun t ht => by rw [List.mem_singleton] at ht; subst ht; exact ⟨by rw [ho3]; omega, by rw [ho4]; simp⟩)) rfl ?_
  rintro v132 w133 ⟨vo, o1A, o1c, hvo, rfl, hs⟩
  replace hs := hs.triesK hvo
  obtain ⟨q1, hq1⟩ := one_row hvo
  subst hq1
  refine Ls_index (KT) ((hs.kept 0 rfl).1) un44 inf43 rfl rfl (by decide) (by simp) (show _ = (o0, q1) from rfl) rfl (fun b134 o135 hc136 => (Zr (run_as (run_load_agg agg43 inf43 rfl rfl hc136) (show _ = Value.agg #[.int .i64 (o0, q1).1.b, .int .i64 (o0, q1).1.a, .int .i64 (o0, q1).1.nd, .int .i64 (o0, q1).1.ph, .int .i64 (o0, q1).1.ti, .slice (o0, q1).2.fA (o0, q1).1.fr.length (o0, q1).2.fc, .slice (o0, q1).2.tA (o0, q1).1.to.length (o0, q1).2.tc] from rfl)) rfl (Ls_alloc hs inf43 rfl (fun b138 w137 hs => (Ls_storeAgg hs inf43 rfl rfl rfl rfl (by simp [Value.oneCell', Value.cells, mcells, tcells]) (fun w139 hs => (Zj (St_seq (Zs (Za rfl (Zj (St_block ?_))))))))))))
  replace hs := hs.E3.E3.E5.F5.F1.F5.F5.F5.F5
  obtain ⟨En140, hEn140⟩ := ex1 fun (n : Nat) => ([(2, .slice A2 n2a c2a), (3, .pointer (some ⟨b2, 0, none⟩)), (12, .pointer (some ⟨bc2, 0, none⟩)), (15, .pointer (some ⟨b138, 0, none⟩)), (16, .int .i64 (n : Int))] : Env)
  obtain ⟨Iv141, hIv141⟩ := ew1 fun (n : Nat) (wr : World) => Sat w wr [Keep (TK o1A o1c [(o0, q1)]), CA 79 43 bc2 bd bj2 (re p Ao2 co2) ops [tiAt o0 ((n : Int) - 1)] false, JA 108 3 bj2 (some ⟨bd, 0, none⟩) j1, DiskA 122 125 5 bd d1, Blk b138 [.int .i64 (o0, q1).1.b, .int .i64 (o0, q1).1.a, .int .i64 (o0, q1).1.nd, .int .i64 (o0, q1).1.ph, .int .i64 (o0, q1).1.ti, .slice (o0, q1).2.fA (o0, q1).1.fr.length (o0, q1).2.fc, .slice (o0, q1).2.tA (o0, q1).1.to.length (o0, q1).2.tc] 43, Blk b2 [.int .i64 p.pa, .int .i64 p.st, .int .i64 p.wo, .slice p.oA p.on p.oc, .int .i64 p.ag, .int .i64 p.ba, .int .i64 p.wi, .int .i64 p.gu] 24] ∧ 1 ≤ n ∧ (n : Int) ≤ p.gu
  obtain ⟨ms142, hms142⟩ := ex1 fun (n : Nat) => (p.gu.toNat - n : Nat)
  refine St_loop En140 Iv141 ms142 (1) ?_ ?_ ?_
  · rw [hIv141]
    refine ⟨?_, Nat.le_refl _, by omega⟩
    rw [show (((1 : Nat) : Int) - 1) = 0 by omega, hoz]
    exact hs
  · rw [hEn140]; exact sE ⟨rfl, rfl, rfl, rfl, rfl, trivial⟩
  rintro n wr hI143
  rw [hIv141] at hI143
  obtain ⟨hs, hn1g, hng⟩ := hI143
  refine St_eqE (hEn140 _) (St_seq (Zs (Zm rfl (Zf un24 inf3 rfl 7 rfl (Zl sc3 rfl (hs.blk_at 5 rfl 7 rfl) (Zr (run_lss rfl rfl) rfl (Zj (St_ifP rfl (fun h144 => ?_) (fun h144 => ?_)))))))))
  · refine St_skip (Zq (St_seq (St_block (Zs (Zm rfl ?_)))))
    replace hs := hs.F3.F3.F3
    have hE : ctick p ops [tiAt o0 ((n : Int) - 1)] false j1 d1 = (none, 0, [tiAt o0 (n : Int)], false, j1, d1) := by have h9 := gu_tick (p := p) (ops := ops) (j := j1) (d := d1) (t := o0) (k := (n : Int) - 1) hC1.je hC1.dn ho1 (by omega); rw [show (n : Int) - 1 + 1 = (n : Int) by omega] at h9; exact h9
    refine Zc fn11 rfl (cTick_c w wr _ bc2 bd bj2 (re p Ao2 co2) ops [tiAt o0 ((n : Int) - 1)] false j1 d1 hs (fun t ht => by rw [List.mem_singleton] at ht; subst ht; show _ ≤ (n : Int) - 1 ∧ (n : Int) - 1 ≤ _; omega) (by simp) (by show ∀ t ∈ ageT p.gu _, _; rw [age_at ho1 (by omega)]; intro t ht; rw [List.mem_singleton] at ht; subst ht; show o0.to.length ≤ _; rw [ho4]; simp) hC1.jo hC1.rows (by show p.on ≤ _; omega)) rfl ?_
    rintro v145 w146 ⟨va, rfl, hs⟩
    rw [ctick_re, hE] at hs ⊢
    simp only at hs ⊢
    obtain ⟨hvb, h9⟩ := hs.moNone
    subst hvb
    replace hs := h9
    refine Zm rfl (Zr (run_extract rfl rfl) rfl (Zr (run_extract rfl rfl) rfl (Za rfl (Za rfl (Zt (Zm rfl (Zc fn12 rfl (cTries_c w w146 _ bc2 bd bj2 (re p Ao2 co2) ops [tiAt o0 (n : Int)] false hs (by simp) (fun t ht => by rw [List.mem_singleton] at ht; subst ht; exact ⟨by show o0.fr.length ≤ _; rw [ho3]; omega, by show o0.to.length ≤ _; rw [ho4]; simp⟩)) rfl ?_)))))))
    rintro v147 w148 ⟨vo, o2A, o2c, hvo, rfl, hs⟩
    replace hs := hs.triesK hvo
    obtain ⟨q2, hq2⟩ := one_row hvo
    subst hq2
    refine Za rfl (Zj (St_seq ?_))
    replace hs := hs.F5
    refine St_hold (Hold.of (Ls := [_, _]) hs) mixed (fun w149 q150 => ?_)
    replace hs := hs.quiet q150
    have hH := Hold.of (Ls := [_, _]) hs
    refine Ym hH 0 rfl (by kernel_rfl) rfl (Ya hH 1 rfl (by kernel_rfl) (fun x hx => run_asB (c := false) (run_neq rfl rfl) (by decide)) (Ym hH 2 rfl (by kernel_rfl) rfl (Yo hH 3 rfl (by kernel_rfl) rfl (fun x hx => run_move rfl) (Yo hH 4 rfl (by kernel_rfl) rfl (fun x hx => run_len un29 rfl) (Yo hH 5 rfl (by kernel_rfl) rfl (fun x hx => run_asB (c := false) (run_neq rfl rfl) (by decide)) (Ya hH 6 rfl (by kernel_rfl) (fun x hx => run_pick_f rfl rfl) (Ym hH 7 rfl (by kernel_rfl) rfl (Yo hH 8 rfl (by kernel_rfl) rfl (fun x hx => run_move rfl) (Yo hH 9 rfl (by kernel_rfl) rfl (fun x hx => run_len un44 rfl) (Yo hH 10 rfl (by kernel_rfl) rfl (fun x hx => run_asB (c := false) (run_neq rfl rfl) (by simp)) (Ya hH 11 rfl (by kernel_rfl) (fun x hx => run_pick_f rfl rfl) (Ym hH 12 rfl (by kernel_rfl) rfl (Yo hH 13 rfl (by kernel_rfl) rfl (fun x hx => run_move rfl) (An_index_on 14  (KT) rfl (by kernel_rfl) (by kernel_rfl) (by kernel_rfl) rfl rfl (fun _ _ _ _ h => h) hH (fun x hx => ((hx.choose_spec.kept 1 rfl).1)) un44 inf43 rfl rfl (by decide) (by simp) (show _ = (tiAt o0 (n : Int), q2) from rfl) rfl (fun b151 o152 hc153 => (Yo hH 15 rfl (by kernel_rfl) rfl (fun x hx => run_field un43 rfl inf3 (by decide) rfl) (Yo hH 16 rfl (by kernel_rfl) rfl (fun x hx => run_as (run_load sc3 rfl ((hc153 x hx) 1 _ rfl)) (show _ = Value.int .i64 o0.a from rfl)) (Yo hH 17 rfl (by kernel_rfl) rfl (fun x hx => run_fd un43 inf3 rfl 1 rfl) (Yo hH 18 rfl (by kernel_rfl) rfl (fun x hx => run_load sc3 rfl (hx.choose_spec.blk_at 0 rfl 1 rfl)) (Yo hH 19 rfl (by kernel_rfl) rfl (fun x hx => run_asB (c := false) (run_neq rfl rfl) (decide_eq_false (fun q => q rfl))) (Ya hH 20 rfl (by kernel_rfl) (fun x hx => run_pick_f rfl rfl) (Ym hH 21 rfl (by kernel_rfl) rfl (Yo hH 22 rfl (by kernel_rfl) rfl (fun x hx => run_move rfl) (An_index_on 23  (KT) rfl (by kernel_rfl) (by kernel_rfl) (by kernel_rfl) rfl rfl (fun _ _ _ _ h => h) hH (fun x hx => ((hx.choose_spec.kept 1 rfl).1)) un44 inf43 rfl rfl (by decide) (by simp) (show _ = (tiAt o0 (n : Int), q2) from rfl) rfl (fun b154 o155 hc156 => (Yo hH 24 rfl (by kernel_rfl) rfl (fun x hx => run_field un43 rfl inf3 (by decide) rfl) (Yo hH 25 rfl (by kernel_rfl) rfl (fun x hx => run_as (run_load sc3 rfl ((hc156 x hx) 4 _ rfl)) (show _ = Value.int .i64 (n : Int) from rfl)) (Yo hH 26 rfl (by kernel_rfl) rfl (fun x hx => run_move rfl) (Yo hH 27 rfl (by kernel_rfl) rfl (fun x hx => run_asB (c := false) (run_neq rfl rfl) (decide_eq_false (fun q => q rfl))) (Ya hH 28 rfl (by kernel_rfl) (fun x hx => run_pick_f rfl rfl) (An_done (by kernel_rfl) (Zq (St_iff rfl (St_skip (Jm_block_normal (Zq (St_region (Zm rfl (Zr (run_add rfl rfl (w64 (by omega))) rfl (Za rfl (Ls_nil ?_)))))))))))))))))))))))))))))))))))))))))
    replace hs := hs.E1.F5.F1.F4.F4.F4.F5
    refine Jm_round (n + 1) ?_ ?_ ?_
    · rw [hEn140]; exact sE ⟨rfl, rfl, rfl, rfl, rfl, trivial⟩
    · rw [hIv141]
      refine ⟨?_, by omega, by omega⟩
      rw [show (((n + 1 : Nat) : Int) - 1) = (n : Int) by omega]
      exact hs
    rw [hms142, hms142]
    omega
  refine St_exit (Jm_then_exit (Jm_then_exit (Jm_block_same (Zq (Zs (Zm rfl ?_))))))
  replace hs := hs.F3.F3.F3
  obtain ⟨d2, ht2, hC2, ha2⟩ := open_tick hC1.none_ (by omega) ha1
  rw [← gu_last (t := o0) (k := (n : Int) - 1) hC1.je hC1.dn ho1 (by omega)] at ht2
  obtain ⟨j2, hj2⟩ : ∃ z, jnext j1 (nextN j1) = z := ⟨_, rfl⟩
  obtain ⟨n0, hn0⟩ : ∃ z, newT p ops j1 [] = z := ⟨_, rfl⟩
  have hn3 : n0.fr = cu := by rw [← hn0]; exact hjn.1
  have hn4 : n0.to = [] := hn0 ▸ rfl
  have hn5 : n0.a = o0.a + 1 := by rw [ho5, ← hn0]; show j1.n.att + 1 = _; omega
  have hn6 : n0.b = o0.b := by rw [ho6, ← hn0]; show j1.n.batch + (([] : List TSt).length : Int) + 1 = _; simp; omega
  have hn7 : n0.ti = 0 := hn0 ▸ rfl
  rw [hj2, hn0] at ht2 hC2
  refine Zc fn11 rfl (cTick_c w wr _ bc2 bd bj2 (re p Ao2 co2) ops [tiAt o0 ((n : Int) - 1)] false j1 d1 hs (fun t ht => by rw [List.mem_singleton] at ht; subst ht; show _ ≤ (n : Int) - 1 ∧ (n : Int) - 1 ≤ _; omega) (by simp) (by show ∀ t ∈ ageT p.gu _, _; rw [age_out ho1 (by omega)]; simp) hC1.jo hC1.rows (by show p.on ≤ _; omega)) rfl ?_
  rintro v158 w159 ⟨va, rfl, hs⟩
  rw [ctick_re, ht2] at hs ⊢
  simp only at hs ⊢
  obtain ⟨ga, Aa, ca, hva, h9⟩ := hs.moSome
  subst hva
  replace hs := h9
  refine Zm rfl (Zr (run_extract rfl rfl) rfl (Zr (run_extract rfl rfl) rfl (Za rfl (Za rfl (Zt (Zm rfl ?_))))))
  replace hs := hs.F2
  refine Zc fn12 rfl (cTries_c w w159 _ bc2 bd bj2 (re p Ao2 co2) ops [n0] false hs (by simp) (fun t ht => by rw [List.mem_singleton] at ht; subst ht; exact ⟨by rw [hn3]; omega, by rw [hn4]; simp⟩)) rfl ?_
  rintro v160 w161 ⟨vo, o3A, o3c, hvo, rfl, hs⟩
  replace hs := hs.triesK hvo
  obtain ⟨q3, hq3⟩ := one_row hvo
  subst hq3
  refine Za rfl (Zj (St_seq (St_seq ?_)))
  replace hs := hs.F6.F1.F7
  refine St_hold (Hold.of (Ls := [_, _, _]) hs) mixed (fun w162 q163 => ?_)
  replace hs := hs.quiet q163
  have hH := Hold.of (Ls := [_, _, _]) hs
  refine Ym hH 0 rfl (by kernel_rfl) rfl (Ya hH 1 rfl (by kernel_rfl) (fun x hx => run_asB (c := false) (run_neq rfl rfl) (by decide)) (Ym hH 2 rfl (by kernel_rfl) rfl (Yo hH 3 rfl (by kernel_rfl) rfl (fun x hx => run_move rfl) (Yo hH 4 rfl (by kernel_rfl) rfl (fun x hx => run_len un29 rfl) (Yo hH 5 rfl (by kernel_rfl) rfl (fun x hx => run_asB (c := false) (run_neq rfl rfl) (by decide)) (Ya hH 6 rfl (by kernel_rfl) (fun x hx => run_pick_f rfl rfl) (Ym hH 7 rfl (by kernel_rfl) rfl (Yo hH 8 rfl (by kernel_rfl) rfl (fun x hx => run_move rfl) (Yo hH 9 rfl (by kernel_rfl) rfl (fun x hx => run_len un44 rfl) (Yo hH 10 rfl (by kernel_rfl) rfl (fun x hx => run_asB (c := false) (run_neq rfl rfl) (by simp)) (Ya hH 11 rfl (by kernel_rfl) (fun x hx => run_pick_f rfl rfl) (Ym hH 12 rfl (by kernel_rfl) rfl (Yo hH 13 rfl (by kernel_rfl) rfl (fun x hx => run_move rfl) (An_index_on 14  (KT) rfl (by kernel_rfl) (by kernel_rfl) (by kernel_rfl) rfl rfl (fun _ _ _ _ h => h) hH (fun x hx => ((hx.choose_spec.kept 1 rfl).1)) un44 inf43 rfl rfl (by decide) (by simp) (show _ = (n0, q3) from rfl) rfl (fun b164 o165 hc166 => (Yo hH 15 rfl (by kernel_rfl) rfl (fun x hx => run_field un43 rfl inf3 (by decide) rfl) (Yo hH 16 rfl (by kernel_rfl) rfl (fun x hx => run_as (run_load sc3 rfl ((hc166 x hx) 0 _ rfl)) (show _ = Value.int .i64 n0.b from rfl)) (Yo hH 17 rfl (by kernel_rfl) rfl (fun x hx => run_fd un43 inf3 rfl 0 rfl) (Yo hH 18 rfl (by kernel_rfl) rfl (fun x hx => run_load sc3 rfl (hx.choose_spec.blk_at 0 rfl 0 rfl)) (Yo hH 19 rfl (by kernel_rfl) rfl (fun x hx => run_asB (c := false) (run_neq rfl rfl) (decide_eq_false (by omega))) (Ya hH 20 rfl (by kernel_rfl) (fun x hx => run_pick_f rfl rfl) (Ym hH 21 rfl (by kernel_rfl) rfl (Yo hH 22 rfl (by kernel_rfl) rfl (fun x hx => run_move rfl) (An_index_on 23  (KT) rfl (by kernel_rfl) (by kernel_rfl) (by kernel_rfl) rfl rfl (fun _ _ _ _ h => h) hH (fun x hx => ((hx.choose_spec.kept 1 rfl).1)) un44 inf43 rfl rfl (by decide) (by simp) (show _ = (n0, q3) from rfl) rfl (fun b167 o168 hc169 => (Yo hH 24 rfl (by kernel_rfl) rfl (fun x hx => run_field un43 rfl inf3 (by decide) rfl) (Yo hH 25 rfl (by kernel_rfl) rfl (fun x hx => run_as (run_load sc3 rfl ((hc169 x hx) 1 _ rfl)) (show _ = Value.int .i64 n0.a from rfl)) (Yo hH 26 rfl (by kernel_rfl) rfl (fun x hx => run_fd un43 inf3 rfl 1 rfl) (Yo hH 27 rfl (by kernel_rfl) rfl (fun x hx => run_load sc3 rfl (hx.choose_spec.blk_at 0 rfl 1 rfl)) (Yo hH 28 rfl (by kernel_rfl) rfl (fun x hx => run_add rfl rfl (w64 (by omega))) (Yo hH 29 rfl (by kernel_rfl) rfl (fun x hx => run_asB (c := false) (run_neq rfl rfl) (decide_eq_false (by omega))) (Ya hH 30 rfl (by kernel_rfl) (fun x hx => run_pick_f rfl rfl) (Ym hH 31 rfl (by kernel_rfl) rfl (Yo hH 32 rfl (by kernel_rfl) rfl (fun x hx => run_move rfl) (An_index_on 33  (KT) rfl (by kernel_rfl) (by kernel_rfl) (by kernel_rfl) rfl rfl (fun _ _ _ _ h => h) hH (fun x hx => ((hx.choose_spec.kept 1 rfl).1)) un44 inf43 rfl rfl (by decide) (by simp) (show _ = (n0, q3) from rfl) rfl (fun b170 o171 hc172 => (Yo hH 34 rfl (by kernel_rfl) rfl (fun x hx => run_field un43 rfl inf3 (by decide) rfl) (Yo hH 35 rfl (by kernel_rfl) rfl (fun x hx => run_as (run_load sc3 rfl ((hc172 x hx) 4 _ rfl)) (show _ = Value.int .i64 n0.ti from rfl)) (Yo hH 36 rfl (by kernel_rfl) rfl (fun x hx => run_asB (c := false) (run_neq rfl rfl) (decide_eq_false (by omega))) (Ya hH 37 rfl (by kernel_rfl) (fun x hx => run_pick_f rfl rfl) (Ym hH 38 rfl (by kernel_rfl) rfl (Yo hH 39 rfl (by kernel_rfl) rfl (fun x hx => run_move rfl) (An_index_on 40  (KT) rfl (by kernel_rfl) (by kernel_rfl) (by kernel_rfl) rfl rfl (fun _ _ _ _ h => h) hH (fun x hx => ((hx.choose_spec.kept 1 rfl).1)) un44 inf43 rfl rfl (by decide) (by simp) (show _ = (n0, q3) from rfl) rfl (fun b173 o174 hc175 => (Yo hH 41 rfl (by kernel_rfl) rfl (fun x hx => run_field un43 rfl inf25 (by decide) rfl) (Yo hH 42 rfl (by kernel_rfl) rfl (fun x hx => run_as (run_load sc25 rfl ((hc175 x hx) 5 _ rfl)) (show Value.slice q3.fA n0.fr.length q3.fc = Value.slice q3.fA cn q3.fc by rw [hn3, hcn])) (Yo hH 43 rfl (by kernel_rfl) rfl (fun x hx => run_fd un43 inf25 rfl 5 rfl) (Yo hH 44 rfl (by kernel_rfl) rfl (fun x hx => run_as (run_load sc25 rfl (hx.choose_spec.blk_at 0 rfl 5 rfl)) (show Value.slice q1.fA o0.fr.length q1.fc = Value.slice q1.fA cn q1.fc by rw [ho3, hcn])) (An_only 45 (by kernel_rfl) rfl (Zo rfl (Zc fn13 rfl (ints19_c w162 _ _ _ cu _ _ _ cu (tk_fr hn3 hcn (hs.kept 1 rfl)) (tk_fr ho3 hcn (hs.kept 2 rfl)) (by omega)) rfl ?_)))))))))))))))))))))))))))))))))))))))))))))))))))
  rintro v176 w177 ⟨rfl, hsF⟩
  replace hs := hs.T hsF
  rw [decide_eq_true rfl]
  replace hs := hs.F2.F2.F2
  replace hH := Hold.of (Ls := [_, _, _]) hs
  refine Ls_nil (Jm_An hH (Yo hH 46 rfl (by kernel_rfl) rfl (fun x hx => run_not rfl) (Ya hH 47 rfl (by kernel_rfl) (fun x hx => run_pick_f rfl rfl) (An_done (by kernel_rfl) (Zq (St_iff rfl (St_skip (Zq (Zs (Zm rfl ?_))))))))))
  replace hs := hs.F6.F4
  refine Zc fn17 rfl (cNote_c w w177 _ bc2 bd bj2 (re p Ao2 co2) ops [n0] false j2 hs (by have := hC2.note; omega)) rfl ?_
  rintro v179 w180 ⟨Nnp, nnp, Nnc, nnc, rfl, hs⟩
  refine Ls_alloc hs inf53 rfl (fun b182 w181 hs => (Ls_storeAgg hs inf53 rfl rfl rfl rfl (by simp [Value.oneCell', Value.cells, mcells, tcells]) (fun w183 hs => (Zj (St_seq ?_)))))
  replace hs := hs.F7.F11.F7
  refine St_hold (Hold.of (Ls := [_, _, _]) hs) mixed (fun w184 q185 => ?_)
  replace hs := hs.quiet q185
  have hH := Hold.of (Ls := [_, _, _]) hs
  refine Ym hH 0 rfl (by kernel_rfl) rfl (Ya hH 1 rfl (by kernel_rfl) (fun x hx => run_load_agg agg43 inf43 rfl rfl (hx.choose_spec.blk_cells 0 rfl 0 7)) (Ya hH 2 rfl (by kernel_rfl) (fun x hx => run_load_agg agg24 inf24 rfl rfl (hx.choose_spec.blk_cells 1 rfl 0 8)) (Ya hH 3 rfl (by kernel_rfl) (fun x hx => run_fd un43 inf25 rfl 5 rfl) (Ya hH 4 rfl (by kernel_rfl) (fun x hx => run_as (run_load sc25 rfl (hx.choose_spec.blk_at 0 rfl 5 rfl)) (show Value.slice q1.fA o0.fr.length q1.fc = Value.slice q1.fA cu.length q1.fc by rw [ho3])) (Ym hH 5 rfl (by kernel_rfl) rfl (An_only 6 (by kernel_rfl) rfl ?_))))))
  obtain ⟨mb, hmb⟩ : ∃ z : Nat, p.ba + 1 = (z : Int) := ⟨(p.ba + 1).toNat, by omega⟩
  refine Zc fn14 rfl (onward_c w184 p q1.fA q1.fc cu (tk_fr ho3 rfl (hs.kept 2 rfl)) A2 n2a c2a ol2 (hro.inB hs) hn2a mb hmb (by omega) (by omega) (fun y hy => by rw [← hcu] at hy; exact (noteOk_pos hciO.jo.1).2 y hy)) rfl ?_
  rintro v186 w187 ⟨xa, eaA, eaC, hxa, rfl, hsO⟩
  replace hs := hs.T hsO
  rw [hcn] at hs ⊢
  have hla : xa.length = cn := by rw [hxa.1, hcn]
  have heba : EB j1.parts xa := by
    have h8 := (note_eb hC1.jo.1).1
    rw [hjn.1] at h8
    exact (onw_facts hxa h8).1
  replace hs := hs.F3.F3.F3
  replace hH := Hold.of (Ls := [_, _, _]) hs
  refine Ls_nil (Jm_An hH (An_only 7 (by kernel_rfl) rfl (Zc fn16 rfl (labout_c w187 2 (o0, q1) _ _ _) rfl ?_)))
  rintro v188 w189 ⟨rfl, hsF⟩
  replace hs := hs.T hsF
  replace hs := hs.F2.F2.F2
  replace hH := Hold.of (Ls := [_, _, _]) hs
  refine Ls_nil (Jm_An hH (An_only 8 (by kernel_rfl) rfl ?_))
  replace hs := hs.F12.F9.F9
  have hsoa : Msound (aboutT 2 o0 xa) := hC1.about (i := 0) (by omega) (by simp) (.inl rfl) heba
  have hE := old_ready hC2 hsoa (by omega)
  refine Zc fn15 rfl (cTake_c w w189 _ bc2 bd bj2 (re p Ao2 co2) ops [n0] false j2 d2 hs hC2.jo hC2.rows (aboutT 2 o0 xa) ⟨eaA, cn, eaC, none, 0, 0, none, 0, 0⟩ (fun w' X z => ⟨z.rd_at 4 rfl, Rd.none w' 1, Rd.none w' 3⟩) hla (by refine ⟨?_, ?_, ?_⟩ <;> simp only <;> omega) (by simp) (fun t ht => by have := hC2.lens.2 t ht; omega) (fun t ht => by have := hC2.lens.2 t ht; exact ⟨by omega, this.2.2.1⟩)) rfl ?_
  rintro v190 w191 ⟨vb, rfl, hs⟩
  rw [ctake_re, hE] at hs ⊢
  simp only at hs ⊢
  obtain ⟨hvb, h9⟩ := hs.moNone
  subst hvb
  replace hs := h9
  replace hs := hs.F5.F5.F5
  replace hH := Hold.of (Ls := [_, _, _]) hs
  refine Ls_nil (Jm_An hH (Ym hH 9 rfl (by kernel_rfl) rfl (Ya hH 10 rfl (by kernel_rfl) (fun x hx => run_extract rfl rfl) (Ya hH 11 rfl (by kernel_rfl) (fun x hx => run_extract rfl rfl) (Ya hH 12 rfl (by kernel_rfl) (fun x hx => run_assign rfl) (Ya hH 13 rfl (by kernel_rfl) (fun x hx => run_assign rfl) (An_done (by kernel_rfl) (Zq (St_seq (Zs (Zm rfl (Zr (run_asB (c := false) (run_neq rfl rfl) (by decide)) rfl (Zm rfl (Zo rfl (Zm rfl (Zo rfl (Zr (run_len un29 rfl) rfl (Zo rfl (Zr (run_asB (c := false) (run_neq rfl rfl) (by decide)) rfl (Zr (run_pick_f rfl rfl) rfl (Zj (St_iff rfl (St_skip (Zq (St_seq ?_)))))))))))))))))))))))))
  replace hs := hs.F2.F2.F2
  refine St_hold (Hold.of (Ls := [_, _, _]) hs) mixed (fun w193 q194 => ?_)
  replace hs := hs.quiet q194
  have hH := Hold.of (Ls := [_, _, _]) hs
  refine Ym hH 0 rfl (by kernel_rfl) rfl (Ya hH 1 rfl (by kernel_rfl) (fun x hx => run_load_agg agg43 inf43 rfl rfl (hx.choose_spec.blk_cells 0 rfl 0 7)) (Ya hH 2 rfl (by kernel_rfl) (fun x hx => run_load_agg agg24 inf24 rfl rfl (hx.choose_spec.blk_cells 1 rfl 0 8)) (Ya hH 3 rfl (by kernel_rfl) (fun x hx => run_fd un43 inf25 rfl 5 rfl) (Ya hH 4 rfl (by kernel_rfl) (fun x hx => run_as (run_load sc25 rfl (hx.choose_spec.blk_at 0 rfl 5 rfl)) (show Value.slice q1.fA o0.fr.length q1.fc = Value.slice q1.fA cu.length q1.fc by rw [ho3])) (Ym hH 5 rfl (by kernel_rfl) rfl (An_only 6 (by kernel_rfl) rfl ?_))))))
  obtain ⟨mb, hmb⟩ : ∃ z : Nat, p.ba + 1 = (z : Int) := ⟨(p.ba + 1).toNat, by omega⟩
  refine Zc fn14 rfl (onward_c w193 p q1.fA q1.fc cu (tk_fr ho3 rfl (hs.kept 2 rfl)) A2 n2a c2a ol2 (hro.inB hs) hn2a mb hmb (by omega) (by omega) (fun y hy => by rw [← hcu] at hy; exact (noteOk_pos hciO.jo.1).2 y hy)) rfl ?_
  rintro v195 w196 ⟨xb, ebA, ebC, hxb, rfl, hsO⟩
  replace hs := hs.T hsO
  rw [hcn] at hs ⊢
  have hlb : xb.length = cn := by rw [hxb.1, hcn]
  have hebb : EB j1.parts xb := by
    have h8 := (note_eb hC1.jo.1).1
    rw [hjn.1] at h8
    exact (onw_facts hxb h8).1
  replace hs := hs.F3.F3.F3
  replace hH := Hold.of (Ls := [_, _, _]) hs
  refine Ls_nil (Jm_An hH (An_only 7 (by kernel_rfl) rfl (Zc fn16 rfl (labout_c w196 8 (o0, q1) _ _ _) rfl ?_)))
  rintro v197 w198 ⟨rfl, hsF⟩
  replace hs := hs.T hsF
  replace hs := hs.F2.F2.F2
  replace hH := Hold.of (Ls := [_, _, _]) hs
  refine Ls_nil (Jm_An hH (An_only 8 (by kernel_rfl) rfl ?_))
  replace hs := hs.F6.F6.F6
  have hsob : Msound (aboutT 8 o0 xb) := hC1.about (i := 0) (by omega) (by simp) (.inr rfl) hebb
  have hE := old_done hC2 hsob (by omega)
  refine Zc fn15 rfl (cTake_c w w198 _ bc2 bd bj2 (re p Ao2 co2) ops [n0] false j2 d2 hs hC2.jo hC2.rows (aboutT 8 o0 xb) ⟨ebA, cn, ebC, none, 0, 0, none, 0, 0⟩ (fun w' X z => ⟨z.rd_at 4 rfl, Rd.none w' 1, Rd.none w' 3⟩) hlb (by refine ⟨?_, ?_, ?_⟩ <;> simp only <;> omega) (by simp) (fun t ht => by have := hC2.lens.2 t ht; omega) (fun t ht => by have := hC2.lens.2 t ht; exact ⟨by omega, this.2.2.1⟩)) rfl ?_
  rintro v199 w200 ⟨vb, rfl, hs⟩
  rw [ctake_re, hE] at hs ⊢
  simp only at hs ⊢
  obtain ⟨hvb, h9⟩ := hs.moNone
  subst hvb
  replace hs := h9
  replace hs := hs.F5.F5.F5
  replace hH := Hold.of (Ls := [_, _, _]) hs
  refine Ls_nil (Jm_An hH (Ym hH 9 rfl (by kernel_rfl) rfl (Ya hH 10 rfl (by kernel_rfl) (fun x hx => run_extract rfl rfl) (Ya hH 11 rfl (by kernel_rfl) (fun x hx => run_extract rfl rfl) (Ya hH 12 rfl (by kernel_rfl) (fun x hx => run_assign rfl) (Ya hH 13 rfl (by kernel_rfl) (fun x hx => run_assign rfl) (An_done (by kernel_rfl) (Zq (St_seq ?_)))))))))
  replace hs := hs.F8
  refine St_hold (Hold.of (Ls := [_]) hs) mixed (fun w201 q202 => ?_)
  replace hs := hs.quiet q202
  have hH := Hold.of (Ls := [_]) hs
  refine Ym hH 0 rfl (by kernel_rfl) rfl (Ya hH 1 rfl (by kernel_rfl) (fun x hx => run_asB (c := true) (run_eql rfl rfl) (by decide)) (Ym hH 2 rfl (by kernel_rfl) rfl (Yo hH 3 rfl (by kernel_rfl) rfl (fun x hx => run_move rfl) (Yo hH 4 rfl (by kernel_rfl) rfl (fun x hx => run_len un29 rfl) (Yo hH 5 rfl (by kernel_rfl) rfl (fun x hx => run_asB (c := true) (run_eql rfl rfl) (by decide)) (Ya hH 6 rfl (by kernel_rfl) (fun x hx => run_pick_t rfl rfl) (Ym hH 7 rfl (by kernel_rfl) rfl (Yo hH 8 rfl (by kernel_rfl) rfl (fun x hx => run_move rfl) (Yo hH 10 rfl (by kernel_rfl) rfl (fun x hx => run_move rfl) (An_only 9 (by kernel_rfl) rfl (Zo rfl ?_)))))))))))
  replace hs := hs.F4
  refine Zc fn12 rfl (cTries_c w w201 _ bc2 bd bj2 (re p Ao2 co2) ops [n0] false hs (by simp) (fun t ht => by rw [List.mem_singleton] at ht; subst ht; exact ⟨by rw [hn3]; omega, by rw [hn4]; simp⟩)) rfl ?_
  rintro v203 w204 ⟨vo, o4A, o4c, hvo, rfl, hs⟩
  replace hs := hs.triesK hvo
  obtain ⟨q4, hq4⟩ := one_row hvo
  subst hq4
  replace hs := hs.F2
  replace hH := Hold.of (Ls := [_]) hs
  refine Ls_nil (Jm_An hH (An_only 11 (by kernel_rfl) rfl (Zo rfl (Zc fn22 rfl (tries_c w204 _ _ _ [(n0, q4)] _ _ _ [(n0, q3)] (hs.kept 1 rfl).1 (hs.kept 12 rfl).1 rfl (hs.kept 1 rfl).2 (hs.kept 12 rfl).2 (by simp) (fun x hx => by rw [List.mem_singleton] at hx; subst hx; exact ⟨by rw [hn3]; omega, by rw [hn4]; simp⟩)) rfl ?_))))
  rintro v205 w206 ⟨rfl, hsF⟩
  replace hs := hs.T hsF
  replace hH := Hold.of (Ls := [_]) hs
  refine Ls_nil (Jm_An hH (Ya hH 12 rfl (by kernel_rfl) (fun x hx => run_pick_t rfl rfl) (Ym hH 13 rfl (by kernel_rfl) rfl (Yo hH 14 rfl (by kernel_rfl) rfl (fun x hx => run_move rfl) (Yo hH 16 rfl (by kernel_rfl) rfl (fun x hx => run_load_agg agg53 inf53 rfl rfl (hx.choose_spec.blk_cells 0 rfl 0 4)) (An_only 15 (by kernel_rfl) rfl (Zo rfl ?_)))))))
  replace hs := hs.F6.F3
  refine Zc fn17 rfl (cNote_c w w206 _ bc2 bd bj2 (re p Ao2 co2) ops [n0] false j2 hs (by have := hC2.note; omega)) rfl ?_
  rintro v207 w208 ⟨Nnp2, nnp2, Nnc2, nnc2, rfl, hs⟩
  replace hs := hs.F4
  replace hH := Hold.of (Ls := [_]) hs
  refine Ls_nil (Jm_An hH (An_only 17 (by kernel_rfl) rfl (Zo rfl (Zc fn23 rfl (notes19_c w208 j2.n _ _ _ _ _ _ _ _ (hs.rd_at 1 rfl) (hs.rd_at 2 rfl) (hs.rd_at 12 rfl) (hs.rd_at 13 rfl) (by have := hC2.note; omega)) rfl ?_))))
  rintro v209 w210 ⟨rfl, hsF⟩
  replace hs := hs.T hsF
  replace hH := Hold.of (Ls := [_]) hs
  refine Ls_nil (Jm_An hH (Ya hH 18 rfl (by kernel_rfl) (fun x hx => run_pick_t rfl rfl) (Ya hH 19 rfl (by kernel_rfl) (fun x hx => run_assign rfl) (An_done (by kernel_rfl) (Zq (St_ret (Jm_ret1 rfl rfl ?_)))))))
  exact ⟨_, rfl, rfl, hs.below⟩
end Go.Proofs.Ytcifdianinbkeaa.Lg
set_option linter.unusedVariables false
set_option linter.unusedSimpArgs false
namespace Go.Proofs.Ytcifdianinbkeaa.coordGivesUp
open Go.ChangeShapes Go.WideShapes Go.ChangeAt Go.RowKit
open Go.Proofs.Ytcifdianinbkeaa.Lg Go.Proofs.Ytcifdianinbkeaa.PlanPure
theorem own : ownKnob Try.prog.godebug = none := by kernel_rfl
theorem laidOut : laidOutB Try.prog = true := by kernel_rfl
set_option maxRecDepth 100000 in
theorem lifted (os : Os) (started : os.Started) (H : Type) (enc : TypeId × Value → H) :
    ReturnsInHanded {} Try.checked os 5 .any (Rows.coordGivesUpSpec.pre6 enc Try.prog Try.f5 Rows.coordGivesUpRow.domain false) (Rows.coordGivesUpSpec.post enc Try.prog Try.f5 false true false false) := by
  refine returnsInHanded_of_change_sized (C := Try.checked) own started (by kernel_rfl) Try.func5
    (ChangeSpec.witness6 (enc := enc) (C := Try.checked) false ⟨#[], #[.agg #[.int .i64 0, .int .i64 0, .int .i64 0, .slice none 0 0, .int .i64 0, .int .i64 0, .int .i64 0, .int .i64 0], .slice none 0 0, .slice none 0 0], []⟩ 8 (by kernel_rfl) (by kernel_rfl) (by kernel_rfl) (by kernel_rfl)) ?_
  intro W base args ds gs before hval0 hW hcnd hsz0 _
  have hsz : (DataW.weightsEach Try.prog (Try.f5.params.toList ++ Rows.coordGivesUpSpec.plain.varTypes Try.prog) (ds ++ gs)).all (· ≤ reachBytes) = true := hsz0
  have hval : ∀ (j : Nat) t v, Try.f5.params[j]? = some t → args[j]? = some v → Value.okWide Try.prog W .any base t v := hval0
  have hW' := hW
  obtain ⟨p, q, hA0, hV, rfl, hfz, hnd⟩ := hW
  have hA : DataW.TrodAll enc Try.prog W 0 (fun _ => true) true Try.f5.params.toList args.toList ds p := hA0
  rw [Try.params5] at hA hval hsz
  obtain ⟨v0, vs0, d0, ds0, p0, q0, hargs, rfl, rfl, h0, r0⟩ := trodAll_cons hA
  obtain ⟨v1, vs1, d1, ds1, p1, q1, rfl, rfl, rfl, h1, r1⟩ := trodAll_cons r0
  obtain ⟨v2, vs2, d2, ds2, p2, q2, rfl, rfl, rfl, h2, r2⟩ := trodAll_cons r1
  obtain ⟨rfl, rfl, rfl⟩ := trodAll_nil r2
  obtain rfl : args = #[v0, v1, v2] := by cases args; simp_all
  obtain ⟨rfl, rfl⟩ := trodVars_none hV
  obtain ⟨cs0, rfl, _⟩ := okWide_struct Try.underlying24 (hval 0 24 v0 rfl rfl)
  have k0 := h0
  have lt0 : ∀ x ∈ p0, x.block < W.heap.size := by obtain ⟨m, hm⟩ := k0; exact DataW.trod_lt m _ _ _ hm
  obtain ⟨fu0, hf0⟩ := h0
  obtain ⟨s0_0, s0_1, s0_2, s0_3, s0_3n, s0_3c, s0_4, s0_5, s0_6, s0_7, ec0, g0_0, g0_1, g0_2, g0_3, g0_4, g0_5, g0_6, g0_7, g0_8, g0_9⟩ := dec24 hf0
  obtain rfl : cs0 = #[.int .i64 s0_0, .int .i64 s0_1, .int .i64 s0_2, .slice s0_3 s0_3n s0_3c, .int .i64 s0_4, .int .i64 s0_5, .int .i64 s0_6, .int .i64 s0_7] := Array.ext' ec0
  obtain ⟨od0, op0, ot0, _⟩ := g0_3
  obtain ⟨ops0, rdo0, _, _⟩ := rd_slice' KOp (fun _ => True) Try.underlying22 (by kernel_rfl) (by decide) (fun n cs y hy => by obtain ⟨a, b, c, e, _⟩ := dec94 hy; exact ⟨(a, b, c), e.symm, trivial⟩) ot0
  have mo0 : s0_3n ≤ 9223372036854775807 := by have := g0_4; have := g0_5; simp only [maxLen] at this; omega
  have mp0 : chk ⟨s0_0, s0_1, s0_2, s0_3, s0_3n, s0_3c, s0_4, s0_5, s0_6, s0_7⟩ ops0 = 0 → s0_3n ≤ 67108864 := fun hc => by have h8 := chk_len hc; have h9 := lenKOp rdo0; omega
  obtain ⟨A1, len1, cap1, rfl⟩ := okWide_slice Try.underlying56 (hval 1 56 v1 rfl rfl)
  have k1 := h1
  have lt1 : ∀ x ∈ p1, x.block < W.heap.size := by obtain ⟨m, hm⟩ := k1; exact DataW.trod_lt m _ _ _ hm
  obtain ⟨l, rd1, ln1, gd1⟩ := rd_slice' KAct (AOk W) Try.underlying56 (by kernel_rfl) (by decide) (fun n cs y hy => by obtain ⟨a, b, A, an, ac, e, _, _, ⟨d, ps, T, _, _⟩, hc1, hc2⟩ := dec60 hy; obtain ⟨l, r, _, _⟩ := rd_ints Try.underlying25 Try.underlying3 (by kernel_rfl) T; exact ⟨(a, b, A, an, ac), e.symm, ⟨l, r⟩, by simp only [maxLen] at hc2; show an ≤ _; omega⟩) h1
  have sz1 : len1 * 40 ≤ 140737488351232 := sized_any hsz (j := 1) (t := 56) rfl rfl Try.underlying56 (by kernel_rfl) h1
  obtain ⟨A2, len2, cap2, rfl⟩ := okWide_slice Try.underlying25 (hval 2 25 v2 rfl rfl)
  have k2 := h2
  have lt2 : ∀ x ∈ p2, x.block < W.heap.size := by obtain ⟨m, hm⟩ := k2; exact DataW.trod_lt m _ _ _ hm
  obtain ⟨r, rd2, ln2, wf2⟩ := rd_ints Try.underlying25 Try.underlying3 (by kernel_rfl) h2
  have sz2 : len2 * 8 ≤ 140737488351232 := sized_nums hsz (j := 2) (t := 25) rfl rfl Try.underlying25 Try.underlying3 (by kernel_rfl) (by kernel_rfl) h2
  clear hA0 hval0 hsz0 hsz
  refine (if hc : chk ⟨s0_0, s0_1, s0_2, s0_3, s0_3n, s0_3c, s0_4, s0_5, s0_6, s0_7⟩ ops0 = 0 then CoordGivesUp_ok W ⟨s0_0, s0_1, s0_2, s0_3, s0_3n, s0_3c, s0_4, s0_5, s0_6, s0_7⟩ ops0 rdo0 (mp0 hc) hc A1 len1 cap1 l rd1 gd1 (by omega) A2 len2 cap2 r rd2 (by omega) else CoordGivesUp_bad W ⟨s0_0, s0_1, s0_2, s0_3, s0_3n, s0_3c, s0_4, s0_5, s0_6, s0_7⟩ ops0 rdo0 mo0 hc A1 len1 cap1 A2 len2 cap2).mono fun e W' ⟨v, he, hv, bel⟩ => ?_
  subst he
  subst hv
  exact ⟨_, rfl, _, _, _, [], _, [], hW', trodAll_mk1 (shut_bool Try.underlying4 _), (trodAll_cons_mk (Below.trod laidOut (by kernel_rfl) (of_decide_eq_true (by kernel_rfl)) k0 bel lt0) (trodAll_cons_mk (Below.trod laidOut (by kernel_rfl) (of_decide_eq_true (by kernel_rfl)) k1 bel lt1) (trodAll_cons_mk (Below.trod laidOut (by kernel_rfl) (of_decide_eq_true (by kernel_rfl)) k2 bel lt2) trodAll_mk0))), rfl, bel.frame _, fun h => by cases h⟩
theorem over : Rows.coordGivesUpRow.holds Try.pinned (OpenSpec.ofChange Rows.coordGivesUpSpec) :=
  OpenClaim.holds_of_wide 5 Try.f5 rfl rfl rfl rfl rfl rfl rfl ⟨rfl, rfl, rfl, rfl, rfl⟩ rfl rfl rfl rfl rfl (by kernel_rfl) Try.func5 (by kernel_rfl)
    (of_decide_eq_true (by kernel_rfl)) (by unfold Func.isWrapper; first | (rw [if_pos (by decide +kernel)]; kernel_rfl) | (rw [if_neg (by decide +kernel)]; exact ⟨rfl, rfl⟩))
    (fun os started H enc _ => lifted os started H enc)
end Go.Proofs.Ytcifdianinbkeaa.coordGivesUp
namespace Go.Proofs.Ytcifdianinbkeaa
/-- The row, under a short name, for the claim. -/
theorem coordGivesUp_holds : Rows.CoordGivesUpSaid := coordGivesUp.over
end Go.Proofs.Ytcifdianinbkeaa
