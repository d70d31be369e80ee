/-
  The law CoordIdle: an attempt that read nothing is given up, and one that went too far, that went back or that another node speaks for is not believed. For every plan and every two numbers: no condition.
-/
import Derived.Test.YtcifdianinbkeaaCi4
import Derived.Test.YtcifdianinbkeaaRows
set_option linter.unusedVariables false
set_option linter.unusedSimpArgs false
namespace Go.Proofs.Ytcifdianinbkeaa.Lg
open Go Go.RowKit Go.Proofs.Ytcifdianinbkeaa.WirePure Go.Proofs.Ytcifdianinbkeaa.PlanPure
def re (p : PlanA) (A : Option Addr) (c : Nat) : PlanA := { p with oA := A, oc := c }
theorem TOk.re {p : PlanA} {ops : OpL} {n : NSt} {tr : List TSt} {k : Nat} (h : TOk p ops n tr k) (A : Option Addr) (c : Nat) : TOk (re p A c) ops n tr k := ⟨h.b, h.a, h.nd, h.ti, h.fr, h.ph, h.go, h.fst, h.rd, h.en⟩
theorem TOk.er {p : PlanA} {ops : OpL} {n : NSt} {tr : List TSt} {k : Nat} {A : Option Addr} {c : Nat} (h : TOk (Lg.re p A c) ops n tr k) : TOk p ops n tr k := ⟨h.b, h.a, h.nd, h.ti, h.fr, h.ph, h.go, h.fst, h.rd, h.en⟩
section
variable {N : Int} {p : PlanA} {ops : OpL} {tr : List TSt} {j : JSt} {d : DSt} {m : MC}
theorem CI.re (h : CI N p ops tr j d) (A : Option Addr) (c : Nat) : CI N (re p A c) ops tr j d := ⟨h.ck, h.jp, h.jo, h.je, h.dj, h.dn, h.sz, h.rows, h.ar, h.bd, ⟨h.ts.len, fun k hk => (h.ts.at_ k hk).re A c⟩⟩
theorem CI.er {A : Option Addr} {c : Nat} (h : CI N (Lg.re p A c) ops tr j d) : CI N p ops tr j d := ⟨h.ck, h.jp, h.jo, h.je, h.dj, h.dn, h.sz, h.rows, h.ar, h.bd, ⟨h.ts.len, fun k hk => (h.ts.at_ k hk).er⟩⟩
theorem CI.mono {N' : Int} (h : CI N p ops tr j d) (hN : N ≤ N') : CI N' p ops tr j d := { h with bd := by have := h.bd; omega }
/-- What a step may turn. -/
structure StepR (p : PlanA) (ops : OpL) (n n' : NSt) (out : Option MC) : Prop where
  att : n'.att = n.att ∨ n'.att = n.att + 1
  ba : (n'.batch = n.batch ∧ n'.cur = n.cur ∧ n'.prev = n.prev) ∨ (n'.batch = n.batch + 1 ∧ n'.prev = n.cur ∧ fwd n.cur n'.cur)
  out : ∀ m, out = some m → m.f = 0 ∧ kindOf p ops m.t = 2 ∧ ((m.k = 1 ∧ n'.att = n.att + 1 ∧ m.a = n'.att) ∨ (m.k = 3 ∧ m.b = n'.batch + 1)) ∧ m.ks = [] ∧ m.ps = []
theorem StepR.same (n : NSt) : StepR p ops n n none := ⟨.inl rfl, .inl ⟨rfl, rfl, rfl⟩, fun m h => by cases h⟩
theorem StepR.fwd {n n' : NSt} {out : Option MC} (h : StepR p ops n n' out) : fwd n.cur n'.cur := by
  rcases h.ba with ⟨_, e, _⟩ | ⟨_, _, e⟩
  · rw [e]; exact ⟨rfl, fun i _ => Int.le_refl _⟩
  · exact e
/-- An act's answer: fine, or the power has gone. -/
def ActR (N : Int) (p : PlanA) (ops : OpL) (j : JSt) (d : DSt) (er : Int) (en : Bool) (out : Option MC) (tr2 : List TSt) (j2 : JSt) (d2 : DSt) : Prop :=
  (er = 0 ∧ en = false ∧ CI (N + 1) p ops tr2 j2 d2 ∧ StepR p ops j.n j2.n out) ∨ (er = 80 ∧ en = true ∧ out = none ∧ j2 = { j with ended := true } ∧ d2 = doff d)
theorem wnode (hc : chk p ops = 0) (hn : NSt) {t : TSt} (h : t.nd = workerOf p ops t.a) (ha : 1 ≤ t.a) : 1 ≤ t.nd ∧ t.nd ≤ 4 := by
  have hk := chk_ok hc
  unfold numsOk at hk
  have := tmod_bd t.a p.wo (by omega) (by omega)
  rw [h]; unfold workerOf
  rw [if_pos ⟨hc, ha⟩]
  omega
theorem wkind (hc : chk p ops = 0) {t : TSt} (h : t.nd = workerOf p ops t.a) (ha : 1 ≤ t.a) : kindOf p ops t.nd = 2 := by
  have hk := chk_ok hc
  unfold numsOk at hk
  have := tmod_bd t.a p.wo (by omega) (by omega)
  have e : workerOf p ops t.a = 1 + t.a.tmod p.wo := by unfold workerOf; rw [if_pos ⟨hc, ha⟩]
  rw [h, e]; unfold kindOf nodes
  rw [if_pos hc, if_neg (by omega), if_neg (by omega), if_pos (by omega)]
theorem CI.tickR (h : CI N p ops tr j d) (hN : N < 1099511627770) : ActR N p ops j d (ctick p ops tr false j d).2.1 (ctick p ops tr false j d).2.2.2.1 (ctick p ops tr false j d).1 (ctick p ops tr false j d).2.2.1 (ctick p ops tr false j d).2.2.2.2.1 (ctick p ops tr false j d).2.2.2.2.2 := by
  rcases h.tick hN with ⟨_, e⟩ | ⟨_, _, e⟩ | ⟨_, _, d', e, hc, _⟩
  · rw [e]; exact .inl ⟨rfl, rfl, h.aged.mono (by omega), StepR.same _⟩
  · rw [e]; exact .inr ⟨rfl, rfl, rfl, rfl, rfl⟩
  · rw [e]
    refine .inl ⟨rfl, rfl, hc, .inr rfl, .inl ⟨rfl, rfl, rfl⟩, fun m hm => ?_⟩
    cases hm
    have hw := h.jo.1.2.1
    unfold within at hw
    have h1 := wkind h.ck (t := newT p ops j (ageT p.gu tr)) rfl (by show 1 ≤ j.n.att + 1; omega)
    exact ⟨rfl, h1, .inl ⟨rfl, rfl, rfl⟩, rfl, rfl⟩
theorem CI.tick_er (h : CI N p ops tr j d) (hN : N < 1099511627770) (ha : d.armed = false) : (ctick p ops tr false j d).2.1 = 0 := by
  rcases h.tick hN with ⟨_, e⟩ | ⟨_, e, _⟩ | ⟨_, _, d', e, _⟩
  · rw [e]
  · rw [ha] at e; cases e
  · rw [e]
theorem idx_abt {i : Nat} (hq : idxB (fun t : TSt => decide (abt m t 1)) tr = some i) : i < tr.length ∧ abt m (tr.getD i T0.1) 1 := by
  have hi := idx_lt hq
  refine ⟨hi, ?_⟩
  unfold idxB at hq
  rw [List.findIdx?_eq_some_iff_getElem] at hq
  obtain ⟨h1, h2, _⟩ := hq
  rw [getD_el h1]
  exact of_decide_eq_true h2
theorem CI.readyR (h : CI N p ops tr j d) (hb : ∀ y ∈ m.es, y ≤ 256) : CI (N + 1) p ops (cready p tr m).2 j d ∧ StepR p ops j.n j.n (cready p tr m).1 := by
  refine ⟨(h.ready hb).mono (by omega), .inl rfl, .inl ⟨rfl, rfl, rfl⟩, fun x hx => ?_⟩
  unfold cready at hx
  cases hq : idxB (fun t : TSt => decide (abt m t 1)) tr with
  | none => rw [hq] at hx; cases hx
  | some i =>
    obtain ⟨hi, hab⟩ := idx_abt hq
    rw [hq] at hx
    simp only at hx
    have h0 := h.ts.at_ i hi
    split at hx
    · cases hx
    · split at hx
      · cases hx
      · split at hx
        · cases hx
        · split at hx
          · cases hx
          · rename_i h9
            cases hx
            have hw := wkind h.ck (t := tr.getD i T0.1) h0.nd h0.a.1
            have hi0 : i = 0 := by omega
            subst hi0
            exact ⟨rfl, hw, .inr ⟨rfl, by show (tr.getD 0 T0.1).b = _; rw [h0.b]; simp⟩, rfl, rfl⟩
theorem CI.takeR (h : CI N p ops tr j d) (hN : N < 1099511627770) (hs : Msound m) (ht : m.t = 0) (hk : m.k = 2 ∨ m.k = 8) : ActR N p ops j d (ctake p tr false j d m).2.1 (ctake p tr false j d m).2.2.2.1 (ctake p tr false j d m).1 (ctake p tr false j d m).2.2.1 (ctake p tr false j d m).2.2.2.2.1 (ctake p tr false j d m).2.2.2.2.2 := by
  have hm1 : mof m.k = 1 := by unfold mof; rw [if_pos (by omega)]
  have hes : ∀ y ∈ m.es, y ≤ 256 := fun y hy => by have := (hs.2.2.2.2.2.1 hm1).1 y hy; omega
  rcases hk with hk | hk
  · rw [h.take2 hs ht hk]
    obtain ⟨h1, h2⟩ := h.readyR (m := m) hes
    exact .inl ⟨rfl, rfl, h1, h2⟩
  · rw [h.take8 hs ht hk]
    rcases h.done hN m with ⟨_, e⟩ | ⟨_, _, e⟩ | ⟨hc, _, d', e, hc2, _⟩
    · rw [e]; exact .inl ⟨rfl, rfl, h.mono (by omega), StepR.same _⟩
    · rw [e]; exact .inr ⟨rfl, rfl, rfl, rfl, rfl⟩
    · rw [e]
      have hne : tr ≠ [] := fun q => hc (.inl q)
      have hl : 0 < tr.length := List.length_pos_iff.2 hne
      have hab : abt m (tr.getD 0 T0.1) 3 := Decidable.not_not.1 fun q => hc (.inr (.inl q))
      have h0 := h.ts.at_ 0 hl
      have hf := (h0.en (by rw [hab.2.2.2]; decide)).1
      rw [h0.fr, if_pos rfl] at hf
      refine .inl ⟨rfl, rfl, hc2, .inl rfl, .inr ⟨rfl, rfl, hf⟩, fun x hx => ?_⟩
      split at hx
      · rename_i h9
        cases hx
        have hl1 : 1 < tr.length := by have := h9.1; rw [List.length_drop] at this; omega
        have h1 := h.ts.at_ 1 hl1
        have hw := wkind h.ck (t := tr.getD 1 T0.1) h1.nd h1.a.1
        refine ⟨rfl, by show kindOf p ops (going ((tr.drop 1).getD 0 T0.1)).nd = 2; rw [drop_getT]; exact hw, .inr ⟨rfl, ?_⟩, rfl, rfl⟩
        show (going ((tr.drop 1).getD 0 T0.1)).b = j.n.batch + 1 + 1
        rw [drop_getT]
        show (tr.getD 1 T0.1).b = _
        rw [h1.b]; simp
      · cases hx
/-- The disk goes on again; the coordinator is opened anew. -/
theorem CI.back (h : CI N p ops tr j d) {d2 : DSt} (hb : d2.bl = d.bl) (hd : d2.down = false) (ha : d2.armed = false) : jopen d2 p.pa = (0, some j, dread_k d2 2) ∧ (∀ x ∈ d2.bl, IsBytes x ∧ x.length ≤ 1024) ∧ 1 ≤ d2.bl.length ∧ CI (N + 1) p ops [] j (dread_k d2 2) := by
  have hj : DJ d2 j := by unfold DJ; rw [hb]; exact h.dj
  have ho := jopen_same h.jo hj hd h.je
  rw [h.jp] at ho
  have hk := h.nums
  unfold numsOk at hk
  have hsm := dread_k_same d2 2
  have hsz := h.sz
  have hbd := h.bd
  refine ⟨ho, by rw [hb]; exact h.rows, by rw [hb]; omega, ⟨h.ck, h.jp, h.jo, h.je, (by unfold DJ; rw [hsm.1]; exact hj), (by rw [hsm.2.1]; exact hd), (by rw [hsm.1, hb]; exact hsz), (by rw [hsm.1, hb]; exact h.rows), (fun q => by rw [hsm.2.2.1, ha] at q; cases q), (by omega), TrOk.nil (p := p) (by omega)⟩⟩
theorem CI.cut0 (h : CI N p ops tr j d) : CI (N + 1) p ops tr j (dcut d 0) := ⟨h.ck, h.jp, h.jo, h.je, h.dj, h.dn, h.sz, h.rows, fun _ => rfl, by have := h.bd; omega, h.ts⟩
theorem CI.lens (h : CI N p ops tr j d) : tr.length ≤ 4 ∧ (∀ t ∈ tr, t.fr.length ≤ 4 ∧ t.to.length ≤ 4 ∧ (∀ y ∈ t.fr, 0 ≤ y ∧ y ≤ 256) ∧ 0 ≤ t.ti ∧ t.ti < 64) := by
  have hk := h.nums
  unfold numsOk at hk
  have hl := h.ts.len
  have he := h.ts.ends (note_eb h.jo.1).1
  rw [h.jp] at he
  refine ⟨by omega, fun t ht => ?_⟩
  obtain ⟨k, hk2, rfl⟩ := List.getElem_of_mem ht
  have h1 := he k hk2
  have h0 := h.ts.at_ k hk2
  rw [getD_el hk2] at h1
  have hti := h0.ti
  have hrd := h0.rd
  rw [getD_el hk2] at hti hrd
  refine ⟨by have := h1.1.1; omega, ?_, h1.1.2, by omega, by omega⟩
  by_cases e : tr[k].ph = 1
  · rw [(hrd e).2]; simp
  · have := (h1.2 e).1; omega
theorem CI.note (h : CI N p ops tr j d) : j.n.prev.length ≤ 4 ∧ j.n.cur.length ≤ 4 := by
  have hk := h.nums
  unfold numsOk at hk
  have h1 := noteOk_len h.jo.1
  rw [h.jp] at h1
  omega
theorem CI.ageLens (h : CI N p ops tr j d) : ∀ t ∈ ageT p.gu tr, t.to.length ≤ 1073741824 := fun t ht => by
  obtain ⟨s, h1, rfl⟩ := ageT_mem ht
  rw [(bump_to s).1]
  have := (h.lens.2 s h1).2.1; omega
/-- A message that has been sent. -/
structure MSent (x : MC × MP) : Prop where
  q : x.2.en = x.1.es.length ∧ x.2.en ≤ 4 ∧ x.2.kn = 0 ∧ x.2.pn = 0
  s : Msound x.1
  t : x.1.t = 0
  k : x.1.k = 2 ∨ x.1.k = 8
theorem CI.about (h : CI N p ops tr j d) (hN : N < 1099511627770) {i : Nat} (hi : i < tr.length) {k : Int} (hk : k = 2 ∨ k = 8) {es : List Int} (he : EB j.parts es) : Msound (aboutT k (tr.getD i T0.1) es) := by
  have h0 := h.ts.at_ i hi
  have hn := h.nums
  unfold numsOk at hn
  have hl := h.ts.len
  have hw := wnode h.ck j.n (t := tr.getD i T0.1) h0.nd h0.a.1
  have hbd := h.bd
  have hj := h.jo.1.1
  unfold within at hj
  rw [h.jp] at he
  exact about_sound hk (by show 0 ≤ (tr.getD i T0.1).nd ∧ (tr.getD i T0.1).nd ≤ 8; omega) (by show 1 ≤ (tr.getD i T0.1).b ∧ (tr.getD i T0.1).b ≤ 1099511627776; rw [h0.b]; omega) (by show 1 ≤ (tr.getD i T0.1).a ∧ (tr.getD i T0.1).a ≤ 1099511627776; have := h0.a; omega) he (by omega) (by omega)
end
/-! The first try, once more, for any plan -/
section
variable {p : PlanA} {ops : OpL} {d : DSt} {m : Nat} {es : List Int}
theorem ctake_re {A : Option Addr} {c : Nat} {tr : List TSt} {e : Bool} {j : JSt} {x : MC} : ctake (re p A c) tr e j d x = ctake p tr e j d x := rfl
theorem idle_far (h : CI 1 p ops [T1 p ops m] (j1 m) d) (he : EB p.pa es) (hf : far p.ba (List.replicate m 0) es) : ctake p [T1 p ops m] false (j1 m) d (aboutT 2 (T1 p ops m) es) = (none, 0, [T1 p ops m], false, j1 m, d) := by
  rw [h.take2 (one_sound h (.inl rfl) he) rfl rfl, ready_far (t := T1 p ops m) (m := aboutT 2 (T1 p ops m) es) hf]
theorem idle_node (h : CI 1 p ops [T1 p ops m] (j1 m) d) (he : EB p.pa es) {f : Int} (hf : 0 ≤ f ∧ f ≤ 8) (hn : f ≠ workerOf p ops 1) : ctake p [T1 p ops m] false (j1 m) d ⟨2, f, 0, 1, 1, 0, es, [], []⟩ = (none, 0, [T1 p ops m], false, j1 m, d) := by
  have hk := h.nums
  unfold numsOk at hk
  have hs : Msound ⟨2, f, 0, 1, 1, 0, es, [], []⟩ := about_sound (.inl rfl) hf (by decide) (by decide) he (by omega) (by omega)
  rw [h.take2 hs rfl rfl, ready_not (t := T1 p ops m) (m := ⟨2, f, 0, 1, 1, 0, es, [], []⟩) (fun q => hn q.2.2.1.symm)]
theorem idle_none (h : CI 1 p ops [T1 p ops m] (j1 m) d) (hm : p.pa = (m : Int)) : ctake p [T1 p ops m] false (j1 m) d (aboutT 2 (T1 p ops m) (List.replicate m 0)) = (none, 0, [], false, j1 m, d) := by
  have hr : Onw p.ba (List.replicate m 0) (List.replicate m 0) := ⟨rfl, fun q hq => by have hk := h.nums; unfold numsOk at hk; rw [rep_getD]; omega⟩
  obtain ⟨he, hf, hfar⟩ := onw_facts hr (rep_eb hm)
  rw [h.take2 (one_sound h (.inl rfl) he) rfl rfl, ready_idle (t := T1 p ops m) (m := aboutT 2 (T1 p ops m) (List.replicate m 0)) rfl ⟨rfl, rfl, rfl⟩ hf hfar rfl]
theorem far_put (hm : 0 < m) (hb : 0 ≤ p.ba) : far p.ba (List.replicate m 0) ((List.replicate m 0).set 0 (p.ba + 1)) := ⟨0, by simp; exact hm, by rw [set_getD_eq (by simp; exact hm), rep_getD]; omega⟩
theorem eb_put (h : p.pa = (m : Int)) {v : Int} (hv : 0 ≤ v ∧ v ≤ 256) : EB p.pa ((List.replicate m 0).set 0 v) := ⟨by simp; exact h.symm, fun y hy => by
  rcases List.mem_or_eq_of_mem_set hy with hy | rfl
  · rw [List.eq_of_mem_replicate hy]; decide
  · exact hv⟩
end
/-! Its memory -/
def wcells (p : PlanA) (bd bc : Nat) (A : Option Addr) (m c : Nat) : List Value :=
  [.int .i64 p.pa, .int .i64 p.st, .int .i64 p.wo, .slice p.oA p.on p.oc, .int .i64 p.ag, .int .i64 p.ba, .int .i64 p.wi, .int .i64 p.gu, .pointer (some ⟨bd, 0, none⟩), .pointer (some ⟨bc, 0, none⟩), .slice A m c]
structure WQ where
  bd : Nat
  bc : Nat
  bj : Nat
  Ao : Option Addr
  co : Nat
  sA : Option Addr
  sc : Nat
  vs : List (MC × MP)
def SK (vs : List (MC × MP)) : World → Prop := fun w => ∀ x ∈ vs, MRd w x.1 x.2
def TK (A : Option Addr) (c : Nat) (vo : List TT) : World → Prop := fun w => Rd w A vo.length c 7 (KT.flat vo) ∧ ∀ x ∈ vo, TRd w x
/-- The numbers of the types. -/
structure TNs where
  TC : Nat
  TY : Nat
  TJ : Nat
  TI : Nat
  TD : Nat
  BS : Nat
  U8 : Nat
  TM : Nat
  TW : Nat
def WM (T : TNs) (bw : Nat) (p : PlanA) (ops : OpL) (tr : List TSt) (e : Bool) (j : JSt) (d : DSt) (q : WQ) : List Assn :=
  [Blk bw (wcells p q.bd q.bc q.sA q.vs.length q.sc) T.TW, CA T.TC T.TY q.bc q.bd q.bj (re p q.Ao q.co) ops tr e, JA T.TJ T.TI q.bj (some ⟨q.bd, 0, none⟩) j, DiskA T.TD T.BS T.U8 q.bd d, Own T.TM 9 (.slice q.sA q.vs.length q.sc) q.vs.length (KM.flat q.vs), Keep (SK q.vs)]
def WA (T : TNs) (bw : Nat) (p : PlanA) (ops : OpL) (tr : List TSt) (e : Bool) (j : JSt) (d : DSt) (n : Nat) : Assn := Thing (fun q : WQ => (∀ x ∈ q.vs, MSent x) ∧ q.vs.length ≤ n) (WM T bw p ops tr e j d)
section
variable {B w : World} {T : TNs} {bw : Nat} {p : PlanA} {ops : OpL} {tr : List TSt} {e : Bool} {j : JSt} {d : DSt} {n : Nat} {L : List Assn}
theorem Sat.wopen (hs : Sat B w (WA T bw p ops tr e j d n :: L)) : ∃ bd bc bj Ao co sA sc vs, (∀ x ∈ vs, MSent x) ∧ vs.length ≤ n ∧ Sat B w (WM T bw p ops tr e j d ⟨bd, bc, bj, Ao, co, sA, sc, vs⟩ ++ L) := by
  obtain ⟨⟨bd, bc, bj, Ao, co, sA, sc, vs⟩, h1, h2⟩ := Sat.openObj hs
  exact ⟨bd, bc, bj, Ao, co, sA, sc, vs, h1.1, h1.2, h2⟩
theorem Sat.wshut {bd bc bj : Nat} {Ao : Option Addr} {co : Nat} {sA : Option Addr} {sc : Nat} {vs : List (MC × MP)} (h1 : ∀ x ∈ vs, MSent x) (h2 : vs.length ≤ n)
    (hs : Sat B w (Blk bw (wcells p bd bc sA vs.length sc) T.TW :: CA T.TC T.TY bc bd bj (re p Ao co) ops tr e :: JA T.TJ T.TI bj (some ⟨bd, 0, none⟩) j :: DiskA T.TD T.BS T.U8 bd d :: Own T.TM 9 (.slice sA vs.length sc) vs.length (KM.flat vs) :: Keep (SK vs) :: L)) : Sat B w (WA T bw p ops tr e j d n :: L) :=
  Sat.shutObj (M := WM T bw p ops tr e j d) ⟨bd, bc, bj, Ao, co, sA, sc, vs⟩ ⟨h1, h2⟩ hs
theorem tk_of {B w : World} {TY TI : Nat} {vo : List TT} {A : Option Addr} {c : Nat} (h : Sat B w (Own TY 7 (.slice A vo.length c) vo.length (KT.flat vo) :: rowsA TI KI (rvals vo) (rlists (vo.map Prod.fst)))) : TK A c vo w := by
  refine ⟨h.rd_at 0 rfl, ?_⟩
  have h2 := h.tail
  clear h
  induction vo with
  | nil => intro x hx; cases hx
  | cons y l ih =>
    intro x hx
    have e : rowsA TI KI (rvals (y :: l)) (rlists ((y :: l).map Prod.fst)) = Own TI 1 (.slice y.2.fA y.1.fr.length y.2.fc) y.1.fr.length (KI.flat y.1.fr) :: Own TI 1 (.slice y.2.tA y.1.to.length y.2.tc) y.1.to.length (KI.flat y.1.to) :: rowsA TI KI (rvals l) (rlists (l.map Prod.fst)) := rfl
    rw [e] at h2
    rcases List.mem_cons.1 hx with rfl | hx
    · exact ⟨h2.rd_at 0 rfl, h2.rd_at 1 rfl⟩
    · exact ih h2.tail.tail x hx
/-- The tries that were told, only read. -/
theorem Sat.triesK {TY TI : Nat} {vo : List TT} {A : Option Addr} {c : Nat} {X : Assn} (hv : vo.map Prod.fst = tr) (hs : Sat B w (Own TY 7 (.slice A vo.length c) vo.length (KT.flat vo) :: X :: (L ++ rowsA TI KI (rvals vo) (rlists tr)))) : Sat B w (Keep (TK A c vo) :: X :: L) := by
  subst hv
  refine Sat.toKeep (L1 := Own TY 7 (.slice A vo.length c) vo.length (KT.flat vo) :: rowsA TI KI (rvals vo) (rlists (vo.map Prod.fst))) (fun B w h => tk_of h) (hs.perm ?_)
  exact List.Perm.cons _ (perm_mid X L _)
where
  perm_mid (X : Assn) (L R : List Assn) : (X :: (L ++ R)).Perm (R ++ X :: L) := by
    have h1 : (X :: L ++ R).Perm (R ++ (X :: L)) := List.perm_append_comm
    exact h1
theorem Sat.keep2 {F G H : World → Prop} (hs : Sat B w (Keep F :: Keep G :: L)) (h : ∀ w, F w → G w → H w) : Sat B w (Keep H :: L) :=
  Sat.toKeep (L1 := [Keep F, Keep G]) (fun B w z => h w (z.kept 0 rfl) (z.kept 1 rfl)) hs
theorem Sat.ownKeep {F H : World → Prop} {A : Option Addr} {T n c : Nat} {xs : List Value} (hs : Sat B w (Own T 1 (.slice A n c) n xs :: Keep F :: L)) (h : ∀ w, Rd w A n c 1 xs → F w → H w) : Sat B w (Keep H :: L) :=
  Sat.toKeep (L1 := [Own T 1 (.slice A n c) n xs, Keep F]) (fun B w z => h w (z.rd_at 0 rfl) (z.kept 1 rfl)) hs
theorem SK.add {w : World} {vs : List (MC × MP)} {x : MC × MP} (h : SK vs w) (hx : MRd w x.1 x.2) : SK (vs ++ [x]) w := fun y hy => by
  rcases List.mem_append.1 hy with hy | hy
  · exact h y hy
  · rw [List.mem_singleton] at hy; subst hy; exact hx
theorem MSent.add {vs : List (MC × MP)} {x : MC × MP} (h : ∀ x ∈ vs, MSent x) (hx : MSent x) : ∀ y ∈ vs ++ [x], MSent y := fun y hy => by
  rcases List.mem_append.1 hy with hy | hy
  · exact h y hy
  · rw [List.mem_singleton] at hy; subst hy; exact hx
theorem msg_of {w : World} {k : Int} {t : TSt} {es : List Int} {A : Option Addr} {c : Nat} (h : Rd w A es.length c 1 (KI.flat es)) : MRd w (aboutT k t es) ⟨A, es.length, c, none, 0, 0, none, 0, 0⟩ := ⟨h, Rd.none w 1, Rd.none w 3⟩
theorem Sat.wnew {bd bc bj : Nat} {Ao : Option Addr} {co : Nat} (hs : Sat B w (Blk bw (wcells p bd bc none 0 0) T.TW :: CA T.TC T.TY bc bd bj (re p Ao co) ops tr e :: JA T.TJ T.TI bj (some ⟨bd, 0, none⟩) j :: DiskA T.TD T.BS T.U8 bd d :: L)) : Sat B w (WA T bw p ops tr e j d 0 :: L) := by
  have h1 : Sat B w (Keep (SK []) :: Blk bw (wcells p bd bc none 0 0) T.TW :: CA T.TC T.TY bc bd bj (re p Ao co) ops tr e :: JA T.TJ T.TI bj (some ⟨bd, 0, none⟩) j :: DiskA T.TD T.BS T.U8 bd d :: L) := Sat.toKeep (L1 := []) (fun B w z => fun x hx => by cases hx) hs
  have h2 := h1.own_nil T.TM 9
  refine Sat.wshut (vs := []) (sA := none) (sc := 0) (Ao := Ao) (co := co) (bj := bj) (bd := bd) (bc := bc) (fun x hx => by cases hx) (Nat.le_refl _) ?_
  exact h2.F5.F5.F5.F5
end
end Go.Proofs.Ytcifdianinbkeaa.Lg
set_option linter.unusedVariables false
set_option linter.unusedSimpArgs false
namespace Go.Proofs.Ytcifdianinbkeaa.Lg
open Go Go.RowKit Go.Proofs.Ytcifdianinbkeaa.WirePure Go.Proofs.Ytcifdianinbkeaa.PlanPure
abbrev tns : TNs := ⟨79, 43, 108, 3, 122, 125, 5, 41, 31⟩
theorem wopen19 {B w : World} {bw : Nat} {p : PlanA} {ops : OpL} {tr : List TSt} {e : Bool} {j : JSt} {d : DSt} {n : Nat} {L : List Assn} (hs : Sat B w (WA tns bw p ops tr e j d n :: L)) : ∃ bd bc bj Ao co sA sc vs, (∀ x ∈ vs, MSent x) ∧ vs.length ≤ n ∧
    Sat B w (Blk bw (wcells p bd bc sA vs.length sc) 31 :: CA 79 43 bc bd bj (re p Ao co) ops tr e :: JA 108 3 bj (some ⟨bd, 0, none⟩) j :: DiskA 122 125 5 bd d :: Own 41 9 (.slice sA vs.length sc) vs.length (KM.flat vs) :: Keep (SK vs) :: L) := hs.wopen
theorem wshut19 {B w : World} {bw : Nat} {p : PlanA} {ops : OpL} {tr : List TSt} {e : Bool} {j : JSt} {d : DSt} {n : Nat} {L : List Assn} {bd bc bj : Nat} {Ao : Option Addr} {co : Nat} {sA : Option Addr} {sc : Nat} {vs : List (MC × MP)} (h1 : ∀ x ∈ vs, MSent x) (h2 : vs.length ≤ n)
    (hs : Sat B w (Blk bw (wcells p bd bc sA vs.length sc) 31 :: CA 79 43 bc bd bj (re p Ao co) ops tr e :: JA 108 3 bj (some ⟨bd, 0, none⟩) j :: DiskA 122 125 5 bd d :: Own 41 9 (.slice sA vs.length sc) vs.length (KM.flat vs) :: Keep (SK vs) :: L)) : Sat B w (WA tns bw p ops tr e j d n :: L) := Sat.wshut (T := tns) h1 h2 hs
theorem wnew19 {B w : World} {bw : Nat} {p : PlanA} {ops : OpL} {tr : List TSt} {e : Bool} {j : JSt} {d : DSt} {L : List Assn} {bd bc bj : Nat} {Ao : Option Addr} {co : Nat} (hs : Sat B w (Blk bw (wcells p bd bc none 0 0) 31 :: CA 79 43 bc bd bj (re p Ao co) ops tr e :: JA 108 3 bj (some ⟨bd, 0, none⟩) j :: DiskA 122 125 5 bd d :: L)) : Sat B w (WA tns bw p ops tr e j d 0 :: L) := Sat.wnew (T := tns) hs
theorem ActR.er {N : Int} {p : PlanA} {ops : OpL} {j : JSt} {d : DSt} {er : Int} {en : Bool} {out : Option MC} {tr2 : List TSt} {j2 : JSt} {d2 : DSt} {A : Option Addr} {c : Nat} (h : ActR N (re p A c) ops j d er en out tr2 j2 d2) : ActR N p ops j d er en out tr2 j2 d2 := by
  rcases h with ⟨h1, h2, h3, h4⟩ | h
  · exact .inl ⟨h1, h2, h3.er, ⟨h4.att, h4.ba, h4.out⟩⟩
  · exact .inr h
theorem KM_snoc (vs : List (MC × MP)) (m : MC) (q : MP) (l : List Value) (h : l = mcells m q) : KM.flat vs ++ l = KM.flat (vs ++ [(m, q)]) := by rw [El.flat_append, h, ← mcells_1]
set_option maxRecDepth 100000 in
set_option maxHeartbeats 4000000 in
theorem act_c (B w : World) (L : List Assn) (bw : Nat) (p : PlanA) (ops : OpL) (tr : List TSt) (j : JSt) (d : DSt) (sn : Nat) (N : Int) (hs : Sat B w (WA tns bw p ops tr false j d sn :: L)) (hr : Rd B p.oA p.on p.oc 3 (KOp.flat ops)) (hn : p.on ≤ 67108864) (hci : CI N p ops tr j d) (hN : N < 1099511627770) (hsn : sn ≤ 100000) (kd K : Int) (A1 : Option Addr) (n1 c1 : Nat) (ol : List Int) (hr1 : Rd B A1 n1 c1 1 (KI.flat ol)) (hn1 : n1 ≤ 9223372036854775807) :
    Calls Try.prog 18 [.pointer (some ⟨bw, 0, none⟩), .agg #[.int .i64 kd, .int .i64 K, .slice A1 n1 c1]].toArray w (Ret (fun v' w' => ∃ v out tr' j' d' n', v' = .tuple #[v, .bool true] ∧ Sat B w' (MO 41 3 v out :: WA tns bw p ops tr' false j' d' n' :: L) ∧ CI (N + 1) p ops tr' j' d' ∧ StepR p ops j.n j'.n out ∧ n' ≤ sn + 1 ∧ (kd = 1 → d.armed = false → ctick p ops tr false j d = (out, 0, tr', false, j', d')))) := by
  have hlens := hci.lens
  have hk0 := hci.nums
  unfold numsOk at hk0
  obtain ⟨bd, bc, bj, Ao, co, sA, sc, vs, hvs, hvl, hs⟩ := wopen19 hs
  unfold wcells at hs
  refine Zb Try.func18 rfl rfl rfl (Zs (Ls_box hs rfl rfl (fun b2 w1 hs => (Za rfl (Za rfl (Zt (Zm rfl (Zk rfl (Zf un31 inf28 rfl 9 rfl (Zl sc28 rfl (hs.blk_at 1 rfl 9 rfl) ?_))))))))))
  replace hs := hs.F2
  refine Zc fn12 rfl (cTries_c B w1 _ bc bd bj (re p Ao co) ops tr false hs (by omega) (fun t ht => by have := hlens.2 t ht; omega)) rfl ?_
  rintro v3 w4 ⟨vo, oA, oc, hvo, rfl, hs⟩
  replace hs := hs.triesK hvo
  have hvol : vo.length = tr.length := by rw [← hvo, List.length_map]
  refine Za rfl (Zt (Za rfl (Zt (Za rfl (Zj (St_seq (Zs (Zf un60 inf3 rfl 0 rfl (Zl sc3 rfl (hs.blk_at 2 rfl 0 rfl) (Zj (St_block (Zs (Zr (run_eql rfl rfl) rfl (Za rfl (Zj ?_)))))))))))))))
  obtain ⟨En5, hEn5⟩ := ex8 fun (v : Value) (out : Option MC) (er : Int) (en : Bool) (tr2 : List TSt) (j2 : JSt) (d2 : DSt) (n2 : Nat) => ([(0, .pointer (some ⟨bw, 0, none⟩)), (7, v), (8, .int .i64 er)] : Env)
  obtain ⟨Iv6, hIv6⟩ := ew8 fun (v : Value) (out : Option MC) (er : Int) (en : Bool) (tr2 : List TSt) (j2 : JSt) (d2 : DSt) (n2 : Nat) (w7 : World) => Sat B w7 (MO 41 3 v out :: WA tns bw p ops tr2 en j2 d2 n2 :: L) ∧ ActR N p ops j d er en out tr2 j2 d2 ∧ n2 ≤ sn + 1 ∧ (kd = 1 → ctick p ops tr false j d = (out, er, tr2, en, j2, d2))
  refine St_join En5 Iv6 ?_ ?_
  · refine St_ifP rfl (fun h8 => ?_) (fun h8 => ?_)
    · refine St_region (Zm rfl (Zk rfl (Zf un31 inf28 rfl 9 rfl (Zl sc28 rfl (hs.blk_at 3 rfl 9 rfl) ?_))))
      replace hs := hs.F5.F5.F3
      refine Zc fn11 rfl (cTick_c B w4 _ bc bd bj (re p Ao co) ops tr false j d hs (fun t ht => by have := hlens.2 t ht; omega) (by omega) (hci.re Ao co).ageLens hci.jo hci.rows (by show p.on ≤ _; omega)) rfl ?_
      rintro v9 w10 ⟨vt, rfl, hs⟩
      have hR := ((hci.re Ao co).tickR hN).er
      obtain ⟨⟨out, er, tr2, en, j2, d2⟩, ho⟩ : ∃ z, ctick (re p Ao co) ops tr false j d = z := ⟨_, rfl⟩
      rw [ho] at hs hR ⊢
      simp only at hs hR ⊢
      refine Zm rfl (Zr (run_extract rfl rfl) rfl (Zr (run_extract rfl rfl) rfl (Za rfl (Za rfl (Ls_nil ?_)))))
      replace hs := hs.F8.F8.F5.F5.F5.F8
      replace hs := wshut19 hvs hvl hs
      replace hs := hs.E2.E2.F1
      refine Jm_join (vt, out, er, en, tr2, j2, d2, sn) ?_ ?_
      · rw [hEn5]; exact sE ⟨rfl, rfl, rfl, trivial⟩
      rw [hIv6]
      exact ⟨hs, hR, by omega, fun _ => ho⟩
    refine St_seq (Zs (Zr (run_eql rfl rfl) rfl (Za rfl (Zj (St_ifPK rfl (fun h11 => ?_) (fun h11 => ?_))))))
    · refine St_skip (Zq (St_ift rfl (St_seq (Zs (Zm rfl (Zr (run_len un44 rfl) rfl (Zr (run_eql rfl rfl) rfl (Zj (St_ifP rfl (fun h13 => ?_) (fun h13 => ?_))))))))))
      · refine Zs (Za rfl (Za rfl (Zj (St_ret (Jm_then_ret (Jm_then_ret (Jm_block_ret (Jm_then_ret (Jm_ret2 rfl rfl rfl ?_)))))))))
        replace hs := hs.E0.E1.F5.F5.F5.F5.F4.F5
        replace hs := wshut19 hvs hvl hs
        exact ⟨_, rfl, _, none, tr, j, d, sn, rfl, hs.toMoNone, hci.mono (by omega), StepR.same _, by omega, fun q => by omega⟩
      refine St_skip (Zq (St_seq (St_hold (Hold.of (Ls := [_]) hs) mixed (fun w14 q15 => ?_))))
      replace hs := hs.quiet q15
      have hH := Hold.of (Ls := [_]) hs
      refine Ym hH 0 rfl (by kernel_rfl) rfl ?_
      obtain ⟨x0, hx0⟩ : ∃ z, vo.getD 0 T0 = z := ⟨_, rfl⟩
      have hx0m : x0 ∈ vo := by rw [← hx0]; exact getD_mem3 (by omega)
      have hx0t : x0.1 = tr.getD 0 T0.1 := by rw [← hx0, ← hvo, fst_getD]
      have hx0n : x0.1 ∈ tr := by rw [hx0t]; exact getD_mem3 (by omega)
      refine An_index 1  (KT) rfl (by kernel_rfl) (by kernel_rfl) (by kernel_rfl) (fun _ _ _ _ h => h) hH (fun x hx => ((hx.choose_spec.kept 0 rfl).1)) un44 inf43 rfl rfl (by omega) (by omega) hx0 rfl (fun b16 o17 hc18 => (Ya hH 2 rfl (by kernel_rfl) (fun x hx => run_as (run_load_agg agg43 inf43 rfl rfl (hc18 x hx)) (show _ = Value.agg #[.int .i64 x0.1.b, .int .i64 x0.1.a, .int .i64 x0.1.nd, .int .i64 x0.1.ph, .int .i64 x0.1.ti, .slice x0.2.fA x0.1.fr.length x0.2.fc, .slice x0.2.tA x0.1.to.length x0.2.tc] from rfl)) (Ym hH 3 rfl (by kernel_rfl) rfl (An_index 4  (KT) rfl (by kernel_rfl) (by kernel_rfl) (by kernel_rfl) (fun _ _ _ _ h => h) hH (fun x hx => ((hx.choose_spec.kept 0 rfl).1)) un44 inf43 rfl rfl (by omega) (by omega) hx0 rfl (fun b19 o20 hc21 => (Ya hH 5 rfl (by kernel_rfl) (fun x hx => run_field un43 rfl inf25 (by decide) rfl) (Ya hH 6 rfl (by kernel_rfl) (fun x hx => run_load sc25 rfl ((hc21 x hx) 6 _ rfl)) (An_two 7 8 (by kernel_rfl) rfl rfl ?_ ?_))))))))
      · refine Zc fn16 rfl (labout_c w14 8 x0 _ _ _) rfl ?_
        rintro v22 w23 ⟨rfl, hsF⟩
        replace hs := hs.T hsF
        replace hH := Hold.of (Ls := [_]) hs
        refine Ls_nil (Jm_An hH (An_only 8 (by kernel_rfl) rfl (Ls_alloc hs inf41 rfl (fun b25 w24 hs => ?_))))
        replace hs := hs.F1
        replace hH := Hold.of (Ls := [_]) hs
        refine Ls_nil (Jm_An hH (An_only 9 (by kernel_rfl) rfl ?_))
        replace hs := hs.F1
        refine Ls_storeAgg hs inf41 rfl rfl rfl rfl (by simp [Value.oneCell', Value.cells, mcells, tcells]) (fun w26 hs => ?_)
        replace hs := hs.F1
        replace hH := Hold.of (Ls := [_]) hs
        refine Ls_nil (Jm_An hH (An_done (by kernel_rfl) (Zq (St_seq (Zs (Zf un60 inf3 rfl 0 rfl (Zl sc3 rfl (hs.blk_at 3 rfl 0 rfl) (Zr (run_asB (c := true) (run_eql rfl rfl) (by rw [decide_eq_true_eq]; assumption)) rfl (Zj (St_ift rfl (Zs (Zm rfl (Zf un60 inf3 rfl 1 rfl (Zl sc3 rfl (hs.blk_at 3 rfl 1 rfl) ?_))))))))))))))
        obtain ⟨u, hu, hub⟩ := u64_nat' K
        have hul : u % vo.length < vo.length := Nat.mod_lt _ (by omega)
        refine Zr (run_conv_int un67 us3 rfl hu) rfl (Zm rfl (Zr (run_len un44 rfl) rfl (Zr (run_conv_int un67 us3 rfl (wu64 (by omega))) rfl (Zr (run_rem rfl rfl (by omega) (rem_nn' u vo.length)) rfl (Zr (run_conv_int un3 us67 rfl (w64 (by omega))) rfl ?_)))))
        obtain ⟨xi, hxi⟩ : ∃ z, vo.getD (u % vo.length) T0 = z := ⟨_, rfl⟩
        have hxim : xi ∈ vo := by rw [← hxi]; exact getD_mem3 hul
        have hxie : xi.1 = tr.getD (u % vo.length) T0.1 := by rw [← hxi, ← hvo, fst_getD]
        have hxit : xi.1 ∈ tr := by rw [hxie]; exact getD_mem3 (by omega)
        refine Ls_index (KT) ((hs.kept 0 rfl).1) un44 inf43 rfl rfl (by omega) (by omega) (show vo.getD ((u % vo.length : Nat) : Int).toNat T0 = xi from hxi) rfl (fun b28 o29 hc30 => (Zr (run_as (run_load_agg agg43 inf43 rfl rfl hc30) (show _ = Value.agg #[.int .i64 xi.1.b, .int .i64 xi.1.a, .int .i64 xi.1.nd, .int .i64 xi.1.ph, .int .i64 xi.1.ti, .slice xi.2.fA xi.1.fr.length xi.2.fc, .slice xi.2.tA xi.1.to.length xi.2.tc] from rfl)) rfl (Ls_alloc hs inf43 rfl (fun b32 w31 hs => (Ls_storeAgg hs inf43 rfl rfl rfl rfl (by simp [Value.oneCell', Value.cells, mcells, tcells]) (fun w33 hs => (Zj ?_)))))))
        replace hs := hs.F1.F4.F5.F3
        refine St_hold (Hold.of (Ls := [_, _, _, _]) hs) mixed (fun w34 q35 => ?_)
        replace hs := hs.quiet q35
        have hH := Hold.of (Ls := [_, _, _, _]) hs
        refine Ya hH 0 rfl (by kernel_rfl) (fun x hx => run_load_agg agg43 inf43 rfl rfl (hx.choose_spec.blk_cells 0 rfl 0 7)) (Ym hH 1 rfl (by kernel_rfl) rfl (Ya hH 2 rfl (by kernel_rfl) (fun x hx => run_nilCheck rfl) (Ya hH 3 rfl (by kernel_rfl) (fun x hx => run_fd un31 inf24 rfl 0 rfl) (Ya hH 4 rfl (by kernel_rfl) (fun x hx => run_load_agg agg24 inf24 rfl rfl (hx.choose_spec.blk_cells 1 rfl 0 8)) (Ya hH 5 rfl (by kernel_rfl) (fun x hx => run_fd un43 inf25 rfl 5 rfl) (Ya hH 6 rfl (by kernel_rfl) (fun x hx => run_load sc25 rfl (hx.choose_spec.blk_at 0 rfl 5 rfl)) (Ya hH 7 rfl (by kernel_rfl) (fun x hx => run_fd un60 inf25 rfl 2 rfl) (Ya hH 8 rfl (by kernel_rfl) (fun x hx => run_load sc25 rfl (hx.choose_spec.blk_at 2 rfl 2 rfl)) (An_only 9 (by kernel_rfl) rfl ?_)))))))))
        obtain ⟨mb, hmb⟩ : ∃ z : Nat, p.ba + 1 = (z : Int) := ⟨(p.ba + 1).toNat, by omega⟩
        refine Zc fn14 rfl (onward_c w34 p xi.2.fA xi.2.fc xi.1.fr (((hs.kept 3 rfl).2 _ hxim).1) A1 n1 c1 ol (hr1.inB hs) hn1 mb hmb (by omega) (by have := hlens.2 xi.1 hxit; omega) (fun y hy => (hlens.2 xi.1 hxit).2.2.1 y hy)) rfl ?_
        rintro v36 w37 ⟨xs, eA, eC, hxo, rfl, hsO⟩
        replace hs := hs.T hsO
        have hxl : xs.length = xi.1.fr.length := hxo.1
        replace hs := hs.F4.F4.F4.F4
        replace hH := Hold.of (Ls := [_, _, _, _]) hs
        refine Ls_nil (Jm_An hH (An_only 10 (by kernel_rfl) rfl (Zc fn16 rfl (labout_c w37 2 xi _ _ _) rfl ?_)))
        rintro v38 w39 ⟨rfl, hsF⟩
        replace hs := hs.T hsF
        replace hs := hs.F3.F3.F3.F3
        replace hH := Hold.of (Ls := [_, _, _, _]) hs
        refine Ls_nil (Jm_An hH (An_only 11 (by kernel_rfl) rfl ?_))
        replace hs := hs.F5
        refine Ls_storeAgg hs inf41 rfl rfl rfl rfl (by simp [Value.oneCell', Value.cells, mcells, tcells]) (fun w40 hs => ?_)
        replace hs := hs.F4.F4.F4.F4
        replace hH := Hold.of (Ls := [_, _, _, _]) hs
        refine Ls_nil (Jm_An hH (An_done (by kernel_rfl) (Zq (St_seq (Zs (Zf un41 inf25 rfl 6 rfl (Zl sc25 rfl (hs.blk_at 4 rfl 6 rfl) ?_)))))))
        have hfr := (hci.ts.ends (note_eb hci.jo.1).1 (u % vo.length) (by omega)).1
        have hk2 := hci.nums
        unfold numsOk at hk2
        rw [← hxie] at hfr
        have hfl := hfr.1
        rw [hci.jp] at hfl
        have hes4 : xs.length ≤ 4 := by omega
        have hsnt : Msound (aboutT 2 xi.1 xs) := by rw [hxie]; exact hci.about hN (by omega) (.inl rfl) (onw_facts hxo hfr).1
        refine Zr (run_len un25 rfl) rfl (Zr (run_asB (c := false) (run_eql rfl rfl) (decide_eq_false (by omega))) rfl (Zj (St_iff rfl (St_skip (Zq (St_seq ?_))))))
        replace hs := hs.F4.F2
        refine St_holdC 10 (Hold.of (Ls := [_, _]) hs) mixed (fun w42 q43 => ?_)
        replace hs := hs.quiet q43
        have hH := Hold.of (Ls := [_, _]) hs
        refine Yr (fun _ => hH) 0 rfl (by kernel_rfl) (fun x => run_move rfl) (Yr (fun _ => hH) 1 rfl (by kernel_rfl) (fun x => run_move rfl) (Yr (fun _ => hH) 2 rfl (by kernel_rfl) (fun x => run_nilCheck rfl) (Yr (fun _ => hH) 3 rfl (by kernel_rfl) (fun x => run_fd un31 inf29 rfl 10 rfl) (Yd hH 4 [10, 4] rfl (by kernel_rfl) (fun x hx => run_load sc29 rfl (hx.choose_spec.blk_at 0 rfl 10 rfl)) (Yd hH 5 [10, 5] rfl (by kernel_rfl) (fun x hx => run_load_agg agg41 inf41 rfl rfl (hx.choose_spec.blk_cells 1 rfl 0 9)) (AnC_only 6 (by kernel_rfl) rfl (Ls_literal [_] hs un29 inf41 rfl rfl rfl rfl rfl rfl (fun b44 w45 hs => ?_))))))))
        simp only [List.flatMap_cons, List.flatMap_nil, Value.cells, List.cons_append, List.nil_append] at hs
        replace hs := hs.F2.F2
        replace hH := Hold.of (Ls := [_, _]) hs
        refine Ls_nil (Jm_AnC (fun _ => hH) (AnC_only 7 (by kernel_rfl) rfl ?_))
        replace hs := hs.F10
        refine Ls_append hs un29 inf41 rfl (by decide) (by decide) rfl rfl (rd_block (hs.is_at 3 rfl).2 9 1 rfl) (by simp [Value.oneCell', mcells]) (by omega) rfl (fun A46 c47 w48 hs => ?_)
        replace hs := hs.E3
        rw [← hxl] at hs ⊢
        rw [KM_snoc vs (aboutT 2 xi.1 xs) (⟨eA, xs.length, eC, none, 0, 0, none, 0, 0⟩ : MP) _ (by simp [mcells, aboutT])] at hs
        obtain ⟨v2, hv2⟩ : ∃ z, vs ++ [(aboutT 2 xi.1 xs, (⟨eA, xs.length, eC, none, 0, 0, none, 0, 0⟩ : MP))] = z := ⟨_, rfl⟩
        have hl2 : vs.length + 1 = v2.length := by rw [← hv2]; simp
        rw [hv2, hl2] at hs
        rw [hl2]
        have hmem : (aboutT 2 xi.1 xs, (⟨eA, xs.length, eC, none, 0, 0, none, 0, 0⟩ : MP)) ∈ v2 := by rw [← hv2]; simp
        replace hs := hs.F2.F2
        replace hH := Hold.of (Ls := [_, _]) hs
        refine Ls_nil (Jm_AnC (fun _ => hH) (Yr (fun _ => hH) 8 rfl (by kernel_rfl) (fun x => run_nilCheck rfl) (Yr (fun _ => hH) 9 rfl (by kernel_rfl) (fun x => run_fd un31 inf29 rfl 10 rfl) (AnC_only 10 (by kernel_rfl) rfl (Ls_store hs inf29 rfl rfl rfl rfl (fun w49 hs => ?_))))))
        try simp only [List.set_cons_zero, List.set_cons_succ] at hs
        refine Ls_nil (Jm_AnC_closed (by kernel_rfl) (AnC_done (by kernel_rfl) (Zq ?_)))
        replace hs := hs.F1.F1
        refine St_hold (Hold.of (Ls := [_, _]) hs) mixed (fun w50 q51 => ?_)
        replace hs := hs.quiet q51
        have hH := Hold.of (Ls := [_, _]) hs
        refine Ym hH 0 rfl (by kernel_rfl) rfl (Ya hH 1 rfl (by kernel_rfl) (fun x hx => run_nilCheck rfl) (Ya hH 2 rfl (by kernel_rfl) (fun x hx => run_fd un31 inf28 rfl 9 rfl) (Ya hH 3 rfl (by kernel_rfl) (fun x hx => run_load sc28 rfl (hx.choose_spec.blk_at 0 rfl 9 rfl)) (Ya hH 4 rfl (by kernel_rfl) (fun x hx => run_load_agg agg41 inf41 rfl rfl (hx.choose_spec.blk_cells 1 rfl 0 9)) (An_only 5 (by kernel_rfl) rfl ?_)))))
        replace hs := hs.F10.F7
        replace hs := hs.ownKeep (H := SK v2) (fun w h1 h2 => hv2 ▸ h2.add (msg_of (t := xi.1) (k := 2) h1))
        replace hs := hs.F9.F9.F9
        have hms := hsnt
        refine Zc fn15 rfl (cTake_c B w50 _ bc bd bj (re p Ao co) ops tr false j d hs hci.jo hci.rows (aboutT 2 xi.1 xs) (⟨eA, xs.length, eC, none, 0, 0, none, 0, 0⟩ : MP) (fun w' X z => (z.kept 1 rfl) _ hmem) rfl (by refine ⟨?_, ?_, ?_⟩ <;> simp only <;> omega) (by omega) (fun t ht => by have := hlens.2 t ht; omega) (fun t ht => by have := hlens.2 t ht; exact ⟨by omega, this.2.2.1⟩)) rfl ?_
        rintro v52 w53 ⟨vt, rfl, hs⟩
        have hR := ((hci.re Ao co).takeR hN hms rfl (.inl rfl)).er
        obtain ⟨⟨out, er, tr2, en, j2, d2⟩, ho⟩ : ∃ z, ctake (re p Ao co) tr false j d (aboutT 2 xi.1 xs) = z := ⟨_, rfl⟩
        rw [ho] at hs hR ⊢
        simp only at hs hR ⊢
        have hvs2 : ∀ x ∈ v2, MSent x := hv2 ▸ MSent.add hvs ⟨⟨rfl, hes4, rfl, rfl⟩, hms, rfl, .inl rfl⟩
        replace hs := hs.F6.F6
        replace hH := Hold.of (Ls := [_, _]) hs
        refine Ls_nil (Jm_An hH (Ym hH 6 rfl (by kernel_rfl) rfl (Ya hH 7 rfl (by kernel_rfl) (fun x hx => run_extract rfl rfl) (Ya hH 8 rfl (by kernel_rfl) (fun x hx => run_extract rfl rfl) (Ya hH 9 rfl (by kernel_rfl) (fun x hx => run_assign rfl) (Ya hH 10 rfl (by kernel_rfl) (fun x hx => run_assign rfl) (An_done (by kernel_rfl) ?_)))))))
        replace hvl : v2.length ≤ sn + 1 := by omega
        clear hvs
        have hvs := hvs2
        replace hs := hs.F6.F7.F7.F7.F7.F5
        replace hs := wshut19 hvs hvl hs
        replace hs := hs.E1.E2.E2.E2.F1
        refine Jm_join (vt, out, er, en, tr2, j2, d2, sn + 1) ?_ ?_
        · rw [hEn5]; exact sE ⟨rfl, rfl, rfl, trivial⟩
        rw [hIv6]
        exact ⟨hs, hR, by omega, fun q => by omega⟩
      refine Ls_alloc hs inf41 rfl (fun b55 w54 hs => ?_)
      replace hs := hs.F1
      replace hH := Hold.of (Ls := [_]) hs
      refine Ls_nil (Jm_An hH (An_only 7 (by kernel_rfl) rfl (Zc fn16 rfl (labout_c w54 8 x0 _ _ _) rfl ?_)))
      rintro v56 w57 ⟨rfl, hsF⟩
      replace hs := hs.T hsF
      replace hH := Hold.of (Ls := [_]) hs
      refine Ls_nil (Jm_An hH (An_only 9 (by kernel_rfl) rfl ?_))
      replace hs := hs.F1
      refine Ls_storeAgg hs inf41 rfl rfl rfl rfl (by simp [Value.oneCell', Value.cells, mcells, tcells]) (fun w58 hs => ?_)
      replace hs := hs.F1
      replace hH := Hold.of (Ls := [_]) hs
      refine Ls_nil (Jm_An hH (An_done (by kernel_rfl) (Zq (St_seq (Zs (Zf un60 inf3 rfl 0 rfl (Zl sc3 rfl (hs.blk_at 3 rfl 0 rfl) (Zr (run_asB (c := true) (run_eql rfl rfl) (by rw [decide_eq_true_eq]; assumption)) rfl (Zj (St_ift rfl (Zs (Zm rfl (Zf un60 inf3 rfl 1 rfl (Zl sc3 rfl (hs.blk_at 3 rfl 1 rfl) ?_))))))))))))))
      obtain ⟨u, hu, hub⟩ := u64_nat' K
      have hul : u % vo.length < vo.length := Nat.mod_lt _ (by omega)
      refine Zr (run_conv_int un67 us3 rfl hu) rfl (Zm rfl (Zr (run_len un44 rfl) rfl (Zr (run_conv_int un67 us3 rfl (wu64 (by omega))) rfl (Zr (run_rem rfl rfl (by omega) (rem_nn' u vo.length)) rfl (Zr (run_conv_int un3 us67 rfl (w64 (by omega))) rfl ?_)))))
      obtain ⟨xi, hxi⟩ : ∃ z, vo.getD (u % vo.length) T0 = z := ⟨_, rfl⟩
      have hxim : xi ∈ vo := by rw [← hxi]; exact getD_mem3 hul
      have hxie : xi.1 = tr.getD (u % vo.length) T0.1 := by rw [← hxi, ← hvo, fst_getD]
      have hxit : xi.1 ∈ tr := by rw [hxie]; exact getD_mem3 (by omega)
      refine Ls_index (KT) ((hs.kept 0 rfl).1) un44 inf43 rfl rfl (by omega) (by omega) (show vo.getD ((u % vo.length : Nat) : Int).toNat T0 = xi from hxi) rfl (fun b60 o61 hc62 => (Zr (run_as (run_load_agg agg43 inf43 rfl rfl hc62) (show _ = Value.agg #[.int .i64 xi.1.b, .int .i64 xi.1.a, .int .i64 xi.1.nd, .int .i64 xi.1.ph, .int .i64 xi.1.ti, .slice xi.2.fA xi.1.fr.length xi.2.fc, .slice xi.2.tA xi.1.to.length xi.2.tc] from rfl)) rfl (Ls_alloc hs inf43 rfl (fun b64 w63 hs => (Ls_storeAgg hs inf43 rfl rfl rfl rfl (by simp [Value.oneCell', Value.cells, mcells, tcells]) (fun w65 hs => (Zj ?_)))))))
      replace hs := hs.F1.F4.F5.F3
      refine St_hold (Hold.of (Ls := [_, _, _, _]) hs) mixed (fun w66 q67 => ?_)
      replace hs := hs.quiet q67
      have hH := Hold.of (Ls := [_, _, _, _]) hs
      refine Ya hH 0 rfl (by kernel_rfl) (fun x hx => run_load_agg agg43 inf43 rfl rfl (hx.choose_spec.blk_cells 0 rfl 0 7)) (Ym hH 1 rfl (by kernel_rfl) rfl (Ya hH 2 rfl (by kernel_rfl) (fun x hx => run_nilCheck rfl) (Ya hH 3 rfl (by kernel_rfl) (fun x hx => run_fd un31 inf24 rfl 0 rfl) (Ya hH 4 rfl (by kernel_rfl) (fun x hx => run_load_agg agg24 inf24 rfl rfl (hx.choose_spec.blk_cells 1 rfl 0 8)) (Ya hH 5 rfl (by kernel_rfl) (fun x hx => run_fd un43 inf25 rfl 5 rfl) (Ya hH 6 rfl (by kernel_rfl) (fun x hx => run_load sc25 rfl (hx.choose_spec.blk_at 0 rfl 5 rfl)) (Ya hH 7 rfl (by kernel_rfl) (fun x hx => run_fd un60 inf25 rfl 2 rfl) (Ya hH 8 rfl (by kernel_rfl) (fun x hx => run_load sc25 rfl (hx.choose_spec.blk_at 2 rfl 2 rfl)) (An_only 9 (by kernel_rfl) rfl ?_)))))))))
      obtain ⟨mb, hmb⟩ : ∃ z : Nat, p.ba + 1 = (z : Int) := ⟨(p.ba + 1).toNat, by omega⟩
      refine Zc fn14 rfl (onward_c w66 p xi.2.fA xi.2.fc xi.1.fr (((hs.kept 3 rfl).2 _ hxim).1) A1 n1 c1 ol (hr1.inB hs) hn1 mb hmb (by omega) (by have := hlens.2 xi.1 hxit; omega) (fun y hy => (hlens.2 xi.1 hxit).2.2.1 y hy)) rfl ?_
      rintro v68 w69 ⟨xs, eA, eC, hxo, rfl, hsO⟩
      replace hs := hs.T hsO
      have hxl : xs.length = xi.1.fr.length := hxo.1
      replace hs := hs.F4.F4.F4.F4
      replace hH := Hold.of (Ls := [_, _, _, _]) hs
      refine Ls_nil (Jm_An hH (An_only 10 (by kernel_rfl) rfl (Zc fn16 rfl (labout_c w69 2 xi _ _ _) rfl ?_)))
      rintro v70 w71 ⟨rfl, hsF⟩
      replace hs := hs.T hsF
      replace hs := hs.F3.F3.F3.F3
      replace hH := Hold.of (Ls := [_, _, _, _]) hs
      refine Ls_nil (Jm_An hH (An_only 11 (by kernel_rfl) rfl ?_))
      replace hs := hs.F5
      refine Ls_storeAgg hs inf41 rfl rfl rfl rfl (by simp [Value.oneCell', Value.cells, mcells, tcells]) (fun w72 hs => ?_)
      replace hs := hs.F4.F4.F4.F4
      replace hH := Hold.of (Ls := [_, _, _, _]) hs
      refine Ls_nil (Jm_An hH (An_done (by kernel_rfl) (Zq (St_seq (Zs (Zf un41 inf25 rfl 6 rfl (Zl sc25 rfl (hs.blk_at 4 rfl 6 rfl) ?_)))))))
      have hfr := (hci.ts.ends (note_eb hci.jo.1).1 (u % vo.length) (by omega)).1
      have hk2 := hci.nums
      unfold numsOk at hk2
      rw [← hxie] at hfr
      have hfl := hfr.1
      rw [hci.jp] at hfl
      have hes4 : xs.length ≤ 4 := by omega
      have hsnt : Msound (aboutT 2 xi.1 xs) := by rw [hxie]; exact hci.about hN (by omega) (.inl rfl) (onw_facts hxo hfr).1
      refine Zr (run_len un25 rfl) rfl (Zr (run_asB (c := false) (run_eql rfl rfl) (decide_eq_false (by omega))) rfl (Zj (St_iff rfl (St_skip (Zq (St_seq ?_))))))
      replace hs := hs.F4.F2
      refine St_holdC 10 (Hold.of (Ls := [_, _]) hs) mixed (fun w74 q75 => ?_)
      replace hs := hs.quiet q75
      have hH := Hold.of (Ls := [_, _]) hs
      refine Yr (fun _ => hH) 0 rfl (by kernel_rfl) (fun x => run_move rfl) (Yr (fun _ => hH) 1 rfl (by kernel_rfl) (fun x => run_move rfl) (Yr (fun _ => hH) 2 rfl (by kernel_rfl) (fun x => run_nilCheck rfl) (Yr (fun _ => hH) 3 rfl (by kernel_rfl) (fun x => run_fd un31 inf29 rfl 10 rfl) (Yd hH 4 [10, 4] rfl (by kernel_rfl) (fun x hx => run_load sc29 rfl (hx.choose_spec.blk_at 0 rfl 10 rfl)) (Yd hH 5 [10, 5] rfl (by kernel_rfl) (fun x hx => run_load_agg agg41 inf41 rfl rfl (hx.choose_spec.blk_cells 1 rfl 0 9)) (AnC_only 6 (by kernel_rfl) rfl (Ls_literal [_] hs un29 inf41 rfl rfl rfl rfl rfl rfl (fun b76 w77 hs => ?_))))))))
      simp only [List.flatMap_cons, List.flatMap_nil, Value.cells, List.cons_append, List.nil_append] at hs
      replace hs := hs.F2.F2
      replace hH := Hold.of (Ls := [_, _]) hs
      refine Ls_nil (Jm_AnC (fun _ => hH) (AnC_only 7 (by kernel_rfl) rfl ?_))
      replace hs := hs.F10
      refine Ls_append hs un29 inf41 rfl (by decide) (by decide) rfl rfl (rd_block (hs.is_at 3 rfl).2 9 1 rfl) (by simp [Value.oneCell', mcells]) (by omega) rfl (fun A78 c79 w80 hs => ?_)
      replace hs := hs.E3
      rw [← hxl] at hs ⊢
      rw [KM_snoc vs (aboutT 2 xi.1 xs) (⟨eA, xs.length, eC, none, 0, 0, none, 0, 0⟩ : MP) _ (by simp [mcells, aboutT])] at hs
      obtain ⟨v2, hv2⟩ : ∃ z, vs ++ [(aboutT 2 xi.1 xs, (⟨eA, xs.length, eC, none, 0, 0, none, 0, 0⟩ : MP))] = z := ⟨_, rfl⟩
      have hl2 : vs.length + 1 = v2.length := by rw [← hv2]; simp
      rw [hv2, hl2] at hs
      rw [hl2]
      have hmem : (aboutT 2 xi.1 xs, (⟨eA, xs.length, eC, none, 0, 0, none, 0, 0⟩ : MP)) ∈ v2 := by rw [← hv2]; simp
      replace hs := hs.F2.F2
      replace hH := Hold.of (Ls := [_, _]) hs
      refine Ls_nil (Jm_AnC (fun _ => hH) (Yr (fun _ => hH) 8 rfl (by kernel_rfl) (fun x => run_nilCheck rfl) (Yr (fun _ => hH) 9 rfl (by kernel_rfl) (fun x => run_fd un31 inf29 rfl 10 rfl) (AnC_only 10 (by kernel_rfl) rfl (Ls_store hs inf29 rfl rfl rfl rfl (fun w81 hs => ?_))))))
      try simp only [List.set_cons_zero, List.set_cons_succ] at hs
      refine Ls_nil (Jm_AnC_closed (by kernel_rfl) (AnC_done (by kernel_rfl) (Zq ?_)))
      replace hs := hs.F1.F1
      refine St_hold (Hold.of (Ls := [_, _]) hs) mixed (fun w82 q83 => ?_)
      replace hs := hs.quiet q83
      have hH := Hold.of (Ls := [_, _]) hs
      refine Ym hH 0 rfl (by kernel_rfl) rfl (Ya hH 1 rfl (by kernel_rfl) (fun x hx => run_nilCheck rfl) (Ya hH 2 rfl (by kernel_rfl) (fun x hx => run_fd un31 inf28 rfl 9 rfl) (Ya hH 3 rfl (by kernel_rfl) (fun x hx => run_load sc28 rfl (hx.choose_spec.blk_at 0 rfl 9 rfl)) (Ya hH 4 rfl (by kernel_rfl) (fun x hx => run_load_agg agg41 inf41 rfl rfl (hx.choose_spec.blk_cells 1 rfl 0 9)) (An_only 5 (by kernel_rfl) rfl ?_)))))
      replace hs := hs.F10.F7
      replace hs := hs.ownKeep (H := SK v2) (fun w h1 h2 => hv2 ▸ h2.add (msg_of (t := xi.1) (k := 2) h1))
      replace hs := hs.F9.F9.F9
      have hms := hsnt
      refine Zc fn15 rfl (cTake_c B w82 _ bc bd bj (re p Ao co) ops tr false j d hs hci.jo hci.rows (aboutT 2 xi.1 xs) (⟨eA, xs.length, eC, none, 0, 0, none, 0, 0⟩ : MP) (fun w' X z => (z.kept 1 rfl) _ hmem) rfl (by refine ⟨?_, ?_, ?_⟩ <;> simp only <;> omega) (by omega) (fun t ht => by have := hlens.2 t ht; omega) (fun t ht => by have := hlens.2 t ht; exact ⟨by omega, this.2.2.1⟩)) rfl ?_
      rintro v84 w85 ⟨vt, rfl, hs⟩
      have hR := ((hci.re Ao co).takeR hN hms rfl (.inl rfl)).er
      obtain ⟨⟨out, er, tr2, en, j2, d2⟩, ho⟩ : ∃ z, ctake (re p Ao co) tr false j d (aboutT 2 xi.1 xs) = z := ⟨_, rfl⟩
      rw [ho] at hs hR ⊢
      simp only at hs hR ⊢
      have hvs2 : ∀ x ∈ v2, MSent x := hv2 ▸ MSent.add hvs ⟨⟨rfl, hes4, rfl, rfl⟩, hms, rfl, .inl rfl⟩
      replace hs := hs.F6.F6
      replace hH := Hold.of (Ls := [_, _]) hs
      refine Ls_nil (Jm_An hH (Ym hH 6 rfl (by kernel_rfl) rfl (Ya hH 7 rfl (by kernel_rfl) (fun x hx => run_extract rfl rfl) (Ya hH 8 rfl (by kernel_rfl) (fun x hx => run_extract rfl rfl) (Ya hH 9 rfl (by kernel_rfl) (fun x hx => run_assign rfl) (Ya hH 10 rfl (by kernel_rfl) (fun x hx => run_assign rfl) (An_done (by kernel_rfl) ?_)))))))
      replace hvl : v2.length ≤ sn + 1 := by omega
      clear hvs
      have hvs := hvs2
      replace hs := hs.F6.F7.F7.F7.F7.F5
      replace hs := wshut19 hvs hvl hs
      replace hs := hs.E1.E2.E2.E2.F1
      refine Jm_join (vt, out, er, en, tr2, j2, d2, sn + 1) ?_ ?_
      · rw [hEn5]; exact sE ⟨rfl, rfl, rfl, trivial⟩
      rw [hIv6]
      exact ⟨hs, hR, by omega, fun q => by omega⟩
    refine St_region (Zr (run_eql rfl rfl) rfl (Za rfl (Zj (St_ifPK rfl (fun h86 => ?_) (fun h86 => ?_)))))
    · refine St_seq (Zs (Zm rfl (Zr (run_len un44 rfl) rfl (Zr (run_eql rfl rfl) rfl (Zj (St_ifP rfl (fun h87 => ?_) (fun h87 => ?_)))))))
      · refine Zs (Za rfl (Za rfl (Zj (St_ret (Jm_then_ret (Jm_then_ret (Jm_block_ret (Jm_then_ret (Jm_ret2 rfl rfl rfl ?_)))))))))
        replace hs := hs.E0.E1.F5.F5.F5.F5.F4.F5
        replace hs := wshut19 hvs hvl hs
        exact ⟨_, rfl, _, none, tr, j, d, sn, rfl, hs.toMoNone, hci.mono (by omega), StepR.same _, by omega, fun q => by omega⟩
      refine St_skip (Zq (St_seq (St_hold (Hold.of (Ls := [_]) hs) mixed (fun w88 q89 => ?_))))
      replace hs := hs.quiet q89
      have hH := Hold.of (Ls := [_]) hs
      refine Ym hH 0 rfl (by kernel_rfl) rfl ?_
      obtain ⟨x0, hx0⟩ : ∃ z, vo.getD 0 T0 = z := ⟨_, rfl⟩
      have hx0m : x0 ∈ vo := by rw [← hx0]; exact getD_mem3 (by omega)
      have hx0t : x0.1 = tr.getD 0 T0.1 := by rw [← hx0, ← hvo, fst_getD]
      have hx0n : x0.1 ∈ tr := by rw [hx0t]; exact getD_mem3 (by omega)
      refine An_index 1  (KT) rfl (by kernel_rfl) (by kernel_rfl) (by kernel_rfl) (fun _ _ _ _ h => h) hH (fun x hx => ((hx.choose_spec.kept 0 rfl).1)) un44 inf43 rfl rfl (by omega) (by omega) hx0 rfl (fun b90 o91 hc92 => (Ya hH 2 rfl (by kernel_rfl) (fun x hx => run_as (run_load_agg agg43 inf43 rfl rfl (hc92 x hx)) (show _ = Value.agg #[.int .i64 x0.1.b, .int .i64 x0.1.a, .int .i64 x0.1.nd, .int .i64 x0.1.ph, .int .i64 x0.1.ti, .slice x0.2.fA x0.1.fr.length x0.2.fc, .slice x0.2.tA x0.1.to.length x0.2.tc] from rfl)) (Ym hH 3 rfl (by kernel_rfl) rfl (An_index 4  (KT) rfl (by kernel_rfl) (by kernel_rfl) (by kernel_rfl) (fun _ _ _ _ h => h) hH (fun x hx => ((hx.choose_spec.kept 0 rfl).1)) un44 inf43 rfl rfl (by omega) (by omega) hx0 rfl (fun b93 o94 hc95 => (Ya hH 5 rfl (by kernel_rfl) (fun x hx => run_field un43 rfl inf25 (by decide) rfl) (Ya hH 6 rfl (by kernel_rfl) (fun x hx => run_load sc25 rfl ((hc95 x hx) 6 _ rfl)) (An_two 7 8 (by kernel_rfl) rfl rfl ?_ ?_))))))))
      · refine Zc fn16 rfl (labout_c w88 8 x0 _ _ _) rfl ?_
        rintro v96 w97 ⟨rfl, hsF⟩
        replace hs := hs.T hsF
        replace hH := Hold.of (Ls := [_]) hs
        refine Ls_nil (Jm_An hH (An_only 8 (by kernel_rfl) rfl (Ls_alloc hs inf41 rfl (fun b99 w98 hs => ?_))))
        replace hs := hs.F1
        replace hH := Hold.of (Ls := [_]) hs
        refine Ls_nil (Jm_An hH (An_only 9 (by kernel_rfl) rfl ?_))
        replace hs := hs.F1
        refine Ls_storeAgg hs inf41 rfl rfl rfl rfl (by simp [Value.oneCell', Value.cells, mcells, tcells]) (fun w100 hs => ?_)
        replace hs := hs.F1
        replace hH := Hold.of (Ls := [_]) hs
        refine Ls_nil (Jm_An hH (An_done (by kernel_rfl) (Zq (St_seq (Zs (Zf un60 inf3 rfl 0 rfl (Zl sc3 rfl (hs.blk_at 3 rfl 0 rfl) (Zr (run_asB (c := false) (run_eql rfl rfl) (by rw [decide_eq_false_iff_not]; assumption)) rfl (Zj (St_iff rfl (St_skip (Zq (St_seq (Zs (Zf un41 inf25 rfl 6 rfl (Zl sc25 rfl (hs.blk_at 1 rfl 6 rfl) (Zr (run_len un25 rfl) rfl (Zr (run_eql rfl rfl) rfl (Zj (St_ifP rfl (fun h102 => ?_) (fun h102 => ?_)))))))))))))))))))))
        · refine Zs (Za rfl (Za rfl (Zj (St_ret (Jm_then_ret (Jm_then_ret (Jm_block_ret (Jm_then_ret (Jm_ret2 rfl rfl rfl ?_)))))))))
          replace hs := hs.E0.E0.E1.F5.F5.F5.F5.F4.F5
          replace hs := wshut19 hvs hvl hs
          exact ⟨_, rfl, _, none, tr, j, d, sn, rfl, hs.toMoNone, hci.mono (by omega), StepR.same _, by omega, fun q => by omega⟩
        have hes4 : x0.1.to.length ≤ 4 := (hlens.2 _ hx0n).2.1
        have hph : (tr.getD 0 T0.1).ph ≠ 1 := fun q => by have h9 := ((hci.ts.at_ 0 (by omega)).rd q).2; rw [← hx0t] at h9; rw [h9] at h102; exact h102 (by simp)
        have hsnt : Msound (aboutT 8 x0.1 x0.1.to) := by rw [hx0t]; exact hci.about hN (by omega) (.inr rfl) ((hci.ts.ends (note_eb hci.jo.1).1 0 (by omega)).2 hph)
        refine St_skip (Zq (St_seq ?_))
        replace hs := hs.F1.F4
        refine St_holdC 10 (Hold.of (Ls := [_, _]) hs) mixed (fun w103 q104 => ?_)
        replace hs := hs.quiet q104
        have hH := Hold.of (Ls := [_, _]) hs
        refine Yr (fun _ => hH) 0 rfl (by kernel_rfl) (fun x => run_move rfl) (Yr (fun _ => hH) 1 rfl (by kernel_rfl) (fun x => run_move rfl) (Yr (fun _ => hH) 2 rfl (by kernel_rfl) (fun x => run_nilCheck rfl) (Yr (fun _ => hH) 3 rfl (by kernel_rfl) (fun x => run_fd un31 inf29 rfl 10 rfl) (Yd hH 4 [10, 4] rfl (by kernel_rfl) (fun x hx => run_load sc29 rfl (hx.choose_spec.blk_at 0 rfl 10 rfl)) (Yd hH 5 [10, 5] rfl (by kernel_rfl) (fun x hx => run_load_agg agg41 inf41 rfl rfl (hx.choose_spec.blk_cells 1 rfl 0 9)) (AnC_only 6 (by kernel_rfl) rfl (Ls_literal [_] hs un29 inf41 rfl rfl rfl rfl rfl rfl (fun b105 w106 hs => ?_))))))))
        simp only [List.flatMap_cons, List.flatMap_nil, Value.cells, List.cons_append, List.nil_append] at hs
        replace hs := hs.F2.F2
        replace hH := Hold.of (Ls := [_, _]) hs
        refine Ls_nil (Jm_AnC (fun _ => hH) (AnC_only 7 (by kernel_rfl) rfl ?_))
        replace hs := hs.F8
        refine Ls_append hs un29 inf41 rfl (by decide) (by decide) rfl rfl (rd_block (hs.is_at 3 rfl).2 9 1 rfl) (by simp [Value.oneCell', mcells]) (by omega) rfl (fun A107 c108 w109 hs => ?_)
        replace hs := hs.E3
        rw [KM_snoc vs (aboutT 8 x0.1 x0.1.to) (⟨x0.2.tA, x0.1.to.length, x0.2.tc, none, 0, 0, none, 0, 0⟩ : MP) _ (by simp [mcells, aboutT])] at hs
        obtain ⟨v2, hv2⟩ : ∃ z, vs ++ [(aboutT 8 x0.1 x0.1.to, (⟨x0.2.tA, x0.1.to.length, x0.2.tc, none, 0, 0, none, 0, 0⟩ : MP))] = z := ⟨_, rfl⟩
        have hl2 : vs.length + 1 = v2.length := by rw [← hv2]; simp
        rw [hv2, hl2] at hs
        rw [hl2]
        have hmem : (aboutT 8 x0.1 x0.1.to, (⟨x0.2.tA, x0.1.to.length, x0.2.tc, none, 0, 0, none, 0, 0⟩ : MP)) ∈ v2 := by rw [← hv2]; simp
        replace hs := hs.F2.F2
        replace hH := Hold.of (Ls := [_, _]) hs
        refine Ls_nil (Jm_AnC (fun _ => hH) (Yr (fun _ => hH) 8 rfl (by kernel_rfl) (fun x => run_nilCheck rfl) (Yr (fun _ => hH) 9 rfl (by kernel_rfl) (fun x => run_fd un31 inf29 rfl 10 rfl) (AnC_only 10 (by kernel_rfl) rfl (Ls_store hs inf29 rfl rfl rfl rfl (fun w110 hs => ?_))))))
        try simp only [List.set_cons_zero, List.set_cons_succ] at hs
        refine Ls_nil (Jm_AnC_closed (by kernel_rfl) (AnC_done (by kernel_rfl) (Zq ?_)))
        replace hs := hs.F1.F1
        refine St_hold (Hold.of (Ls := [_, _]) hs) mixed (fun w111 q112 => ?_)
        replace hs := hs.quiet q112
        have hH := Hold.of (Ls := [_, _]) hs
        refine Ym hH 0 rfl (by kernel_rfl) rfl (Ya hH 1 rfl (by kernel_rfl) (fun x hx => run_nilCheck rfl) (Ya hH 2 rfl (by kernel_rfl) (fun x hx => run_fd un31 inf28 rfl 9 rfl) (Ya hH 3 rfl (by kernel_rfl) (fun x hx => run_load sc28 rfl (hx.choose_spec.blk_at 0 rfl 9 rfl)) (Ya hH 4 rfl (by kernel_rfl) (fun x hx => run_load_agg agg41 inf41 rfl rfl (hx.choose_spec.blk_cells 1 rfl 0 9)) (An_only 5 (by kernel_rfl) rfl ?_)))))
        replace hs := hs.F8.F4
        replace hs := hs.keep2 (H := SK v2) (fun w h1 h2 => hv2 ▸ h2.add (msg_of (t := x0.1) (k := 8) (h1.2 _ hx0m).2))
        replace hs := hs.F7.F7.F6
        have hms := hsnt
        refine Zc fn15 rfl (cTake_c B w111 _ bc bd bj (re p Ao co) ops tr false j d hs hci.jo hci.rows (aboutT 8 x0.1 x0.1.to) (⟨x0.2.tA, x0.1.to.length, x0.2.tc, none, 0, 0, none, 0, 0⟩ : MP) (fun w' X z => (z.kept 1 rfl) _ hmem) rfl (by refine ⟨?_, ?_, ?_⟩ <;> simp only <;> omega) (by omega) (fun t ht => by have := hlens.2 t ht; omega) (fun t ht => by have := hlens.2 t ht; exact ⟨by omega, this.2.2.1⟩)) rfl ?_
        rintro v113 w114 ⟨vt, rfl, hs⟩
        have hR := ((hci.re Ao co).takeR hN hms rfl (.inr rfl)).er
        obtain ⟨⟨out, er, tr2, en, j2, d2⟩, ho⟩ : ∃ z, ctake (re p Ao co) tr false j d (aboutT 8 x0.1 x0.1.to) = z := ⟨_, rfl⟩
        rw [ho] at hs hR ⊢
        simp only at hs hR ⊢
        have hvs2 : ∀ x ∈ v2, MSent x := hv2 ▸ MSent.add hvs ⟨⟨rfl, hes4, rfl, rfl⟩, hms, rfl, .inr rfl⟩
        replace hs := hs.F6.F6
        replace hH := Hold.of (Ls := [_, _]) hs
        refine Ls_nil (Jm_An hH (Ym hH 6 rfl (by kernel_rfl) rfl (Ya hH 7 rfl (by kernel_rfl) (fun x hx => run_extract rfl rfl) (Ya hH 8 rfl (by kernel_rfl) (fun x hx => run_extract rfl rfl) (Ya hH 9 rfl (by kernel_rfl) (fun x hx => run_assign rfl) (Ya hH 10 rfl (by kernel_rfl) (fun x hx => run_assign rfl) (An_done (by kernel_rfl) ?_)))))))
        replace hvl : v2.length ≤ sn + 1 := by omega
        clear hvs
        have hvs := hvs2
        replace hs := hs.F6.F7.F7.F7.F7.F5
        replace hs := wshut19 hvs hvl hs
        replace hs := hs.E1.E2.F1
        refine Jm_join (vt, out, er, en, tr2, j2, d2, sn + 1) ?_ ?_
        · rw [hEn5]; exact sE ⟨rfl, rfl, rfl, trivial⟩
        rw [hIv6]
        exact ⟨hs, hR, by omega, fun q => by omega⟩
      refine Ls_alloc hs inf41 rfl (fun b116 w115 hs => ?_)
      replace hs := hs.F1
      replace hH := Hold.of (Ls := [_]) hs
      refine Ls_nil (Jm_An hH (An_only 7 (by kernel_rfl) rfl (Zc fn16 rfl (labout_c w115 8 x0 _ _ _) rfl ?_)))
      rintro v117 w118 ⟨rfl, hsF⟩
      replace hs := hs.T hsF
      replace hH := Hold.of (Ls := [_]) hs
      refine Ls_nil (Jm_An hH (An_only 9 (by kernel_rfl) rfl ?_))
      replace hs := hs.F1
      refine Ls_storeAgg hs inf41 rfl rfl rfl rfl (by simp [Value.oneCell', Value.cells, mcells, tcells]) (fun w119 hs => ?_)
      replace hs := hs.F1
      replace hH := Hold.of (Ls := [_]) hs
      refine Ls_nil (Jm_An hH (An_done (by kernel_rfl) (Zq (St_seq (Zs (Zf un60 inf3 rfl 0 rfl (Zl sc3 rfl (hs.blk_at 3 rfl 0 rfl) (Zr (run_asB (c := false) (run_eql rfl rfl) (by rw [decide_eq_false_iff_not]; assumption)) rfl (Zj (St_iff rfl (St_skip (Zq (St_seq (Zs (Zf un41 inf25 rfl 6 rfl (Zl sc25 rfl (hs.blk_at 1 rfl 6 rfl) (Zr (run_len un25 rfl) rfl (Zr (run_eql rfl rfl) rfl (Zj (St_ifP rfl (fun h121 => ?_) (fun h121 => ?_)))))))))))))))))))))
      · refine Zs (Za rfl (Za rfl (Zj (St_ret (Jm_then_ret (Jm_then_ret (Jm_block_ret (Jm_then_ret (Jm_ret2 rfl rfl rfl ?_)))))))))
        replace hs := hs.E0.E0.E1.F5.F5.F5.F5.F4.F5
        replace hs := wshut19 hvs hvl hs
        exact ⟨_, rfl, _, none, tr, j, d, sn, rfl, hs.toMoNone, hci.mono (by omega), StepR.same _, by omega, fun q => by omega⟩
      have hes4 : x0.1.to.length ≤ 4 := (hlens.2 _ hx0n).2.1
      have hph : (tr.getD 0 T0.1).ph ≠ 1 := fun q => by have h9 := ((hci.ts.at_ 0 (by omega)).rd q).2; rw [← hx0t] at h9; rw [h9] at h121; exact h121 (by simp)
      have hsnt : Msound (aboutT 8 x0.1 x0.1.to) := by rw [hx0t]; exact hci.about hN (by omega) (.inr rfl) ((hci.ts.ends (note_eb hci.jo.1).1 0 (by omega)).2 hph)
      refine St_skip (Zq (St_seq ?_))
      replace hs := hs.F1.F4
      refine St_holdC 10 (Hold.of (Ls := [_, _]) hs) mixed (fun w122 q123 => ?_)
      replace hs := hs.quiet q123
      have hH := Hold.of (Ls := [_, _]) hs
      refine Yr (fun _ => hH) 0 rfl (by kernel_rfl) (fun x => run_move rfl) (Yr (fun _ => hH) 1 rfl (by kernel_rfl) (fun x => run_move rfl) (Yr (fun _ => hH) 2 rfl (by kernel_rfl) (fun x => run_nilCheck rfl) (Yr (fun _ => hH) 3 rfl (by kernel_rfl) (fun x => run_fd un31 inf29 rfl 10 rfl) (Yd hH 4 [10, 4] rfl (by kernel_rfl) (fun x hx => run_load sc29 rfl (hx.choose_spec.blk_at 0 rfl 10 rfl)) (Yd hH 5 [10, 5] rfl (by kernel_rfl) (fun x hx => run_load_agg agg41 inf41 rfl rfl (hx.choose_spec.blk_cells 1 rfl 0 9)) (AnC_only 6 (by kernel_rfl) rfl (Ls_literal [_] hs un29 inf41 rfl rfl rfl rfl rfl rfl (fun b124 w125 hs => ?_))))))))
      simp only [List.flatMap_cons, List.flatMap_nil, Value.cells, List.cons_append, List.nil_append] at hs
      replace hs := hs.F2.F2
      replace hH := Hold.of (Ls := [_, _]) hs
      refine Ls_nil (Jm_AnC (fun _ => hH) (AnC_only 7 (by kernel_rfl) rfl ?_))
      replace hs := hs.F8
      refine Ls_append hs un29 inf41 rfl (by decide) (by decide) rfl rfl (rd_block (hs.is_at 3 rfl).2 9 1 rfl) (by simp [Value.oneCell', mcells]) (by omega) rfl (fun A126 c127 w128 hs => ?_)
      replace hs := hs.E3
      rw [KM_snoc vs (aboutT 8 x0.1 x0.1.to) (⟨x0.2.tA, x0.1.to.length, x0.2.tc, none, 0, 0, none, 0, 0⟩ : MP) _ (by simp [mcells, aboutT])] at hs
      obtain ⟨v2, hv2⟩ : ∃ z, vs ++ [(aboutT 8 x0.1 x0.1.to, (⟨x0.2.tA, x0.1.to.length, x0.2.tc, none, 0, 0, none, 0, 0⟩ : MP))] = z := ⟨_, rfl⟩
      have hl2 : vs.length + 1 = v2.length := by rw [← hv2]; simp
      rw [hv2, hl2] at hs
      rw [hl2]
      have hmem : (aboutT 8 x0.1 x0.1.to, (⟨x0.2.tA, x0.1.to.length, x0.2.tc, none, 0, 0, none, 0, 0⟩ : MP)) ∈ v2 := by rw [← hv2]; simp
      replace hs := hs.F2.F2
      replace hH := Hold.of (Ls := [_, _]) hs
      refine Ls_nil (Jm_AnC (fun _ => hH) (Yr (fun _ => hH) 8 rfl (by kernel_rfl) (fun x => run_nilCheck rfl) (Yr (fun _ => hH) 9 rfl (by kernel_rfl) (fun x => run_fd un31 inf29 rfl 10 rfl) (AnC_only 10 (by kernel_rfl) rfl (Ls_store hs inf29 rfl rfl rfl rfl (fun w129 hs => ?_))))))
      try simp only [List.set_cons_zero, List.set_cons_succ] at hs
      refine Ls_nil (Jm_AnC_closed (by kernel_rfl) (AnC_done (by kernel_rfl) (Zq ?_)))
      replace hs := hs.F1.F1
      refine St_hold (Hold.of (Ls := [_, _]) hs) mixed (fun w130 q131 => ?_)
      replace hs := hs.quiet q131
      have hH := Hold.of (Ls := [_, _]) hs
      refine Ym hH 0 rfl (by kernel_rfl) rfl (Ya hH 1 rfl (by kernel_rfl) (fun x hx => run_nilCheck rfl) (Ya hH 2 rfl (by kernel_rfl) (fun x hx => run_fd un31 inf28 rfl 9 rfl) (Ya hH 3 rfl (by kernel_rfl) (fun x hx => run_load sc28 rfl (hx.choose_spec.blk_at 0 rfl 9 rfl)) (Ya hH 4 rfl (by kernel_rfl) (fun x hx => run_load_agg agg41 inf41 rfl rfl (hx.choose_spec.blk_cells 1 rfl 0 9)) (An_only 5 (by kernel_rfl) rfl ?_)))))
      replace hs := hs.F8.F4
      replace hs := hs.keep2 (H := SK v2) (fun w h1 h2 => hv2 ▸ h2.add (msg_of (t := x0.1) (k := 8) (h1.2 _ hx0m).2))
      replace hs := hs.F7.F7.F6
      have hms := hsnt
      refine Zc fn15 rfl (cTake_c B w130 _ bc bd bj (re p Ao co) ops tr false j d hs hci.jo hci.rows (aboutT 8 x0.1 x0.1.to) (⟨x0.2.tA, x0.1.to.length, x0.2.tc, none, 0, 0, none, 0, 0⟩ : MP) (fun w' X z => (z.kept 1 rfl) _ hmem) rfl (by refine ⟨?_, ?_, ?_⟩ <;> simp only <;> omega) (by omega) (fun t ht => by have := hlens.2 t ht; omega) (fun t ht => by have := hlens.2 t ht; exact ⟨by omega, this.2.2.1⟩)) rfl ?_
      rintro v132 w133 ⟨vt, rfl, hs⟩
      have hR := ((hci.re Ao co).takeR hN hms rfl (.inr rfl)).er
      obtain ⟨⟨out, er, tr2, en, j2, d2⟩, ho⟩ : ∃ z, ctake (re p Ao co) tr false j d (aboutT 8 x0.1 x0.1.to) = z := ⟨_, rfl⟩
      rw [ho] at hs hR ⊢
      simp only at hs hR ⊢
      have hvs2 : ∀ x ∈ v2, MSent x := hv2 ▸ MSent.add hvs ⟨⟨rfl, hes4, rfl, rfl⟩, hms, rfl, .inr rfl⟩
      replace hs := hs.F6.F6
      replace hH := Hold.of (Ls := [_, _]) hs
      refine Ls_nil (Jm_An hH (Ym hH 6 rfl (by kernel_rfl) rfl (Ya hH 7 rfl (by kernel_rfl) (fun x hx => run_extract rfl rfl) (Ya hH 8 rfl (by kernel_rfl) (fun x hx => run_extract rfl rfl) (Ya hH 9 rfl (by kernel_rfl) (fun x hx => run_assign rfl) (Ya hH 10 rfl (by kernel_rfl) (fun x hx => run_assign rfl) (An_done (by kernel_rfl) ?_)))))))
      replace hvl : v2.length ≤ sn + 1 := by omega
      clear hvs
      have hvs := hvs2
      replace hs := hs.F6.F7.F7.F7.F7.F5
      replace hs := wshut19 hvs hvl hs
      replace hs := hs.E1.E2.F1
      refine Jm_join (vt, out, er, en, tr2, j2, d2, sn + 1) ?_ ?_
      · rw [hEn5]; exact sE ⟨rfl, rfl, rfl, trivial⟩
      rw [hIv6]
      exact ⟨hs, hR, by omega, fun q => by omega⟩
    refine Zs (Zr (run_eql rfl rfl) rfl (Za rfl (Zj (St_ifP rfl (fun h134 => ?_) (fun h134 => ?_)))))
    · refine Zs (Zm rfl (Zk rfl (Zf un31 inf29 rfl 10 rfl (Zl sc29 rfl (hs.blk_at 3 rfl 10 rfl) (Zr (run_len un29 rfl) rfl (Zr (run_gtr rfl rfl) rfl (Zj (St_ifP rfl (fun h135 => ?_) (fun h135 => ?_)))))))))
      · replace hs := hs.F6.F3.F4
        refine St_hold (Hold.of (Ls := [_, _, _]) hs) mixed (fun w136 q137 => ?_)
        replace hs := hs.quiet q137
        have hH := Hold.of (Ls := [_, _, _]) hs
        refine Ym hH 0 rfl (by kernel_rfl) rfl (Ya hH 1 rfl (by kernel_rfl) (fun x hx => run_nilCheck rfl) (Ya hH 2 rfl (by kernel_rfl) (fun x hx => run_fd un31 inf28 rfl 9 rfl) (Ya hH 3 rfl (by kernel_rfl) (fun x hx => run_load sc28 rfl (hx.choose_spec.blk_at 0 rfl 9 rfl)) (Ym hH 4 rfl (by kernel_rfl) rfl (Ya hH 5 rfl (by kernel_rfl) (fun x hx => run_nilCheck rfl) (Ya hH 6 rfl (by kernel_rfl) (fun x hx => run_fd un31 inf29 rfl 10 rfl) (Ya hH 7 rfl (by kernel_rfl) (fun x hx => run_load sc29 rfl (hx.choose_spec.blk_at 0 rfl 10 rfl)) (Ya hH 8 rfl (by kernel_rfl) (fun x hx => run_fd un60 inf3 rfl 1 rfl) (Ya hH 9 rfl (by kernel_rfl) (fun x hx => run_load sc3 rfl (hx.choose_spec.blk_at 1 rfl 1 rfl)) ?_)))))))))
        obtain ⟨u, hu, hub⟩ := u64_nat' K
        have hul : u % vs.length < vs.length := Nat.mod_lt _ (by omega)
        refine Ya hH 10 rfl (by kernel_rfl) (fun x hx => run_conv_int un67 us3 rfl hu) (Ym hH 11 rfl (by kernel_rfl) rfl (Ya hH 12 rfl (by kernel_rfl) (fun x hx => run_nilCheck rfl) (Ya hH 13 rfl (by kernel_rfl) (fun x hx => run_fd un31 inf29 rfl 10 rfl) (Ya hH 14 rfl (by kernel_rfl) (fun x hx => run_load sc29 rfl (hx.choose_spec.blk_at 0 rfl 10 rfl)) (Ya hH 15 rfl (by kernel_rfl) (fun x hx => run_len un29 rfl) (Ya hH 16 rfl (by kernel_rfl) (fun x hx => run_conv_int un67 us3 rfl (wu64 (by omega))) (Ya hH 17 rfl (by kernel_rfl) (fun x hx => run_rem rfl rfl (by omega) (rem_nn' u vs.length)) (Ya hH 18 rfl (by kernel_rfl) (fun x hx => run_conv_int un3 us67 rfl (w64 (by omega))) ?_))))))))
        obtain ⟨⟨m4, q4⟩, hx4⟩ : ∃ z, vs.getD (u % vs.length) (MC0, MP0) = z := ⟨_, rfl⟩
        have hx4m : (m4, q4) ∈ vs := by rw [← hx4]; exact getD_mem3 hul
        refine An_index 19  (KM) rfl (by kernel_rfl) (by kernel_rfl) (by kernel_rfl) (fun _ _ _ _ h => h) hH (fun x hx => (hx.choose_spec.rd_at 2 rfl)) un29 inf41 rfl rfl (by omega) (by omega) (show vs.getD ((u % vs.length : Nat) : Int).toNat (MC0, MP0) = (m4, q4) from hx4) rfl (fun b138 o139 hc140 => (Ya hH 20 rfl (by kernel_rfl) (fun x hx => run_as (run_load_agg agg41 inf41 rfl rfl (hc140 x hx)) (show _ = Value.agg #[.int .i64 m4.k, .int .i64 m4.f, .int .i64 m4.t, .int .i64 m4.b, .int .i64 m4.a, .int .i64 m4.c, .slice q4.eA q4.en q4.ec, .slice q4.kA q4.kn q4.kc, .slice q4.pA q4.pn q4.pc] from rfl)) (An_only 21 (by kernel_rfl) rfl ?_)))
        replace hs := hs.F6.F6.F6
        have hms := hvs _ hx4m
        refine Zc fn15 rfl (cTake_c B w136 _ bc bd bj (re p Ao co) ops tr false j d hs hci.jo hci.rows m4 q4 (fun w' X z => (z.kept 5 rfl) _ hx4m) hms.q.1.symm (by have := hms.q; simp only at this; omega) (by omega) (fun t ht => by have := hlens.2 t ht; omega) (fun t ht => by have := hlens.2 t ht; exact ⟨by omega, this.2.2.1⟩)) rfl ?_
        rintro v141 w142 ⟨vt, rfl, hs⟩
        have hR := ((hci.re Ao co).takeR hN hms.s hms.t hms.k).er
        obtain ⟨⟨out, er, tr2, en, j2, d2⟩, ho⟩ : ∃ z, ctake (re p Ao co) tr false j d m4 = z := ⟨_, rfl⟩
        rw [ho] at hs hR ⊢
        simp only at hs hR ⊢
        replace hs := hs.F6.F6.F6
        replace hH := Hold.of (Ls := [_, _, _]) hs
        refine Ls_nil (Jm_An hH (Ym hH 22 rfl (by kernel_rfl) rfl (Ya hH 23 rfl (by kernel_rfl) (fun x hx => run_extract rfl rfl) (Ya hH 24 rfl (by kernel_rfl) (fun x hx => run_extract rfl rfl) (Ya hH 25 rfl (by kernel_rfl) (fun x hx => run_assign rfl) (Ya hH 26 rfl (by kernel_rfl) (fun x hx => run_assign rfl) (An_done (by kernel_rfl) ?_)))))))
        replace hs := hs.F8.F3.F7.F7.F7.F5
        replace hs := wshut19 hvs hvl hs
        replace hs := hs.E1.E2.F1
        refine Jm_join (vt, out, er, en, tr2, j2, d2, sn) ?_ ?_
        · rw [hEn5]; exact sE ⟨rfl, rfl, rfl, trivial⟩
        rw [hIv6]
        exact ⟨hs, hR, by omega, fun q => by omega⟩
      refine St_skip ?_
      replace hs := hs.F7.F7.F7.F7.F5.F7
      replace hs := wshut19 hvs hvl hs
      replace hs := hs.toMoNone (TM := 41) (TI := 3)
      replace hs := hs.E2.E2
      refine Jm_join (.slice none 0 0, none, 0, false, tr, j, d, sn) ?_ ?_
      · rw [hEn5]; exact sE ⟨rfl, rfl, rfl, trivial⟩
      rw [hIv6]
      exact ⟨hs, (.inl ⟨rfl, rfl, hci.mono (by omega), StepR.same _⟩), by omega, fun q => by omega⟩
    refine Zs (Zr (run_eql rfl rfl) rfl (Za rfl (Zj (St_ifP rfl (fun h143 => ?_) (fun h143 => ?_)))))
    · refine St_region (Zm rfl (Zk rfl (Zf un31 inf27 rfl 8 rfl (Zl sc27 rfl (hs.blk_at 3 rfl 8 rfl) ?_))))
      replace hs := hs.F5
      obtain ⟨vs0, A0, c0, hv0, hs⟩ := hs.dopen
      refine Zc fn42 rfl (Cut_c B w4 _ bd d A0 c0 hs 0) rfl ?_
      rintro v144 w145 ⟨rfl, hs⟩
      replace hs := Sat.dshut (s := dcut d 0) hv0 hs
      refine Ls_nil ?_
      replace hs := hs.F7.F7.F2.F7.F5.F7
      replace hs := wshut19 hvs hvl hs
      replace hs := hs.toMoNone (TM := 41) (TI := 3)
      replace hs := hs.E2.E2
      refine Jm_join (.slice none 0 0, none, 0, false, tr, j, (dcut d 0), sn) ?_ ?_
      · rw [hEn5]; exact sE ⟨rfl, rfl, rfl, trivial⟩
      rw [hIv6]
      exact ⟨hs, (.inl ⟨rfl, rfl, hci.cut0, StepR.same _⟩), by omega, fun q => by omega⟩
    refine Zs (Zr (run_eql rfl rfl) rfl (Za rfl (Zj (St_ifP rfl (fun h146 => ?_) (fun h146 => ?_)))))
    · refine Zs (Zm rfl (Zk rfl (Zf un31 inf27 rfl 8 rfl (Zl sc27 rfl (hs.blk_at 3 rfl 8 rfl) ?_))))
      replace hs := hs.F5
      obtain ⟨vs0, A0, c0, hv0, hs⟩ := hs.dopen
      refine Zc fn20 rfl (On_c B w4 _ bd d A0 c0 hs) rfl ?_
      rintro v147 w148 ⟨rfl, hs⟩
      replace hs := Sat.dshut (s := don d) hv0 hs
      obtain ⟨hop, hrows, hbl1, hciO⟩ := hci.back (d2 := don d) rfl rfl rfl
      refine Zj ?_
      replace hs := hs.F4
      refine St_holdC 15 (Hold.of (Ls := [_]) hs) mixed (fun w149 q150 => ?_)
      replace hs := hs.quiet q150
      have hH := Hold.of (Ls := [_]) hs
      refine Yr (fun _ => hH) 0 rfl (by kernel_rfl) (fun x => run_move rfl) (Yr (fun _ => hH) 1 rfl (by kernel_rfl) (fun x => run_move rfl) (Yr (fun _ => hH) 2 rfl (by kernel_rfl) (fun x => run_nilCheck rfl) (Yr (fun _ => hH) 3 rfl (by kernel_rfl) (fun x => run_fd un31 inf24 rfl 0 rfl) (Yd hH 4 [15, 4] rfl (by kernel_rfl) (fun x hx => run_load_agg agg24 inf24 rfl rfl (hx.choose_spec.blk_cells 0 rfl 0 8)) (Yr (fun _ => hH) 5 rfl (by kernel_rfl) (fun x => run_move rfl) (Yr (fun _ => hH) 6 rfl (by kernel_rfl) (fun x => run_nilCheck rfl) (Yr (fun _ => hH) 7 rfl (by kernel_rfl) (fun x => run_fd un31 inf27 rfl 8 rfl) (Yd hH 8 [15, 8] rfl (by kernel_rfl) (fun x hx => run_load sc27 rfl (hx.choose_spec.blk_at 0 rfl 8 rfl)) (AnC_only 9 (by kernel_rfl) rfl ?_)))))))))
      replace hs := hs.E3.E4.F1
      refine Zc fn21 rfl (cOpen_c B w149 _ bd p ops (don d) (dread_k (don d) 2) j hs hr hn hci.ck hrows hbl1 hop) rfl ?_
      rintro v151 w152 ⟨bc2, bj2, Ao2, co2, rfl, hs⟩
      replace hs := hs.F3
      replace hH := Hold.of (Ls := [_]) hs
      refine Ls_nil (Jm_AnC (fun _ => hH) (Yr (fun _ => hH) 10 rfl (by kernel_rfl) (fun x => run_move rfl) (Yr (fun _ => hH) 11 rfl (by kernel_rfl) (fun x => run_extract rfl rfl) (Yr (fun _ => hH) 12 rfl (by kernel_rfl) (fun x => run_extract rfl rfl) (Yr (fun _ => hH) 13 rfl (by kernel_rfl) (fun x => run_nilCheck rfl) (Yr (fun _ => hH) 14 rfl (by kernel_rfl) (fun x => run_fd un31 inf28 rfl 9 rfl) (AnC_only 15 (by kernel_rfl) rfl (Ls_store hs inf28 rfl rfl rfl rfl (fun w153 hs => ?_)))))))))
      try simp only [List.set_cons_zero, List.set_cons_succ] at hs
      refine Ls_nil (Jm_AnC_closed (by kernel_rfl) (AnC_switch (H' := fun _ => True) 17 (by kernel_rfl) ?_))
      replace hH := trivial
      refine Yr (fun _ => hH) 16 rfl (by kernel_rfl) (fun x => run_assign rfl) (AnC_done (by kernel_rfl) ?_)
      replace hs := hs.F7.F7.F5.F5.F5.F5
      replace hs := wshut19 hvs hvl hs
      replace hs := hs.toMoNone (TM := 41) (TI := 3)
      replace hs := hs.E2.E2
      refine Jm_join (.slice none 0 0, none, 0, false, [], j, (dread_k (don d) 2), sn) ?_ ?_
      · rw [hEn5]; exact sE ⟨rfl, rfl, rfl, trivial⟩
      rw [hIv6]
      exact ⟨hs, (.inl ⟨rfl, rfl, hciO, StepR.same _⟩), by omega, fun q => by omega⟩
    refine St_skip ?_
    replace hs := hs.F7.F7.F7.F7.F5.F7
    replace hs := wshut19 hvs hvl hs
    replace hs := hs.toMoNone (TM := 41) (TI := 3)
    replace hs := hs.E2.E2
    refine Jm_join (.slice none 0 0, none, 0, false, tr, j, d, sn) ?_ ?_
    · rw [hEn5]; exact sE ⟨rfl, rfl, rfl, trivial⟩
    rw [hIv6]
    exact ⟨hs, (.inl ⟨rfl, rfl, hci.mono (by omega), StepR.same _⟩), by omega, fun q => by omega⟩
  rintro ⟨v, out, er, en, tr2, j2, d2, n2⟩ w7 hI154
  rw [hIv6] at hI154
  obtain ⟨hs, hR, hn2, hk1⟩ := hI154
  refine Jm_eqE (hEn5 _ _ _ _ _ _ _ _) (Jm_block_normal (Zq (St_seq (Zs (Zm rfl (Zr (run_eql rfl rfl) rfl (Zj (St_ifP rfl (fun h155 => ?_) (fun h155 => ?_)))))))))
  · have hR2 := hR.resolve_left (fun q => by have := q.1; omega)
    obtain ⟨rfl, rfl, rfl, rfl, rfl⟩ := hR2
    clear hR
    obtain ⟨hvn, h9⟩ := hs.moNone
    subst hvn
    replace hs := h9
    obtain ⟨bd, bc, bj, Ao, co, sA, sc, vs, hvs, hvl, hs⟩ := wopen19 hs
    unfold wcells at hs
    refine St_seq (Zs (Zm rfl (Zk rfl (Zf un31 inf27 rfl 8 rfl (Zl sc27 rfl (hs.blk_at 0 rfl 8 rfl) ?_)))))
    replace hs := hs.F3
    obtain ⟨A0, c0, hd0⟩ := hs.dhd
    refine Zc fn43 rfl (Down_c w7 bd (doff d) A0 c0 hd0) rfl ?_
    rintro v156 w157 ⟨rfl, rfl⟩
    refine Zr (run_not rfl) rfl (Zm rfl (Zo rfl (Zm rfl (Zo rfl (Zk rfl (Zo rfl (Zf un31 inf28 rfl 9 rfl (Zo rfl (Zl sc28 rfl (hs.blk_at 1 rfl 9 rfl) (Zo rfl ?_))))))))))
    replace hs := hs.F2
    refine Zc fn29 rfl (cEnded_c B w7 _ bc bd bj (re p Ao co) ops tr2 true hs) rfl ?_
    rintro v158 w159 ⟨rfl, rfl⟩
    refine Zo rfl (Zr (run_not rfl) rfl (Zr (run_pick_f rfl rfl) rfl (Zm rfl (Zo rfl (Zm rfl (Zo rfl (Zr (run_len un29 rfl) rfl (Zo rfl (Zr (run_asB (c := false) (run_neq rfl rfl) (by decide)) rfl (Zr (run_pick_f rfl rfl) rfl (Zj (St_iff rfl (St_skip (Zq (Zs (Zm rfl (Zk rfl (Zf un31 inf27 rfl 8 rfl (Zl sc27 rfl (hs.blk_at 2 rfl 8 rfl) ?_)))))))))))))))))))
    replace hs := hs.F1
    obtain ⟨vs0, A0, c0, hv0, hs⟩ := hs.dopen
    refine Zc fn20 rfl (On_c B w7 _ bd (doff d) A0 c0 hs) rfl ?_
    rintro v161 w162 ⟨rfl, hs⟩
    replace hs := Sat.dshut (s := don (doff d)) hv0 hs
    obtain ⟨hop, hrows, hbl1, hciO⟩ := hci.back (d2 := don (doff d)) rfl rfl rfl
    refine Zj ?_
    replace hs := hs.F2
    refine St_holdC 15 (Hold.of (Ls := [_]) hs) mixed (fun w163 q164 => ?_)
    replace hs := hs.quiet q164
    have hH := Hold.of (Ls := [_]) hs
    refine Yr (fun _ => hH) 0 rfl (by kernel_rfl) (fun x => run_move rfl) (Yr (fun _ => hH) 1 rfl (by kernel_rfl) (fun x => run_move rfl) (Yr (fun _ => hH) 2 rfl (by kernel_rfl) (fun x => run_nilCheck rfl) (Yr (fun _ => hH) 3 rfl (by kernel_rfl) (fun x => run_fd un31 inf24 rfl 0 rfl) (Yd hH 4 [15, 4] rfl (by kernel_rfl) (fun x hx => run_load_agg agg24 inf24 rfl rfl (hx.choose_spec.blk_cells 0 rfl 0 8)) (Yr (fun _ => hH) 5 rfl (by kernel_rfl) (fun x => run_move rfl) (Yr (fun _ => hH) 6 rfl (by kernel_rfl) (fun x => run_nilCheck rfl) (Yr (fun _ => hH) 7 rfl (by kernel_rfl) (fun x => run_fd un31 inf27 rfl 8 rfl) (Yd hH 8 [15, 8] rfl (by kernel_rfl) (fun x hx => run_load sc27 rfl (hx.choose_spec.blk_at 0 rfl 8 rfl)) (AnC_only 9 (by kernel_rfl) rfl ?_)))))))))
    replace hs := hs.E2.E2.F1
    refine Zc fn21 rfl (cOpen_c B w163 _ bd p ops (don (doff d)) (dread_k (don (doff d)) 2) j hs hr hn hci.ck hrows hbl1 hop) rfl ?_
    rintro v165 w166 ⟨bc2, bj2, Ao2, co2, rfl, hs⟩
    replace hs := hs.F3
    replace hH := Hold.of (Ls := [_]) hs
    refine Ls_nil (Jm_AnC (fun _ => hH) (Yr (fun _ => hH) 10 rfl (by kernel_rfl) (fun x => run_move rfl) (Yr (fun _ => hH) 11 rfl (by kernel_rfl) (fun x => run_extract rfl rfl) (Yr (fun _ => hH) 12 rfl (by kernel_rfl) (fun x => run_extract rfl rfl) (Yr (fun _ => hH) 13 rfl (by kernel_rfl) (fun x => run_nilCheck rfl) (Yr (fun _ => hH) 14 rfl (by kernel_rfl) (fun x => run_fd un31 inf28 rfl 9 rfl) (AnC_only 15 (by kernel_rfl) rfl (Ls_store hs inf28 rfl rfl rfl rfl (fun w167 hs => ?_)))))))))
    try simp only [List.set_cons_zero, List.set_cons_succ] at hs
    refine Ls_nil (Jm_AnC_closed (by kernel_rfl) (AnC_switch (H' := fun _ => True) 17 (by kernel_rfl) ?_))
    replace hH := trivial
    refine Yr (fun _ => hH) 16 rfl (by kernel_rfl) (fun x => run_assign rfl) (AnC_done (by kernel_rfl) (Zq (Zs (Zm rfl (Zm rfl (Zr (run_asB (c := true) (run_eql rfl rfl) (by decide)) rfl (Za rfl (Za rfl (Zj (St_ret (Jm_ret2 rfl rfl rfl ?_)))))))))))
    replace hs := hs.F5.F5.F5.F5.F5.F5
    replace hs := wshut19 hvs hvl hs
    exact ⟨_, rfl, _, none, [], j, _, n2, rfl, hs.toMoNone, hciO, StepR.same _, hn2, fun q ha => absurd (hci.tick_er hN ha) (by rw [hk1 q]; show ¬ (80 : Int) = 0; decide)⟩
  refine St_skip (Zq (Zs (Zm rfl (Zm rfl (Zr (run_eql rfl rfl) rfl (Za rfl (Za rfl (Zj (St_ret (Jm_ret2 rfl rfl rfl ?_))))))))))
  rcases hR with ⟨rfl, rfl, hc, hst⟩ | ⟨rfl, _⟩
  · exact ⟨_, rfl, v, out, tr2, j2, d2, n2, rfl, hs, hc, hst, hn2, fun q _ => hk1 q⟩
  · exact absurd rfl (by assumption)
end Go.Proofs.Ytcifdianinbkeaa.Lg
set_option linter.unusedVariables false
set_option linter.unusedSimpArgs false
namespace Go.Proofs.Ytcifdianinbkeaa.Lg
open Go Go.RowKit Go.Proofs.Ytcifdianinbkeaa.WirePure Go.Proofs.Ytcifdianinbkeaa.PlanPure
theorem tk_one {A : Option Addr} {c m : Nat} {t : TSt} {q : TP} (hf : t.fr = List.replicate m 0) {w : World} (h : TK A c [(t, q)] w) : Rd w q.fA m q.fc 1 (KI.flat (List.replicate m 0)) := by
  have h9 := (h.2 _ (List.mem_singleton.2 rfl)).1
  simp only [hf, List.length_replicate] at h9
  exact h9
set_option maxRecDepth 100000 in
set_option maxHeartbeats 4000000 in
theorem CoordIdle_ok (w : World) (p : PlanA) (ops : OpL) (hr : Rd w p.oA p.on p.oc 3 (KOp.flat ops)) (hn : p.on ≤ 67108864) (hck : chk p ops = 0) (by1 nd1 : Int) :
    Calls Try.prog 6 [.agg #[.int .i64 p.pa, .int .i64 p.st, .int .i64 p.wo, .slice p.oA p.on p.oc, .int .i64 p.ag, .int .i64 p.ba, .int .i64 p.wi, .int .i64 p.gu], .int .i64 by1, .int .i64 nd1].toArray w (Ret (fun v' w' => v' = .bool true ∧ Below w.heap.size w w')) := by
  have hs := Sat.start w
  have hk2 := chk_ok hck
  unfold numsOk at hk2
  refine Zb Try.func6 rfl rfl rfl (Zs (Ls_box hs rfl rfl (fun b2 w1 hs => (Za rfl (Zj (St_seq (Zs (Zc fn8 rfl (awake19_c w1) rfl ?_))))))))
  rintro v3 w4 ⟨rfl, hsA5⟩
  replace hs := hs.T hsA5
  refine Zr (run_not rfl) rfl (Zj (St_iff rfl (St_skip (Zq (Zs (Zr (run_load_agg agg24 inf24 rfl rfl (hs.blk_cells 0 rfl 0 8)) rfl (Zc fn9 rfl (laid19_c w4 p ops (hr.inB hs) hn hck) rfl ?_)))))))
  rintro v7 w9 ⟨bd, bc, bj, Ao, co, m, d, hm, rfl, hsF, hg, hdj⟩
  replace hs := hs.T hsF
  have hCI : CI 0 p ops [] (jnew m) d := CI.new hck hm hg hdj
  have hnt0 := hCI.note
  refine Zm rfl (Zr (run_extract rfl rfl) rfl (Zr (run_extract rfl rfl) rfl (Ls_alloc hs inf31 rfl (fun b11 w10 hs => (Ls_storeAgg hs inf31 rfl rfl rfl rfl (by simp [Value.oneCell', Value.cells, mcells, tcells]) (fun w12 hs => ?_))))))
  replace hs := hs.F3.F3.F3.F3
  replace hs := wnew19 (p := p) (Ao := Ao) (co := co) hs
  refine Za rfl (Zj (St_seq (Zs (Zm rfl (Zr (run_not rfl) rfl (Zj (St_iff rfl (St_skip (Zq (Zs (Zr (run_buildO (pv := [(0, _)]) rfl (bld60_0 _)) rfl ?_)))))))))))
  obtain ⟨d1, ht1, hC1, ha1⟩ := first_tick hCI hg.2.1
  refine Zc fn18 rfl (act_c w w12 _ b11 p ops [] (jnew m) d 0 0 hs hr hn hCI (by decide) (by decide) 1 0 none 0 0 [] (Rd.none _ 1) (by decide)) rfl ?_
  rintro v14 w15 ⟨va, out, tr2, j2, d2, n2, rfl, hs, hc2, hst, hn2, hkk⟩
  have hk9 := hkk rfl hg.2.1
  rw [ht1] at hk9
  simp only [Prod.mk.injEq] at hk9
  obtain ⟨_, _, hk91, _, hk92, hk93⟩ := hk9
  subst hk91 hk92 hk93
  clear hkk hst hc2
  refine Zt ?_
  replace hs := hs.E0
  obtain ⟨bd, bc, bj, Ao, co, sA, sc, vs, hvs, hvl, hs⟩ := wopen19 hs
  unfold wcells at hs
  have hmz : m ≤ 4 := by omega
  have hm0 : 0 < m := by omega
  refine Zf un31 inf28 rfl 9 rfl (Zl sc28 rfl (hs.blk_at 0 rfl 9 rfl) ?_)
  replace hs := hs.F1
  refine Zc fn12 rfl (cTries_c w w15 _ bc bd bj (re p Ao co) ops [(T1 p ops m)] false hs (by simp) (fun t ht => by have := hC1.lens.2 t (by exact ht); omega)) rfl ?_
  rintro v16 w17 ⟨vo, o1A, o1c, hvo, rfl, hs⟩
  replace hs := hs.triesK hvo
  obtain ⟨q1, hq1⟩ := one_row hvo
  subst hq1
  refine Za rfl (Zj (St_seq (Zs (Zm rfl (Zr (run_len un44 rfl) rfl (Zr (run_asB (c := false) (run_neq rfl rfl) (by simp)) rfl (Zj (St_iff rfl (St_skip (Zq (Zs (Zm rfl (Ls_index (KT) ((hs.kept 0 rfl).1) un44 inf43 rfl rfl (by decide) (by simp) (show _ = ((T1 p ops m), q1) from rfl) rfl (fun b19 o20 hc21 => (Zr (run_as (run_load_agg agg43 inf43 rfl rfl hc21) (show _ = Value.agg #[.int .i64 (T1 p ops m, q1).1.b, .int .i64 (T1 p ops m, q1).1.a, .int .i64 (T1 p ops m, q1).1.nd, .int .i64 (T1 p ops m, q1).1.ph, .int .i64 (T1 p ops m, q1).1.ti, .slice (T1 p ops m, q1).2.fA (T1 p ops m, q1).1.fr.length (T1 p ops m, q1).2.fc, .slice (T1 p ops m, q1).2.tA (T1 p ops m, q1).1.to.length (T1 p ops m, q1).2.tc] from rfl)) rfl (Ls_alloc hs inf43 rfl (fun b23 w22 hs => (Ls_storeAgg hs inf43 rfl rfl rfl rfl (by simp [Value.oneCell', Value.cells, mcells, tcells]) (fun w24 hs => (Zt (Ls_literal [] hs un25 inf3 rfl rfl rfl rfl rfl rfl (fun b25 w26 hs => ?_))))))))))))))))))))))
  simp only [List.flatMap_cons, List.flatMap_nil, Value.cells, List.cons_append, List.nil_append] at hs
  replace hs := Sat.own_block hs 1 0 rfl (by decide)
  refine Zf un43 inf25 rfl 5 rfl (Zr (run_as (run_load sc25 rfl (hs.blk_at 1 rfl 5 rfl)) (show _ = Value.slice q1.fA m q1.fc by show Value.slice q1.fA (List.replicate m (0 : Int)).length q1.fc = _; rw [List.length_replicate])) rfl (Ls_append hs un25 inf3 rfl (by decide) (by decide) rfl rfl ((tk_one rfl (hs.kept 2 rfl))) (flatKI_one _) (by omega) rfl (fun A27 c28 w29 hs => ?_)))
  simp only [Nat.zero_add, List.nil_append] at hs ⊢
  obtain ⟨fA, hfA⟩ : ∃ z, A27 = z := ⟨_, rfl⟩
  obtain ⟨fc, hfc⟩ : ∃ z, c28 = z := ⟨_, rfl⟩
  rw [hfA, hfc] at hs ⊢
  refine Za rfl (Zt (Zm rfl (Zf un24 inf3 rfl 5 rfl (Zl sc3 rfl (hs.blk_at 9 rfl 5 rfl) (Zr (run_add rfl rfl (w64 (by omega))) rfl ?_)))))
  obtain ⟨g0, hg0⟩ := (hs.front 0 rfl).own_addr (by omega)
  refine Zr (run_as (run_index un25 inf3 rfl rfl hg0 (by decide) (by omega)) (show _ = Value.pointer (some ⟨g0, 0, none⟩) from rfl)) rfl ?_
  rw [hg0] at hs
  refine Ls_storeOwn hs inf3 rfl rfl rfl (by omega) (fun w30 hs => ?_)
  rw [← hg0] at hs
  obtain ⟨es1, hes1⟩ : ∃ z, (List.replicate m (0 : Int)).set 0 (p.ba + 1) = z := ⟨_, rfl⟩
  rw [flatKI_put0, hes1] at hs
  have hel1 : es1.length = m := by rw [← hes1]; simp
  have heb1 : EB p.pa es1 := hes1 ▸ eb_put hm (by omega)
  have hfar1 : far p.ba (List.replicate m 0) es1 := hes1 ▸ far_put hm0 (by omega)
  refine Zj (St_seq ?_)
  replace hs := hs.F1.F4
  refine St_hold (Hold.of (Ls := [_, _]) hs) mixed (fun w31 q32 => ?_)
  replace hs := hs.quiet q32
  have hH := Hold.of (Ls := [_, _]) hs
  refine Ya hH 0 rfl (by kernel_rfl) (fun x hx => run_fd un31 inf28 rfl 9 rfl) (Ya hH 1 rfl (by kernel_rfl) (fun x hx => run_load sc28 rfl (hx.choose_spec.blk_at 0 rfl 9 rfl)) (Ya hH 2 rfl (by kernel_rfl) (fun x hx => run_load_agg agg43 inf43 rfl rfl (hx.choose_spec.blk_cells 1 rfl 0 7)) (Ym hH 3 rfl (by kernel_rfl) rfl (An_only 4 (by kernel_rfl) rfl (Zc fn16 rfl (labout_c w31 2 ((T1 p ops m), q1) _ _ _) rfl ?_)))))
  rintro v33 w34 ⟨rfl, hsF⟩
  replace hs := hs.T hsF
  replace hs := hs.F1.F1
  replace hH := Hold.of (Ls := [_, _]) hs
  refine Ls_nil (Jm_An hH (An_only 5 (by kernel_rfl) rfl ?_))
  replace hs := hs.F6.F6.F6
  have hE := idle_far hC1 heb1 hfar1
  refine Zc fn15 rfl (cTake_c w w34 _ bc bd bj (re p Ao co) ops [(T1 p ops m)] false (j1 m) d1 hs hC1.jo hC1.rows (aboutT 2 (T1 p ops m) es1) ⟨fA, m, fc, none, 0, 0, none, 0, 0⟩ (fun w' X z => ⟨z.rd_at 3 rfl, Rd.none w' 1, Rd.none w' 3⟩) hel1 (by refine ⟨?_, ?_, ?_⟩ <;> simp only <;> omega) (by simp) (fun t ht => by have := hC1.lens.2 t ht; omega) (fun t ht => by have := hC1.lens.2 t ht; exact ⟨by omega, this.2.2.1⟩)) rfl ?_
  rintro v35 w36 ⟨vb, rfl, hs⟩
  rw [ctake_re, hE] at hs ⊢
  simp only at hs ⊢
  obtain ⟨hvb, h9⟩ := hs.moNone
  subst hvb
  replace hs := h9
  replace hs := hs.F4.F4
  replace hH := Hold.of (Ls := [_, _]) hs
  refine Ls_nil (Jm_An hH (Ym hH 6 rfl (by kernel_rfl) rfl (Ya hH 7 rfl (by kernel_rfl) (fun x hx => run_extract rfl rfl) (Ya hH 8 rfl (by kernel_rfl) (fun x hx => run_extract rfl rfl) (Ya hH 9 rfl (by kernel_rfl) (fun x hx => run_assign rfl) (Ya hH 10 rfl (by kernel_rfl) (fun x hx => run_assign rfl) (An_done (by kernel_rfl) (Zq (St_seq (Zs (Zm rfl (Zr (run_asB (c := false) (run_neq rfl rfl) (by decide)) rfl (Zm rfl (Zo rfl (Zm rfl (Zo rfl (Zr (run_len un29 rfl) rfl (Zo rfl (Zr (run_asB (c := false) (run_neq rfl rfl) (by decide)) rfl (Zr (run_pick_f rfl rfl) rfl (Zm rfl (Zo rfl (Zf un31 inf28 rfl 9 rfl (Zo rfl (Zl sc28 rfl (hs.blk_at 0 rfl 9 rfl) (Zo rfl ?_))))))))))))))))))))))))))
  replace hs := hs.F2
  refine Zc fn12 rfl (cTries_c w w36 _ bc bd bj (re p Ao co) ops [(T1 p ops m)] false hs (by simp) (fun t ht => by have := hC1.lens.2 t (by exact ht); omega)) rfl ?_
  rintro v37 w38 ⟨vo, o2A, o2c, hvo, rfl, hs⟩
  replace hs := hs.triesK hvo
  obtain ⟨q2, hq2⟩ := one_row hvo
  subst hq2
  refine Zo rfl (Zm rfl (Zo rfl (Zc fn22 rfl (tries_c w38 _ _ _ [((T1 p ops m), q2)] _ _ _ [((T1 p ops m), q1)] (hs.kept 0 rfl).1 (hs.kept 7 rfl).1 rfl (hs.kept 0 rfl).2 (hs.kept 7 rfl).2 (by simp) (fun x hx => by rw [List.mem_singleton] at hx; subst hx; exact ⟨by show (List.replicate m (0 : Int)).length ≤ _; rw [List.length_replicate]; omega, by show ([] : List Int).length ≤ _; decide⟩)) rfl ?_)))
  rintro v39 w40 ⟨rfl, hsF⟩
  replace hs := hs.T hsF
  refine Zo rfl (Zr (run_not rfl) rfl (Zr (run_pick_f rfl rfl) rfl (Zj (St_iff rfl (St_skip (Zq (Zs (Ls_literal [] hs un25 inf3 rfl rfl rfl rfl rfl rfl (fun b42 w43 hs => ?_)))))))))
  simp only [List.flatMap_cons, List.flatMap_nil, Value.cells, List.cons_append, List.nil_append] at hs
  replace hs := Sat.own_block hs 1 0 rfl (by decide)
  refine Zf un43 inf25 rfl 5 rfl (Zr (run_as (run_load sc25 rfl (hs.blk_at 4 rfl 5 rfl)) (show _ = Value.slice q1.fA m q1.fc by show Value.slice q1.fA (List.replicate m (0 : Int)).length q1.fc = _; rw [List.length_replicate])) rfl (Ls_append hs un25 inf3 rfl (by decide) (by decide) rfl rfl ((tk_one rfl (hs.kept 8 rfl))) (flatKI_one _) (by omega) rfl (fun A44 c45 w46 hs => ?_)))
  simp only [Nat.zero_add, List.nil_append] at hs ⊢
  obtain ⟨bA, hbA⟩ : ∃ z, A44 = z := ⟨_, rfl⟩
  obtain ⟨bC, hbC⟩ : ∃ z, c45 = z := ⟨_, rfl⟩
  rw [hbA, hbC] at hs ⊢
  refine Za rfl (Zt (Zm rfl (Zm rfl ?_)))
  obtain ⟨u, hu, hub⟩ := u64_nat' by1
  obtain ⟨bn, hbn⟩ : ∃ z : Nat, p.ba = (z : Int) := ⟨p.ba.toNat, by omega⟩
  have hul : u % bn < bn := Nat.mod_lt _ (by omega)
  refine Zr (run_conv_int un67 us3 rfl hu) rfl (Zf un24 inf3 rfl 5 rfl (Zl sc3 rfl (hs.blk_at 11 rfl 5 rfl) (Zr (run_conv_int un67 us3 rfl (by rw [hbn]; exact wu64 (by omega))) rfl (Zr (run_rem rfl rfl (by omega) (rem_nn' u bn)) rfl (Zr (run_conv_int un3 us67 rfl (w64 (by omega))) rfl (Zr (run_add rfl rfl (w64 (by omega))) rfl ?_))))))
  obtain ⟨g1, hg1⟩ := (hs.front 0 rfl).own_addr (by omega)
  refine Zr (run_as (run_index un25 inf3 rfl rfl hg1 (by decide) (by omega)) (show _ = Value.pointer (some ⟨g1, 0, none⟩) from rfl)) rfl ?_
  rw [hg1] at hs
  refine Ls_storeOwn hs inf3 rfl rfl rfl (by omega) (fun w47 hs => ?_)
  rw [← hg1] at hs
  obtain ⟨es, hes⟩ : ∃ z, (List.replicate m (0 : Int)).set 0 (1 + ((u % bn : Nat) : Int)) = z := ⟨_, rfl⟩
  rw [flatKI_put0, hes] at hs
  have hel : es.length = m := by rw [← hes]; simp
  have heb : EB p.pa es := hes ▸ eb_put hm (by omega)
  have hon : Onw p.ba (List.replicate m 0) es := by
    rw [← hes]
    refine Onw.put ⟨rfl, fun q hq => by rw [rep_getD]; omega⟩ ?_ ?_ ?_ <;> (try rw [rep_getD]) <;> omega
  have hne : es ≠ List.replicate m 0 := fun z => by
    have z2 : es.getD 0 0 = 1 + ((u % bn : Nat) : Int) := by rw [← hes, set_getD_eq (by simp; omega)]
    rw [z, rep_getD] at z2
    omega
  refine Zt (Zr (run_load_agg agg43 inf43 rfl rfl (hs.blk_cells 4 rfl 0 7)) rfl (Zm rfl (Zc fn16 rfl (labout_c w47 2 ((T1 p ops m), q1) _ _ _) rfl ?_)))
  rintro v48 w49 ⟨rfl, hsF⟩
  replace hs := hs.T hsF
  refine Ls_alloc hs inf41 rfl (fun b51 w50 hs => (Ls_storeAgg hs inf41 rfl rfl rfl rfl (by simp [Value.oneCell', Value.cells, mcells, tcells]) (fun w52 hs => (Zt (Zm rfl ?_)))))
  obtain ⟨u2, hu2, hub2⟩ := u64_nat' nd1
  have hul2 : u2 % 9 < 9 := Nat.mod_lt _ (by decide)
  refine Zr (run_conv_int un67 us3 rfl hu2) rfl (Zr (run_rem rfl rfl (by decide) (rem_nn' u2 9)) rfl (Zr (run_conv_int un3 us67 rfl (w64 (by omega))) rfl (Zf un41 inf3 rfl 1 rfl (Ls_store hs inf3 rfl rfl rfl rfl (fun w53 hs => ?_)))))
  try simp only [List.set_cons_zero, List.set_cons_succ] at hs
  refine Zj (St_seq (Zs (Zf un41 inf3 rfl 1 rfl (Zl sc3 rfl (hs.blk_at 0 rfl 1 rfl) (Zf un43 inf3 rfl 2 rfl (Zr (run_as (run_load sc3 rfl (hs.blk_at 5 rfl 2 rfl)) (show _ = Value.int .i64 (workerOf p ops 1) from rfl)) rfl (Zr (run_neq rfl rfl) rfl (Zj ?_))))))))
  obtain ⟨En54, hEn54⟩ := ex1 fun (dum : Nat) => ([(1, .int .i64 by1), (3, .pointer (some ⟨b2, 0, none⟩)), (7, .pointer (some ⟨b11, 0, none⟩)), (9, .slice o1A [((T1 p ops m), q1)].length o1c), (10, .pointer (some ⟨b23, 0, none⟩)), (14, .slice bA m bC)] : Env)
  obtain ⟨Iv55, hIv55⟩ := ew1 fun (dum : Nat) (w56 : World) => Sat w w56 [Own 3 1 (.slice bA m bC) m (KI.flat es), Keep (TK o1A o1c [((T1 p ops m), q1)]), WA tns b11 p ops [(T1 p ops m)] false (j1 m) d1 n2, Blk b23 [.int .i64 (T1 p ops m, q1).1.b, .int .i64 (T1 p ops m, q1).1.a, .int .i64 (T1 p ops m, q1).1.nd, .int .i64 (T1 p ops m, q1).1.ph, .int .i64 (T1 p ops m, q1).1.ti, .slice (T1 p ops m, q1).2.fA (T1 p ops m, q1).1.fr.length (T1 p ops m, q1).2.fc, .slice (T1 p ops m, q1).2.tA (T1 p ops m, q1).1.to.length (T1 p ops m, q1).2.tc] 43, Blk b2 [.int .i64 p.pa, .int .i64 p.st, .int .i64 p.wo, .slice p.oA p.on p.oc, .int .i64 p.ag, .int .i64 p.ba, .int .i64 p.wi, .int .i64 p.gu] 24]
  refine St_join En54 Iv55 ?_ ?_
  · refine St_ifP rfl (fun h57 => ?_) (fun h57 => ?_)
    · refine Zs (Zf un31 inf28 rfl 9 rfl (Zl sc28 rfl (hs.blk_at 4 rfl 9 rfl) (Zr (run_load_agg agg41 inf41 rfl rfl (hs.blk_cells 0 rfl 0 9)) rfl ?_)))
      replace hs := hs.F7.F7.F5
      have hE := idle_node hC1 heb (f := ((u2 % 9 : Nat) : Int)) (by omega) (by assumption)
      refine Zc fn15 rfl (cTake_c w w53 _ bc bd bj (re p Ao co) ops [(T1 p ops m)] false (j1 m) d1 hs hC1.jo hC1.rows ⟨2, ((u2 % 9 : Nat) : Int), 0, 1, 1, 0, es, [], []⟩ ⟨bA, m, bC, none, 0, 0, none, 0, 0⟩ (fun w' X z => ⟨z.rd_at 2 rfl, Rd.none w' 1, Rd.none w' 3⟩) hel (by refine ⟨?_, ?_, ?_⟩ <;> simp only <;> omega) (by simp) (fun t ht => by have := hC1.lens.2 t ht; omega) (fun t ht => by have := hC1.lens.2 t ht; exact ⟨by omega, this.2.2.1⟩)) rfl ?_
      rintro v58 w59 ⟨vb, rfl, hs⟩
      rw [ctake_re, hE] at hs ⊢
      simp only at hs ⊢
      obtain ⟨hvb, h9⟩ := hs.moNone
      subst hvb
      replace hs := h9
      refine Zm rfl (Zr (run_extract rfl rfl) rfl (Zr (run_extract rfl rfl) rfl (Za rfl (Za rfl (Zt (Zm rfl (Zr (run_asB (c := false) (run_neq rfl rfl) (by decide)) rfl (Zm rfl (Zo rfl (Zm rfl (Zo rfl (Zr (run_len un29 rfl) rfl (Zo rfl (Zr (run_asB (c := false) (run_neq rfl rfl) (by decide)) rfl (Zr (run_pick_f rfl rfl) rfl (Zm rfl (Zo rfl (Zf un31 inf28 rfl 9 rfl (Zo rfl (Zl sc28 rfl (hs.blk_at 6 rfl 9 rfl) (Zo rfl (Zc fn12 rfl (cTries_c w w59 _ bc bd bj (re p Ao co) ops [(T1 p ops m)] false hs (by simp) (fun t ht => by have := hC1.lens.2 t (by exact ht); omega)) rfl ?_))))))))))))))))))))))
      rintro v60 w61 ⟨vo, o2A, o2c, hvo, rfl, hs⟩
      replace hs := hs.triesK hvo
      obtain ⟨q2, hq2⟩ := one_row hvo
      subst hq2
      refine Zo rfl (Zm rfl (Zo rfl (Zc fn22 rfl (tries_c w61 _ _ _ [((T1 p ops m), q2)] _ _ _ [((T1 p ops m), q1)] (hs.kept 0 rfl).1 (hs.kept 10 rfl).1 rfl (hs.kept 0 rfl).2 (hs.kept 10 rfl).2 (by simp) (fun x hx => by rw [List.mem_singleton] at hx; subst hx; exact ⟨by show (List.replicate m (0 : Int)).length ≤ _; rw [List.length_replicate]; omega, by show ([] : List Int).length ≤ _; decide⟩)) rfl ?_)))
      rintro v62 w63 ⟨rfl, hsF⟩
      replace hs := hs.T hsF
      refine Zo rfl (Zr (run_not rfl) rfl (Zr (run_pick_f rfl rfl) rfl (Zj (St_iff rfl (St_skip ?_)))))
      replace hs := hs.F12.F12.F5.F5.F5.F9
      replace hs := wshut19 hvs hvl hs
      replace hs := hs.E1.E1.E2.E3.F4.F3.F2.F4.F4
      refine Jm_join 0 ?_ ?_
      · rw [hEn54]; exact sE ⟨rfl, rfl, rfl, rfl, rfl, rfl, trivial⟩
      rw [hIv55]
      exact hs
    refine St_skip ?_
    replace hs := hs.F11.F11.F9.F9.F7.F8
    replace hs := wshut19 hvs hvl hs
    replace hs := hs.E1.E2.E3.F4.F3.F2.F4.F4
    refine Jm_join 0 ?_ ?_
    · rw [hEn54]; exact sE ⟨rfl, rfl, rfl, rfl, rfl, rfl, trivial⟩
    rw [hIv55]
    exact hs
  rintro dum w56 hI65
  rw [hIv55] at hI65
  replace hs := hI65
  refine Jm_eqE (hEn54 _) ?_
  replace hs := hs.F2
  obtain ⟨bd, bc, bj, Ao, co, sA, sc, vs, hvs, hvl, hs⟩ := wopen19 hs
  unfold wcells at hs
  refine Zq (St_seq ?_)
  replace hs := hs.F8.F1
  refine St_hold (Hold.of (Ls := [_, _]) hs) mixed (fun w66 q67 => ?_)
  replace hs := hs.quiet q67
  have hH := Hold.of (Ls := [_, _]) hs
  refine Ya hH 0 rfl (by kernel_rfl) (fun x hx => run_fd un31 inf28 rfl 9 rfl) (Ya hH 1 rfl (by kernel_rfl) (fun x hx => run_load sc28 rfl (hx.choose_spec.blk_at 0 rfl 9 rfl)) (Ya hH 2 rfl (by kernel_rfl) (fun x hx => run_load_agg agg43 inf43 rfl rfl (hx.choose_spec.blk_cells 1 rfl 0 7)) (Ym hH 3 rfl (by kernel_rfl) rfl (An_only 4 (by kernel_rfl) rfl (Zc fn16 rfl (labout_c w66 8 ((T1 p ops m), q1) _ _ _) rfl ?_)))))
  rintro v68 w69 ⟨rfl, hsF⟩
  replace hs := hs.T hsF
  replace hs := hs.F1.F1
  replace hH := Hold.of (Ls := [_, _]) hs
  refine Ls_nil (Jm_An hH (An_only 5 (by kernel_rfl) rfl ?_))
  replace hs := hs.F4.F4.F4
  have hE := first_not (k := 8) hC1 (x := aboutT 8 (T1 p ops m) es) (one_sound hC1 (.inr rfl) heb) rfl rfl (.inl (fun q => absurd q.2.2.2 (by show (1 : Int) ≠ 3; decide)))
  refine Zc fn15 rfl (cTake_c w w69 _ bc bd bj (re p Ao co) ops [(T1 p ops m)] false (j1 m) d1 hs hC1.jo hC1.rows (aboutT 8 (T1 p ops m) es) ⟨bA, m, bC, none, 0, 0, none, 0, 0⟩ (fun w' X z => ⟨z.rd_at 5 rfl, Rd.none w' 1, Rd.none w' 3⟩) hel (by refine ⟨?_, ?_, ?_⟩ <;> simp only <;> omega) (by simp) (fun t ht => by have := hC1.lens.2 t ht; omega) (fun t ht => by have := hC1.lens.2 t ht; exact ⟨by omega, this.2.2.1⟩)) rfl ?_
  rintro v70 w71 ⟨vb, rfl, hs⟩
  rw [ctake_re, hE] at hs ⊢
  simp only at hs ⊢
  obtain ⟨hvb, h9⟩ := hs.moNone
  subst hvb
  replace hs := h9
  replace hs := hs.F4.F4
  replace hH := Hold.of (Ls := [_, _]) hs
  refine Ls_nil (Jm_An hH (Ym hH 6 rfl (by kernel_rfl) rfl (Ya hH 7 rfl (by kernel_rfl) (fun x hx => run_extract rfl rfl) (Ya hH 8 rfl (by kernel_rfl) (fun x hx => run_extract rfl rfl) (Ya hH 9 rfl (by kernel_rfl) (fun x hx => run_assign rfl) (Ya hH 10 rfl (by kernel_rfl) (fun x hx => run_assign rfl) (An_done (by kernel_rfl) (Zq (St_seq (Zs (Zm rfl (Zr (run_asB (c := false) (run_neq rfl rfl) (by decide)) rfl (Zm rfl (Zo rfl (Zm rfl (Zo rfl (Zr (run_len un29 rfl) rfl (Zo rfl (Zr (run_asB (c := false) (run_neq rfl rfl) (by decide)) rfl (Zr (run_pick_f rfl rfl) rfl (Zm rfl (Zo rfl (Zf un31 inf28 rfl 9 rfl (Zo rfl (Zl sc28 rfl (hs.blk_at 0 rfl 9 rfl) (Zo rfl ?_))))))))))))))))))))))))))
  replace hs := hs.F2
  refine Zc fn12 rfl (cTries_c w w71 _ bc bd bj (re p Ao co) ops [(T1 p ops m)] false hs (by simp) (fun t ht => by have := hC1.lens.2 t (by exact ht); omega)) rfl ?_
  rintro v72 w73 ⟨vo, o2A, o2c, hvo, rfl, hs⟩
  replace hs := hs.triesK hvo
  obtain ⟨q2, hq2⟩ := one_row hvo
  subst hq2
  refine Zo rfl (Zm rfl (Zo rfl (Zc fn22 rfl (tries_c w73 _ _ _ [((T1 p ops m), q2)] _ _ _ [((T1 p ops m), q1)] (hs.kept 0 rfl).1 (hs.kept 9 rfl).1 rfl (hs.kept 0 rfl).2 (hs.kept 9 rfl).2 (by simp) (fun x hx => by rw [List.mem_singleton] at hx; subst hx; exact ⟨by show (List.replicate m (0 : Int)).length ≤ _; rw [List.length_replicate]; omega, by show ([] : List Int).length ≤ _; decide⟩)) rfl ?_)))
  rintro v74 w75 ⟨rfl, hsF⟩
  replace hs := hs.T hsF
  refine Zo rfl (Zr (run_not rfl) rfl (Zr (run_pick_f rfl rfl) rfl (Zj (St_iff rfl (St_skip (Zq (St_seq (Zs (Zm rfl (Zr (run_rem rfl rfl (by omega) rfl) rfl (Zr (run_eql rfl rfl) rfl (Zj (St_ifP rfl (fun h77 => ?_) (fun h77 => ?_))))))))))))))
  · refine St_seq ?_
    replace hs := hs.F3.F3
    refine St_hold (Hold.of (Ls := [_, _]) hs) mixed (fun w78 q79 => ?_)
    replace hs := hs.quiet q79
    have hH := Hold.of (Ls := [_, _]) hs
    refine Ya hH 0 rfl (by kernel_rfl) (fun x hx => run_fd un31 inf28 rfl 9 rfl) (Ya hH 1 rfl (by kernel_rfl) (fun x hx => run_load sc28 rfl (hx.choose_spec.blk_at 0 rfl 9 rfl)) (Ya hH 2 rfl (by kernel_rfl) (fun x hx => run_load_agg agg43 inf43 rfl rfl (hx.choose_spec.blk_cells 1 rfl 0 7)) (Ya hH 3 rfl (by kernel_rfl) (fun x hx => run_fd un43 inf25 rfl 5 rfl) (Ya hH 4 rfl (by kernel_rfl) (fun x hx => run_as (run_load sc25 rfl (hx.choose_spec.blk_at 1 rfl 5 rfl)) (show _ = Value.slice q1.fA m q1.fc by show Value.slice q1.fA (List.replicate m (0 : Int)).length q1.fc = _; rw [List.length_replicate])) (An_only 5 (by kernel_rfl) rfl (Zc fn16 rfl (labout_c w78 2 ((T1 p ops m), q1) _ _ _) rfl ?_))))))
    rintro v80 w81 ⟨rfl, hsF⟩
    replace hs := hs.T hsF
    replace hs := hs.F1.F1
    replace hH := Hold.of (Ls := [_, _]) hs
    refine Ls_nil (Jm_An hH (An_only 6 (by kernel_rfl) rfl ?_))
    replace hs := hs.F5.F5.F5
    have hE := idle_none hC1 hm
    refine Zc fn15 rfl (cTake_c w w81 _ bc bd bj (re p Ao co) ops [(T1 p ops m)] false (j1 m) d1 hs hC1.jo hC1.rows (aboutT 2 (T1 p ops m) (List.replicate m 0)) ⟨q1.fA, m, q1.fc, none, 0, 0, none, 0, 0⟩ (fun w' X z => ⟨tk_one rfl (z.kept 7 rfl), Rd.none w' 1, Rd.none w' 3⟩) (List.length_replicate) (by refine ⟨?_, ?_, ?_⟩ <;> simp only <;> omega) (by simp) (fun t ht => by have := hC1.lens.2 t ht; omega) (fun t ht => by have := hC1.lens.2 t ht; exact ⟨by omega, this.2.2.1⟩)) rfl ?_
    rintro v82 w83 ⟨vb, rfl, hs⟩
    rw [ctake_re, hE] at hs ⊢
    simp only at hs ⊢
    obtain ⟨hvb, h9⟩ := hs.moNone
    subst hvb
    replace hs := h9
    replace hs := hs.F4.F4
    replace hH := Hold.of (Ls := [_, _]) hs
    refine Ls_nil (Jm_An hH (Ym hH 7 rfl (by kernel_rfl) rfl (Ya hH 8 rfl (by kernel_rfl) (fun x hx => run_extract rfl rfl) (Ya hH 9 rfl (by kernel_rfl) (fun x hx => run_extract rfl rfl) (Ya hH 10 rfl (by kernel_rfl) (fun x hx => run_assign rfl) (Ya hH 11 rfl (by kernel_rfl) (fun x hx => run_assign rfl) (An_done (by kernel_rfl) (Zq (Zs (Zm rfl (Zr (run_asB (c := true) (run_eql rfl rfl) (by decide)) rfl (Zm rfl (Zo rfl (Zm rfl (Zo rfl (Zr (run_len un29 rfl) rfl (Zo rfl (Zr (run_asB (c := true) (run_eql rfl rfl) (by decide)) rfl (Zr (run_pick_t rfl rfl) rfl (Zm rfl (Zo rfl (Zf un31 inf28 rfl 9 rfl (Zo rfl (Zl sc28 rfl (hs.blk_at 0 rfl 9 rfl) (Zo rfl ?_)))))))))))))))))))))))))
    replace hs := hs.F2
    refine Zc fn12 rfl (cTries_c w w83 _ bc bd bj (re p Ao co) ops [] false hs (by simp) (fun t ht => by have := hC1.lens.2 t (by cases ht); omega)) rfl ?_
    rintro v84 w85 ⟨vo, o3A, o3c, hvo, rfl, hs⟩
    replace hs := hs.triesK hvo
    obtain rfl := List.map_eq_nil_iff.1 hvo
    refine Zo rfl (Zr (run_len un44 rfl) rfl (Zo rfl (Zr (run_asB (c := true) (run_eql rfl rfl) (by decide)) rfl (Zr (run_pick_t rfl rfl) rfl (Zm rfl (Zo rfl (Zf un31 inf28 rfl 9 rfl (Zo rfl (Zl sc28 rfl (hs.blk_at 2 rfl 9 rfl) (Zo rfl ?_))))))))))
    replace hs := hs.F4.F2
    refine Zc fn17 rfl (cNote_c w w85 _ bc bd bj (re p Ao co) ops [] false (j1 m) hs (by have := hC1.note; omega)) rfl ?_
    rintro v86 w87 ⟨Nnp, nnp, Nnc, nnc, rfl, hs⟩
    refine Zo rfl (Zr (run_fva un53 rfl agg51 inf51 rfl rfl) rfl (Zo rfl (Zr (run_fv un51 rfl sc3 rfl rfl) rfl (Zo rfl (Zr (run_asB (c := true) (run_eql rfl rfl) (decide_eq_true rfl)) rfl (Zr (run_pick_t rfl rfl) rfl (Za rfl (Zj (St_ret (Jm_then_ret (Jm_ret1 rfl rfl ?_)))))))))))
    exact ⟨_, rfl, rfl, hs.below⟩
  refine St_skip (Zq (St_seq ?_))
  replace hs := hs.F3.F3
  refine St_hold (Hold.of (Ls := [_, _]) hs) mixed (fun w88 q89 => ?_)
  replace hs := hs.quiet q89
  have hH := Hold.of (Ls := [_, _]) hs
  refine Ya hH 0 rfl (by kernel_rfl) (fun x hx => run_fd un31 inf28 rfl 9 rfl) (Ya hH 1 rfl (by kernel_rfl) (fun x hx => run_load sc28 rfl (hx.choose_spec.blk_at 0 rfl 9 rfl)) (Ya hH 2 rfl (by kernel_rfl) (fun x hx => run_load_agg agg43 inf43 rfl rfl (hx.choose_spec.blk_cells 1 rfl 0 7)) (Ym hH 3 rfl (by kernel_rfl) rfl (An_only 4 (by kernel_rfl) rfl (Zc fn16 rfl (labout_c w88 2 ((T1 p ops m), q1) _ _ _) rfl ?_)))))
  rintro v90 w91 ⟨rfl, hsF⟩
  replace hs := hs.T hsF
  replace hs := hs.F1.F1
  replace hH := Hold.of (Ls := [_, _]) hs
  refine Ls_nil (Jm_An hH (An_only 5 (by kernel_rfl) rfl ?_))
  replace hs := hs.F5.F5.F5
  obtain ⟨hE, hC2⟩ := first_ready hC1 hm hon hne
  refine Zc fn15 rfl (cTake_c w w91 _ bc bd bj (re p Ao co) ops [(T1 p ops m)] false (j1 m) d1 hs hC1.jo hC1.rows (aboutT 2 (T1 p ops m) es) ⟨bA, m, bC, none, 0, 0, none, 0, 0⟩ (fun w' X z => ⟨z.rd_at 6 rfl, Rd.none w' 1, Rd.none w' 3⟩) hel (by refine ⟨?_, ?_, ?_⟩ <;> simp only <;> omega) (by simp) (fun t ht => by have := hC1.lens.2 t ht; omega) (fun t ht => by have := hC1.lens.2 t ht; exact ⟨by omega, this.2.2.1⟩)) rfl ?_
  rintro v92 w93 ⟨vb, rfl, hs⟩
  rw [ctake_re, hE] at hs ⊢
  simp only at hs ⊢
  obtain ⟨gb, Ab, cb, hvb, h9⟩ := hs.moSome
  subst hvb
  replace hs := h9
  simp only [sayM] at hs
  rw [hel] at hs
  replace hs := hs.F6.F6
  replace hH := Hold.of (Ls := [_, _]) hs
  refine Ls_nil (Jm_An hH (Ym hH 6 rfl (by kernel_rfl) rfl (Ya hH 7 rfl (by kernel_rfl) (fun x hx => run_extract rfl rfl) (Ya hH 8 rfl (by kernel_rfl) (fun x hx => run_extract rfl rfl) (Ya hH 9 rfl (by kernel_rfl) (fun x hx => run_assign rfl) (Ya hH 10 rfl (by kernel_rfl) (fun x hx => run_assign rfl) (An_done (by kernel_rfl) (Zq (St_seq (Zs (Zm rfl (Zr (run_asB (c := false) (run_neq rfl rfl) (by decide)) rfl (Zm rfl (Zo rfl (Zm rfl (Zo rfl (Zr (run_len un29 rfl) rfl (Zo rfl (Zr (run_asB (c := false) (run_neq rfl rfl) (by decide)) rfl (Zr (run_pick_f rfl rfl) rfl (Zm rfl (Zo rfl (Zm rfl (Zo rfl (Ls_index (KM) (msg_rd (hs.is_at 2 rfl).2) un29 inf41 rfl rfl (by omega) (by omega) rfl rfl (fun b94 o95 hc96 => (Zo rfl (Zr (run_field un41 rfl inf3 (by decide) rfl) rfl (Zo rfl (Zl sc3 rfl (hc96 0 _ rfl) (Zo rfl (Zr (run_asB (c := false) (run_neq rfl rfl) (decide_eq_false (fun q => q rfl))) rfl (Zr (run_pick_f rfl rfl) rfl (Zm rfl (Zo rfl (Zm rfl (Zo rfl (Ls_index (KM) (msg_rd (hs.is_at 2 rfl).2) un29 inf41 rfl rfl (by omega) (by omega) rfl rfl (fun b97 o98 hc99 => (Zo rfl (Zr (run_field un41 rfl inf25 (by decide) rfl) rfl (Zo rfl (Zr (run_as (run_load sc25 rfl (hc99 6 _ rfl)) (show _ = Value.slice Ab m cb from rfl)) rfl (Zo rfl (Zm rfl (Zo rfl (Zc fn13 rfl (ints19_c w93 _ _ _ es _ _ _ es (hs.rd_at 3 rfl) (hs.rd_at 10 rfl) (by omega)) rfl ?_)))))))))))))))))))))))))))))))))))))))))))))))
  rintro v100 w101 ⟨rfl, hsF⟩
  replace hs := hs.T hsF
  rw [decide_eq_true rfl]
  refine Zo rfl (Zr (run_not rfl) rfl (Zr (run_pick_f rfl rfl) rfl (Zj (St_iff rfl (St_skip (Zq (St_seq ?_)))))))
  replace hs := hs.F1.F1
  refine St_hold (Hold.of (Ls := [_, _]) hs) mixed (fun w103 q104 => ?_)
  replace hs := hs.quiet q104
  have hH := Hold.of (Ls := [_, _]) hs
  refine Ya hH 0 rfl (by kernel_rfl) (fun x hx => run_fd un31 inf28 rfl 9 rfl) (Ya hH 1 rfl (by kernel_rfl) (fun x hx => run_load sc28 rfl (hx.choose_spec.blk_at 0 rfl 9 rfl)) (Ya hH 2 rfl (by kernel_rfl) (fun x hx => run_load_agg agg43 inf43 rfl rfl (hx.choose_spec.blk_cells 1 rfl 0 7)) (Ya hH 3 rfl (by kernel_rfl) (fun x hx => run_fd un43 inf25 rfl 5 rfl) (Ya hH 4 rfl (by kernel_rfl) (fun x hx => run_as (run_load sc25 rfl (hx.choose_spec.blk_at 1 rfl 5 rfl)) (show _ = Value.slice q1.fA m q1.fc by show Value.slice q1.fA (List.replicate m (0 : Int)).length q1.fc = _; rw [List.length_replicate])) (An_only 5 (by kernel_rfl) rfl (Zc fn16 rfl (labout_c w103 8 ((T1 p ops m), q1) _ _ _) rfl ?_))))))
  rintro v105 w106 ⟨rfl, hsF⟩
  replace hs := hs.T hsF
  replace hs := hs.F1.F1
  replace hH := Hold.of (Ls := [_, _]) hs
  refine Ls_nil (Jm_An hH (An_only 6 (by kernel_rfl) rfl ?_))
  replace hs := hs.F6.F6.F6
  have hE := first_not (k := 8) hC2 (x := aboutT 8 (T1 p ops m) (List.replicate m 0)) (one_sound hC2 (.inr rfl) (rep_eb hm)) rfl rfl (.inr hne)
  refine Zc fn15 rfl (cTake_c w w106 _ bc bd bj (re p Ao co) ops [(G1 p ops m es)] false (j1 m) d1 hs hC2.jo hC2.rows (aboutT 8 (T1 p ops m) (List.replicate m 0)) ⟨q1.fA, m, q1.fc, none, 0, 0, none, 0, 0⟩ (fun w' X z => ⟨tk_one rfl (z.kept 9 rfl), Rd.none w' 1, Rd.none w' 3⟩) (List.length_replicate) (by refine ⟨?_, ?_, ?_⟩ <;> simp only <;> omega) (by simp) (fun t ht => by have := hC2.lens.2 t ht; omega) (fun t ht => by have := hC2.lens.2 t ht; exact ⟨by omega, this.2.2.1⟩)) rfl ?_
  rintro v107 w108 ⟨vb, rfl, hs⟩
  rw [ctake_re, hE] at hs ⊢
  simp only at hs ⊢
  obtain ⟨hvb, h9⟩ := hs.moNone
  subst hvb
  replace hs := h9
  replace hs := hs.F4.F4
  replace hH := Hold.of (Ls := [_, _]) hs
  refine Ls_nil (Jm_An hH (Ym hH 7 rfl (by kernel_rfl) rfl (Ya hH 8 rfl (by kernel_rfl) (fun x hx => run_extract rfl rfl) (Ya hH 9 rfl (by kernel_rfl) (fun x hx => run_extract rfl rfl) (Ya hH 10 rfl (by kernel_rfl) (fun x hx => run_assign rfl) (Ya hH 11 rfl (by kernel_rfl) (fun x hx => run_assign rfl) (An_done (by kernel_rfl) (Zq (St_seq (Zs (Zm rfl (Zr (run_asB (c := false) (run_neq rfl rfl) (by decide)) rfl (Zm rfl (Zo rfl (Zm rfl (Zo rfl (Zr (run_len un29 rfl) rfl (Zo rfl (Zr (run_asB (c := false) (run_neq rfl rfl) (by decide)) rfl (Zr (run_pick_f rfl rfl) rfl (Zm rfl (Zo rfl (Zf un31 inf28 rfl 9 rfl (Zo rfl (Zl sc28 rfl (hs.blk_at 0 rfl 9 rfl) (Zo rfl ?_))))))))))))))))))))))))))
  replace hs := hs.F3.F3
  refine Zc fn17 rfl (cNote_c w w108 _ bc bd bj (re p Ao co) ops [(G1 p ops m es)] false (j1 m) hs (by have := hC1.note; omega)) rfl ?_
  rintro v109 w110 ⟨Nnp, nnp, Nnc, nnc, rfl, hs⟩
  refine Zo rfl (Zr (run_fva un53 rfl agg51 inf51 rfl rfl) rfl (Zo rfl (Zr (run_fv un51 rfl sc3 rfl rfl) rfl (Zo rfl (Zr (run_asB (c := false) (run_neq rfl rfl) (decide_eq_false (fun q => q rfl))) rfl (Zr (run_pick_f rfl rfl) rfl (Zj (St_iff rfl (St_skip (Zq (St_seq ?_)))))))))))
  replace hs := hs.F5.F5
  refine St_hold (Hold.of (Ls := [_, _]) hs) mixed (fun w112 q113 => ?_)
  replace hs := hs.quiet q113
  have hH := Hold.of (Ls := [_, _]) hs
  refine Ya hH 0 rfl (by kernel_rfl) (fun x hx => run_fd un31 inf28 rfl 9 rfl) (Ya hH 1 rfl (by kernel_rfl) (fun x hx => run_load sc28 rfl (hx.choose_spec.blk_at 0 rfl 9 rfl)) (Ya hH 2 rfl (by kernel_rfl) (fun x hx => run_load_agg agg43 inf43 rfl rfl (hx.choose_spec.blk_cells 1 rfl 0 7)) (Ym hH 3 rfl (by kernel_rfl) rfl (An_only 4 (by kernel_rfl) rfl (Zc fn16 rfl (labout_c w112 8 ((T1 p ops m), q1) _ _ _) rfl ?_)))))
  rintro v114 w115 ⟨rfl, hsF⟩
  replace hs := hs.T hsF
  replace hs := hs.F1.F1
  replace hH := Hold.of (Ls := [_, _]) hs
  refine Ls_nil (Jm_An hH (An_only 5 (by kernel_rfl) rfl ?_))
  replace hs := hs.F6.F6.F6
  obtain ⟨d3, hE, hC3, _⟩ := first_done hC2 heb ha1
  refine Zc fn15 rfl (cTake_c w w115 _ bc bd bj (re p Ao co) ops [(G1 p ops m es)] false (j1 m) d1 hs hC2.jo hC2.rows (aboutT 8 (T1 p ops m) es) ⟨bA, m, bC, none, 0, 0, none, 0, 0⟩ (fun w' X z => ⟨z.rd_at 10 rfl, Rd.none w' 1, Rd.none w' 3⟩) hel (by refine ⟨?_, ?_, ?_⟩ <;> simp only <;> omega) (by simp) (fun t ht => by have := hC2.lens.2 t ht; omega) (fun t ht => by have := hC2.lens.2 t ht; exact ⟨by omega, this.2.2.1⟩)) rfl ?_
  rintro v116 w117 ⟨vb, rfl, hs⟩
  rw [ctake_re, hE] at hs ⊢
  simp only at hs ⊢
  obtain ⟨hvb, h9⟩ := hs.moNone
  subst hvb
  replace hs := h9
  replace hs := hs.F4.F4
  replace hH := Hold.of (Ls := [_, _]) hs
  refine Ls_nil (Jm_An hH (Ym hH 6 rfl (by kernel_rfl) rfl (Ya hH 7 rfl (by kernel_rfl) (fun x hx => run_extract rfl rfl) (Ya hH 8 rfl (by kernel_rfl) (fun x hx => run_extract rfl rfl) (Ya hH 9 rfl (by kernel_rfl) (fun x hx => run_assign rfl) (Ya hH 10 rfl (by kernel_rfl) (fun x hx => run_assign rfl) (An_done (by kernel_rfl) (Zq (Zs (Zm rfl (Zr (run_asB (c := true) (run_eql rfl rfl) (by decide)) rfl (Zm rfl (Zo rfl (Zm rfl (Zo rfl (Zr (run_len un29 rfl) rfl (Zo rfl (Zr (run_asB (c := true) (run_eql rfl rfl) (by decide)) rfl (Zr (run_pick_t rfl rfl) rfl (Zm rfl (Zo rfl (Zf un31 inf28 rfl 9 rfl (Zo rfl (Zl sc28 rfl (hs.blk_at 0 rfl 9 rfl) (Zo rfl ?_)))))))))))))))))))))))))
  replace hs := hs.F3.F3
  refine Zc fn17 rfl (cNote_c w w117 _ bc bd bj (re p Ao co) ops [] false (jnext (j1 m) ⟨1, List.replicate m 0, es, 1⟩) hs (by have := hC3.note; omega)) rfl ?_
  rintro v118 w119 ⟨Nnp, nnp, Nnc, nnc, rfl, hs⟩
  refine Zo rfl (Zr (run_fva un53 rfl agg51 inf51 rfl rfl) rfl (Zo rfl (Zr (run_fv un51 rfl sc3 rfl rfl) rfl (Zo rfl (Zr (run_asB (c := true) (run_eql rfl rfl) (decide_eq_true rfl)) rfl (Zr (run_pick_t rfl rfl) rfl (Zm rfl (Zo rfl (Zf un31 inf28 rfl 9 rfl (Zo rfl (Zl sc28 rfl (hs.blk_at 4 rfl 9 rfl) (Zo rfl ?_))))))))))))
  replace hs := hs.F3.F3
  refine Zc fn17 rfl (cNote_c w w119 _ bc bd bj (re p Ao co) ops [] false (jnext (j1 m) ⟨1, List.replicate m 0, es, 1⟩) hs (by have := hC3.note; omega)) rfl ?_
  rintro v120 w121 ⟨Nnp2, nnp2, Nnc2, nnc2, rfl, hs⟩
  refine Zo rfl (Zr (run_fva un53 rfl agg51 inf51 rfl rfl) rfl (Zo rfl (Zr (run_fv un51 rfl sc25 rfl rfl) rfl (Zo rfl (Zm rfl (Zo rfl (Zc fn13 rfl (ints19_c w121 _ _ _ es _ _ _ es (hs.rd_at 1 rfl) (hs.rd_at 16 rfl) (by show es.length ≤ 9223372036854775807; omega)) rfl ?_)))))))
  rintro v122 w123 ⟨rfl, hsF⟩
  replace hs := hs.T hsF
  rw [decide_eq_true rfl]
  refine Zr (run_pick_t rfl rfl) rfl (Za rfl (Zj (St_ret (Jm_ret1 rfl rfl ?_))))
  exact ⟨_, rfl, rfl, hs.below⟩
end Go.Proofs.Ytcifdianinbkeaa.Lg
set_option linter.unusedVariables false
set_option linter.unusedSimpArgs false
namespace Go.Proofs.Ytcifdianinbkeaa.coordIdle
open Go.ChangeShapes Go.WideShapes Go.ChangeAt Go.RowKit
open Go.Proofs.Ytcifdianinbkeaa.Lg Go.Proofs.Ytcifdianinbkeaa.PlanPure
theorem own : ownKnob Try.prog.godebug = none := by kernel_rfl
theorem laidOut : laidOutB Try.prog = true := by kernel_rfl
set_option maxRecDepth 100000 in
theorem lifted (os : Os) (started : os.Started) (H : Type) (enc : TypeId × Value → H) :
    ReturnsInHanded {} Try.checked os 6 .any (Rows.coordIdleSpec.pre6 enc Try.prog Try.f6 Rows.coordIdleRow.domain false) (Rows.coordIdleSpec.post enc Try.prog Try.f6 false true false false) := by
  refine returnsInHanded_of_change_sized (C := Try.checked) own started (by kernel_rfl) Try.func6
    (ChangeSpec.witness6 (enc := enc) (C := Try.checked) false ⟨#[], #[.agg #[.int .i64 0, .int .i64 0, .int .i64 0, .slice none 0 0, .int .i64 0, .int .i64 0, .int .i64 0, .int .i64 0], .int .i64 0, .int .i64 0], []⟩ 8 (by kernel_rfl) (by kernel_rfl) (by kernel_rfl) (by kernel_rfl)) ?_
  intro W base args ds gs before hval0 hW hcnd hsz0 _
  have hsz : (DataW.weightsEach Try.prog (Try.f6.params.toList ++ Rows.coordIdleSpec.plain.varTypes Try.prog) (ds ++ gs)).all (· ≤ reachBytes) = true := hsz0
  have hval : ∀ (j : Nat) t v, Try.f6.params[j]? = some t → args[j]? = some v → Value.okWide Try.prog W .any base t v := hval0
  have hW' := hW
  obtain ⟨p, q, hA0, hV, rfl, hfz, hnd⟩ := hW
  have hA : DataW.TrodAll enc Try.prog W 0 (fun _ => true) true Try.f6.params.toList args.toList ds p := hA0
  rw [Try.params6] at hA hval hsz
  obtain ⟨v0, vs0, d0, ds0, p0, q0, hargs, rfl, rfl, h0, r0⟩ := trodAll_cons hA
  obtain ⟨v1, vs1, d1, ds1, p1, q1, rfl, rfl, rfl, h1, r1⟩ := trodAll_cons r0
  obtain ⟨v2, vs2, d2, ds2, p2, q2, rfl, rfl, rfl, h2, r2⟩ := trodAll_cons r1
  obtain ⟨rfl, rfl, rfl⟩ := trodAll_nil r2
  obtain rfl : args = #[v0, v1, v2] := by cases args; simp_all
  obtain ⟨rfl, rfl⟩ := trodVars_none hV
  obtain ⟨cs0, rfl, _⟩ := okWide_struct Try.underlying24 (hval 0 24 v0 rfl rfl)
  have k0 := h0
  have lt0 : ∀ x ∈ p0, x.block < W.heap.size := by obtain ⟨m, hm⟩ := k0; exact DataW.trod_lt m _ _ _ hm
  obtain ⟨fu0, hf0⟩ := h0
  obtain ⟨s0_0, s0_1, s0_2, s0_3, s0_3n, s0_3c, s0_4, s0_5, s0_6, s0_7, ec0, g0_0, g0_1, g0_2, g0_3, g0_4, g0_5, g0_6, g0_7, g0_8, g0_9⟩ := dec24 hf0
  obtain rfl : cs0 = #[.int .i64 s0_0, .int .i64 s0_1, .int .i64 s0_2, .slice s0_3 s0_3n s0_3c, .int .i64 s0_4, .int .i64 s0_5, .int .i64 s0_6, .int .i64 s0_7] := Array.ext' ec0
  obtain ⟨od0, op0, ot0, _⟩ := g0_3
  obtain ⟨ops0, rdo0, _, _⟩ := rd_slice' KOp (fun _ => True) Try.underlying22 (by kernel_rfl) (by decide) (fun n cs y hy => by obtain ⟨a, b, c, e, _⟩ := dec94 hy; exact ⟨(a, b, c), e.symm, trivial⟩) ot0
  have mo0 : s0_3n ≤ 9223372036854775807 := by have := g0_4; have := g0_5; simp only [maxLen] at this; omega
  have mp0 : chk ⟨s0_0, s0_1, s0_2, s0_3, s0_3n, s0_3c, s0_4, s0_5, s0_6, s0_7⟩ ops0 = 0 → s0_3n ≤ 67108864 := fun hc => by have h8 := chk_len hc; have h9 := lenKOp rdo0; omega
  obtain ⟨a1, rfl, rfl, rfl, w1⟩ := open_int Try.underlying3 (hval 1 3 v1 rfl rfl) h1
  have b1 := wf_i64 w1
  obtain ⟨a2, rfl, rfl, rfl, w2⟩ := open_int Try.underlying3 (hval 2 3 v2 rfl rfl) h2
  have b2 := wf_i64 w2
  clear hA0 hval0 hsz0 hsz
  refine (if hc : chk ⟨s0_0, s0_1, s0_2, s0_3, s0_3n, s0_3c, s0_4, s0_5, s0_6, s0_7⟩ ops0 = 0 then CoordIdle_ok W ⟨s0_0, s0_1, s0_2, s0_3, s0_3n, s0_3c, s0_4, s0_5, s0_6, s0_7⟩ ops0 rdo0 (mp0 hc) hc a1 a2 else CoordIdle_bad W ⟨s0_0, s0_1, s0_2, s0_3, s0_3n, s0_3c, s0_4, s0_5, s0_6, s0_7⟩ ops0 rdo0 mo0 hc a1 a2).mono fun e W' ⟨v, he, hv, bel⟩ => ?_
  subst he
  subst hv
  exact ⟨_, rfl, _, _, _, [], _, [], hW', trodAll_mk1 (shut_bool Try.underlying4 _), (trodAll_cons_mk (Below.trod laidOut (by kernel_rfl) (of_decide_eq_true (by kernel_rfl)) k0 bel lt0) (trodAll_cons_mk (shut_int Try.underlying3 w1) (trodAll_cons_mk (shut_int Try.underlying3 w2) trodAll_mk0))), rfl, bel.frame _, fun h => by cases h⟩
theorem over : Rows.coordIdleRow.holds Try.pinned (OpenSpec.ofChange Rows.coordIdleSpec) :=
  OpenClaim.holds_of_wide 6 Try.f6 rfl rfl rfl rfl rfl rfl rfl ⟨rfl, rfl, rfl, rfl, rfl⟩ rfl rfl rfl rfl rfl (by kernel_rfl) Try.func6 (by kernel_rfl)
    (of_decide_eq_true (by kernel_rfl)) (by unfold Func.isWrapper; first | (rw [if_pos (by decide +kernel)]; kernel_rfl) | (rw [if_neg (by decide +kernel)]; exact ⟨rfl, rfl⟩))
    (fun os started H enc _ => lifted os started H enc)
end Go.Proofs.Ytcifdianinbkeaa.coordIdle
namespace Go.Proofs.Ytcifdianinbkeaa
/-- The row, under a short name, for the claim. -/
theorem coordIdle_holds : Rows.CoordIdleSaid := coordIdle.over
end Go.Proofs.Ytcifdianinbkeaa
