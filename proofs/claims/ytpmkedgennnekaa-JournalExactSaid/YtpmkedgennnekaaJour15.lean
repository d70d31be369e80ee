/-
  The law JournalExact, walked. By program (gen/jour15.py).
-/
import Derived.Test.YtpmkedgennnekaaJour14
set_option linter.unusedVariables false
set_option linter.unusedSimpArgs false
namespace Go.Proofs.Ytpmkedgennnekaa.Lg
open Go Go.RowKit Go.Proofs.Ytpmkedgennnekaa.WirePure
def osave (jo : Option JSt) (d : DSt) (n : NSt) : Int × Option JSt × DSt := match jo with | none => (2, none, d) | some j => ((jsave j d n).1, some (jsave j d n).2.1, (jsave j d n).2.2)
def rosave (jo : Option JSt) (r : RSt) (n : NSt) : Int × Option JSt × RSt := match jo with | none => (2, none, r) | some j => ((rjsave j r n).1, some (rjsave j r n).2.1, (rjsave j r n).2.2)
def onote : Option JSt → NSt | none => ⟨0, [], [], 0⟩ | some j => j.n
def oend : Option JSt → Bool | none => false | some j => j.ended
def OOk (jo : Option JSt) : Prop := ∀ j, jo = some j → JOk j
theorem osave_same {jo : Option JSt} {d : DSt} {r : RSt} {n : NSt} (h : DR d r) : (osave jo d n).1 = (rosave jo r n).1 ∧ (osave jo d n).2.1 = (rosave jo r n).2.1 ∧ DR (osave jo d n).2.2 (rosave jo r n).2.2 := by
  cases jo with
  | none => exact ⟨rfl, rfl, h⟩
  | some j =>
    have := save_same (j := j) (n := n) h
    exact ⟨this.1, congrArg some this.2.1, this.2.2⟩
theorem osave_ok {jo : Option JSt} {d : DSt} {n : NSt} (h : OOk jo) : OOk (osave jo d n).2.1 := by
  intro j hj
  cases jo with
  | none => cases hj
  | some j0 => cases hj; exact jsave_keeps (h j0 rfl)
theorem onote_len {jo : Option JSt} (h : OOk jo) : (onote jo).prev.length ≤ 1073741824 ∧ (onote jo).cur.length ≤ 1073741824 := by
  cases jo with
  | none => exact ⟨by simp [onote], by simp [onote]⟩
  | some j =>
    have hj := h j rfl
    have := noteOk_len hj.1
    have := hj.2.2.1
    show j.n.prev.length ≤ _ ∧ j.n.cur.length ≤ _
    omega
theorem Sat.joIsNone {B w : World} {TJ TI : Nat} {p dp : Option Addr} {jo : Option JSt} {L : List Assn} (hs : Sat B w (JO TJ TI p dp jo :: L)) : p.isNone = jo.isNone := by
  cases jo with
  | none => rw [hs.joNone.1]; rfl
  | some j => obtain ⟨b, rfl, _⟩ := hs.joSome; rfl
theorem dr_new {m : Nat} (h : m ≤ 64) : DR (dnew m) (rnew m) := ⟨alike_new m, fun x hx => by simp [dnew] at hx; obtain ⟨_, rfl⟩ := hx; exact ⟨by simp [IsBytes], by simp⟩, by simp [dnew]; omega, by simp [rnew]⟩
/-- A call of a script. -/
def KOpJ : El (Int × Int × Int × (Option Addr × Nat × Nat) × (Option Addr × Nat × Nat) × Int) := ⟨6, fun o => [.int .i64 o.1, .int .i64 o.2.1, .int .i64 o.2.2.1, .slice o.2.2.2.1.1 o.2.2.2.1.2.1 o.2.2.2.1.2.2, .slice o.2.2.2.2.1.1 o.2.2.2.2.1.2.1 o.2.2.2.2.1.2.2, .int .i64 o.2.2.2.2.2], (0, 0, 0, (none, 0, 0), (none, 0, 0), 0), fun _ => rfl⟩
def OpJOk (w : World) (x : Int × Int × Int × (Option Addr × Nat × Nat) × (Option Addr × Nat × Nat) × Int) : Prop := (x.2.1 ≤ 9223372036854775807) ∧ (∃ l, Rd w x.2.2.2.1.1 x.2.2.2.1.2.1 x.2.2.2.1.2.2 1 (KI.flat l)) ∧ (∃ l, Rd w x.2.2.2.2.1.1 x.2.2.2.2.1.2.1 x.2.2.2.2.1.2.2 1 (KI.flat l)) ∧ x.2.2.2.1.2.1 ≤ 140737488351232 ∧ x.2.2.2.2.1.2.1 ≤ 140737488351232
theorem Sat.swap3 {B w : World} {X Y Z : Assn} {L : List Assn} (hs : Sat B w (X :: Y :: Z :: L)) : Sat B w (Z :: X :: Y :: L) := hs.front 2 rfl
theorem SaveO_c (B w : World) (L : List Assn) (p : Option Addr) (b : Nat) (jo : Option JSt) (d : DSt) (hok : ∀ x ∈ d.bl, IsBytes x ∧ x.length ≤ 1024) (hs : Sat B w (JO 98 3 p (some ⟨b, 0, none⟩) jo :: DiskA 85 31 5 b d :: L)) (hjo : OOk jo) (n : NSt) (Np : Option Addr) (np : Nat) (Nc : Option Addr) (nc : Nat) (hrp : ∀ w' X, Sat B w' (X :: L) → Rd w' Np n.prev.length np 1 (KI.flat n.prev)) (hrc : ∀ w' X, Sat B w' (X :: L) → Rd w' Nc n.cur.length nc 1 (KI.flat n.cur)) (hzn : n.prev.length ≤ 9223372036854775807 ∧ n.cur.length ≤ 9223372036854775807) :
    Calls Try.prog 35 [.pointer p, .agg #[.int .i64 n.batch, .slice Np n.prev.length np, .slice Nc n.cur.length nc, .int .i64 n.att]].toArray w (Ret (fun v' w' => v' = .int .i64 (osave jo d n).1 ∧ Sat B w' (JO 98 3 p (some ⟨b, 0, none⟩) (osave jo d n).2.1 :: DiskA 85 31 5 b (osave jo d n).2.2 :: L))) := by
  cases jo with
  | none =>
    obtain ⟨rfl, h9⟩ := hs.joNone
    exact (Save_nil w n.batch Np n.prev.length np Nc n.cur.length nc n.att).mono fun e w' ⟨v, he, hv, h1⟩ => ⟨v, he, hv, by have h2 := hs.trans h1; simp only [List.nil_append] at h2; exact h2⟩
  | some j =>
    obtain ⟨bj, rfl, h9⟩ := hs.joSome
    exact (Save_c B w L bj b j d h9 (hjo j rfl) hok n Np np Nc nc hrp hrc hzn).mono fun e w' ⟨v, he, hv, h1⟩ => ⟨v, he, hv, h1.toJoSome⟩
theorem NoteO_c (B w : World) (L : List Assn) (p dp : Option Addr) (jo : Option JSt) (hs : Sat B w (JO 98 3 p dp jo :: L)) (hjo : OOk jo) :
    Calls Try.prog 33 [.pointer p].toArray w (Ret (fun v' w' => ∃ Ap cp Ac cc, v' = .agg #[.int .i64 (onote jo).batch, .slice Ap (onote jo).prev.length cp, .slice Ac (onote jo).cur.length cc, .int .i64 (onote jo).att] ∧ Sat B w' (Own 3 1 (.slice Ap (onote jo).prev.length cp) (onote jo).prev.length (KI.flat (onote jo).prev) :: Own 3 1 (.slice Ac (onote jo).cur.length cc) (onote jo).cur.length (KI.flat (onote jo).cur) :: JO 98 3 p dp jo :: L))) := by
  cases jo with
  | none =>
    obtain ⟨rfl, h9⟩ := hs.joNone
    exact (Note_nil w).mono fun e w' ⟨v, he, hv, h1⟩ => ⟨v, he, none, 0, none, 0, hv, by have h2 := hs.trans h1; exact (Sat.own_nil (Sat.own_nil (show Sat B w' (JO 98 3 none dp none :: L) by simpa using h2) 3 1) 3 1)⟩
  | some j =>
    obtain ⟨bj, rfl, h9⟩ := hs.joSome
    exact (Note_c B w L bj dp j h9 (onote_len hjo)).mono fun e w' ⟨v, he, Ap, cp, Ac, cc, hv, h1⟩ => ⟨v, he, Ap, cp, Ac, cc, hv, by
      have h2 := Sat.toJoSome (h1.front 2 rfl)
      exact (h2.front 2 rfl).front 2 rfl⟩
theorem EndedO_c (B w : World) (L : List Assn) (p dp : Option Addr) (jo : Option JSt) (hs : Sat B w (JO 98 3 p dp jo :: L)) :
    Calls Try.prog 45 [.pointer p].toArray w (Ret (fun v' w' => w = w' ∧ v' = .bool (oend jo))) := by
  cases jo with
  | none =>
    obtain ⟨rfl, h9⟩ := hs.joNone
    exact Ended_nil w
  | some j =>
    obtain ⟨bj, rfl, h9⟩ := hs.joSome
    obtain ⟨Ap, cp, Ac, cc, hq⟩ := h9.jopen
    exact Ended_c w bj dp j Ap cp Ac cc (hq.is_at 0 rfl).2
theorem FormatO_c (B w : World) (L : List Assn) (b : Nat) (d : DSt) (hok : ∀ x ∈ d.bl, IsBytes x ∧ x.length ≤ 1024) (hs : Sat B w (DiskA 85 31 5 b d :: L)) (parts : Int) :
    Calls Try.prog 32 [.pointer (some ⟨b, 0, none⟩), .int .i64 parts].toArray w (Ret (fun v' w' => ∃ q, v' = .tuple #[.pointer q, .int .i64 (jformat d parts).1] ∧ Sat B w' (JO 98 3 q (some ⟨b, 0, none⟩) (jformat d parts).2.1 :: DiskA 85 31 5 b (jformat d parts).2.2 :: L))) := by
  by_cases h : parts < 1 ∨ 4 < parts
  · have e : jformat d parts = (1, none, d) := by unfold jformat; rw [if_pos h]
    rw [e]
    exact (Format_bad w b parts h).mono fun e w' ⟨v, he, hw, hv⟩ => ⟨v, he, none, hv, by subst hw; exact hs.toJoNone⟩
  · obtain ⟨m, rfl⟩ : ∃ m : Nat, parts = (m : Int) := ⟨parts.toNat, by omega⟩
    exact Format_g B w L b d hs hok m (by omega) (by omega)
theorem OpenO_c (B w : World) (L : List Assn) (b : Nat) (d : DSt) (hok : ∀ x ∈ d.bl, IsBytes x ∧ x.length ≤ 1024) (hl : 1 ≤ d.bl.length) (hs : Sat B w (DiskA 85 31 5 b d :: L)) (parts : Int) :
    Calls Try.prog 37 [.pointer (some ⟨b, 0, none⟩), .int .i64 parts].toArray w (Ret (fun v' w' => ∃ q, v' = .tuple #[.pointer q, .int .i64 (jopen d parts).1] ∧ Sat B w' (JO 98 3 q (some ⟨b, 0, none⟩) (jopen d parts).2.1 :: DiskA 85 31 5 b (jopen d parts).2.2 :: L))) := by
  by_cases h : parts < 1 ∨ 4 < parts
  · have e : jopen d parts = (1, none, d) := by unfold jopen; rw [if_pos h]
    rw [e]
    exact (Open_bad w b parts h).mono fun e w' ⟨v, he, hw, hv⟩ => ⟨v, he, none, hv, by subst hw; exact hs.toJoNone⟩
  · obtain ⟨m, rfl⟩ : ∃ m : Nat, parts = (m : Int) := ⟨parts.toNat, by omega⟩
    exact Open_g B w L b d hs hok hl m (by omega) (by omega)
theorem rSaveO_c (B w : World) (L : List Assn) (p : Option Addr) (b : Nat) (jo : Option JSt) (r : RSt) (d : DSt) (hdr : DR d r) (hs : Sat B w (JO 107 3 p (some ⟨b, 0, none⟩) jo :: RefA 92 31 5 b r :: L)) (hjo : OOk jo) (n : NSt) (Np : Option Addr) (np : Nat) (Nc : Option Addr) (nc : Nat) (hrp : ∀ w' X, Sat B w' (X :: L) → Rd w' Np n.prev.length np 1 (KI.flat n.prev)) (hrc : ∀ w' X, Sat B w' (X :: L) → Rd w' Nc n.cur.length nc 1 (KI.flat n.cur)) (hzn : n.prev.length ≤ 9223372036854775807 ∧ n.cur.length ≤ 9223372036854775807) :
    Calls Try.prog 39 [.pointer p, .agg #[.int .i64 n.batch, .slice Np n.prev.length np, .slice Nc n.cur.length nc, .int .i64 n.att]].toArray w (Ret (fun v' w' => v' = .int .i64 (rosave jo r n).1 ∧ Sat B w' (JO 107 3 p (some ⟨b, 0, none⟩) (rosave jo r n).2.1 :: RefA 92 31 5 b (rosave jo r n).2.2 :: L))) := by
  cases jo with
  | none =>
    obtain ⟨rfl, h9⟩ := hs.joNone
    exact (rSave_nil w n.batch Np n.prev.length np Nc n.cur.length nc n.att).mono fun e w' ⟨v, he, hv, h1⟩ => ⟨v, he, hv, by have h2 := hs.trans h1; simp only [List.nil_append] at h2; exact h2⟩
  | some j =>
    obtain ⟨bj, rfl, h9⟩ := hs.joSome
    exact (rSave_c B w L bj b j d r h9 (hjo j rfl) hdr n Np np Nc nc hrp hrc hzn).mono fun e w' ⟨v, he, hv, h1⟩ => ⟨v, he, hv, h1.toJoSome⟩
theorem rNoteO_c (B w : World) (L : List Assn) (p dp : Option Addr) (jo : Option JSt) (hs : Sat B w (JO 107 3 p dp jo :: L)) (hjo : OOk jo) :
    Calls Try.prog 44 [.pointer p].toArray w (Ret (fun v' w' => ∃ Ap cp Ac cc, v' = .agg #[.int .i64 (onote jo).batch, .slice Ap (onote jo).prev.length cp, .slice Ac (onote jo).cur.length cc, .int .i64 (onote jo).att] ∧ Sat B w' (Own 3 1 (.slice Ap (onote jo).prev.length cp) (onote jo).prev.length (KI.flat (onote jo).prev) :: Own 3 1 (.slice Ac (onote jo).cur.length cc) (onote jo).cur.length (KI.flat (onote jo).cur) :: JO 107 3 p dp jo :: L))) := by
  cases jo with
  | none =>
    obtain ⟨rfl, h9⟩ := hs.joNone
    exact (rNote_nil w).mono fun e w' ⟨v, he, hv, h1⟩ => ⟨v, he, none, 0, none, 0, hv, by have h2 := hs.trans h1; exact (Sat.own_nil (Sat.own_nil (show Sat B w' (JO 107 3 none dp none :: L) by simpa using h2) 3 1) 3 1)⟩
  | some j =>
    obtain ⟨bj, rfl, h9⟩ := hs.joSome
    exact (rNote_c B w L bj dp j h9 (onote_len hjo)).mono fun e w' ⟨v, he, Ap, cp, Ac, cc, hv, h1⟩ => ⟨v, he, Ap, cp, Ac, cc, hv, by
      have h2 := Sat.toJoSome (h1.front 2 rfl)
      exact (h2.front 2 rfl).front 2 rfl⟩
theorem rEndedO_c (B w : World) (L : List Assn) (p dp : Option Addr) (jo : Option JSt) (hs : Sat B w (JO 107 3 p dp jo :: L)) :
    Calls Try.prog 46 [.pointer p].toArray w (Ret (fun v' w' => w = w' ∧ v' = .bool (oend jo))) := by
  cases jo with
  | none =>
    obtain ⟨rfl, h9⟩ := hs.joNone
    exact rEnded_nil w
  | some j =>
    obtain ⟨bj, rfl, h9⟩ := hs.joSome
    obtain ⟨Ap, cp, Ac, cc, hq⟩ := h9.jopen
    exact rEnded_c w bj dp j Ap cp Ac cc (hq.is_at 0 rfl).2
theorem rFormatO_c (B w : World) (L : List Assn) (b : Nat) (r : RSt) (d : DSt) (hdr : DR d r) (hs : Sat B w (RefA 92 31 5 b r :: L)) (parts : Int) :
    Calls Try.prog 38 [.pointer (some ⟨b, 0, none⟩), .int .i64 parts].toArray w (Ret (fun v' w' => ∃ q, v' = .tuple #[.pointer q, .int .i64 (rjformat r parts).1] ∧ Sat B w' (JO 107 3 q (some ⟨b, 0, none⟩) (rjformat r parts).2.1 :: RefA 92 31 5 b (rjformat r parts).2.2 :: L))) := by
  by_cases h : parts < 1 ∨ 4 < parts
  · have e : rjformat r parts = (1, none, r) := by unfold rjformat; rw [if_pos h]
    rw [e]
    exact (rFormat_bad w b parts h).mono fun e w' ⟨v, he, hw, hv⟩ => ⟨v, he, none, hv, by subst hw; exact hs.toJoNone⟩
  · obtain ⟨m, rfl⟩ : ∃ m : Nat, parts = (m : Int) := ⟨parts.toNat, by omega⟩
    exact rFormat_g B w L b d r hs hdr m (by omega) (by omega)
theorem rOpenO_c (B w : World) (L : List Assn) (b : Nat) (r : RSt) (hok : ∀ x ∈ r.bl, IsBytes x ∧ x.length ≤ 1024) (hl : 1 ≤ r.bl.length) (hs : Sat B w (RefA 92 31 5 b r :: L)) (parts : Int) :
    Calls Try.prog 43 [.pointer (some ⟨b, 0, none⟩), .int .i64 parts].toArray w (Ret (fun v' w' => ∃ q, v' = .tuple #[.pointer q, .int .i64 (rjopen r parts).1] ∧ Sat B w' (JO 107 3 q (some ⟨b, 0, none⟩) (rjopen r parts).2.1 :: RefA 92 31 5 b (rjopen r parts).2.2 :: L))) := by
  by_cases h : parts < 1 ∨ 4 < parts
  · have e : rjopen r parts = (1, none, r) := by unfold rjopen; rw [if_pos h]
    rw [e]
    exact (rOpen_bad w b parts h).mono fun e w' ⟨v, he, hw, hv⟩ => ⟨v, he, none, hv, by subst hw; exact hs.toJoNone⟩
  · obtain ⟨m, rfl⟩ : ∃ m : Nat, parts = (m : Int) := ⟨parts.toNat, by omega⟩
    exact rOpen_g B w L b r hs hok hl m (by omega) (by omega)
set_option maxRecDepth 100000 in
set_option maxHeartbeats 1000000 in
theorem JournalExact_bad (w : World) (blocks parts : Int) (A2 : Option Addr) (n2 c2 : Nat) (pl : List (Int × Int × Int × (Option Addr × Nat × Nat) × (Option Addr × Nat × Nat) × Int)) (hr : Rd w A2 n2 c2 6 (KOpJ.flat pl)) (hput : ∀ x ∈ pl, OpJOk w x) (hn2 : n2 ≤ 9223372036854775807) (hbb : blocks < 1 ∨ 64 < blocks) :
    Calls Try.prog 10 [.int .i64 blocks, .int .i64 parts, .slice A2 n2 c2].toArray w (Ret (fun v' w' => v' = .bool true ∧ Below w.heap.size w w')) := by
  have hs := Sat.start w
  have hl : pl.length = n2 := by have := hr.len; rw [El.flat_length] at this; exact Nat.eq_of_mul_eq_mul_right (by decide) this
  refine Calls_body Try.func10 rfl rfl rfl (envE_cons (i := 0) (v := .int .i64 blocks) rfl (envE_cons (i := 1) (v := .int .i64 parts) rfl (envE_cons (i := 2) (v := .slice A2 n2 c2) rfl envE_nil))) ?_
  refine St_seq ?_
  refine St_region ?_
  refine Ls_run (run_assign rfl) rfl ?_
  refine Ls_nil ?_
  refine Jm_seq ?_
  refine St_seq ?_
  refine St_seq ?_
  refine St_region ?_
  refine Ls_call Try.func31 nm31 rfl rfl (awake18_c w) rfl ?_
  rintro v1 w2 ⟨rfl, hsA⟩
  replace hs := hs.trans hsA
  simp only [List.nil_append] at hs
  refine Ls_run (run_not rfl) rfl ?_
  refine Ls_nil ?_
  refine Jm_seq ?_
  refine St_iff rfl ?_
  refine St_skip ?_
  refine Jm_seq ?_
  refine St_seq ?_
  refine St_region ?_
  refine Ls_run (run_move rfl) rfl ?_
  refine Ls_call Try.func32 nm32 rfl rfl (jFormat_nil w2 parts) rfl ?_
  rintro v4 w5 ⟨rfl, rfl⟩
  refine Ls_run (run_move rfl) rfl ?_
  refine Ls_run (run_extract rfl rfl) rfl ?_
  refine Ls_run (run_extract rfl rfl) rfl ?_
  refine Ls_run (run_assign rfl) rfl ?_
  refine Ls_run (run_assign rfl) rfl ?_
  refine Ls_nil ?_
  refine Jm_seq ?_
  refine St_seq ?_
  refine St_region ?_
  refine Ls_run (run_move rfl) rfl ?_
  refine Ls_call Try.func37 nm37 rfl rfl (jOpen_nil w2 parts) rfl ?_
  rintro v6 w7 ⟨rfl, rfl⟩
  refine Ls_run (run_move rfl) rfl ?_
  refine Ls_run (run_extract rfl rfl) rfl ?_
  refine Ls_run (run_extract rfl rfl) rfl ?_
  refine Ls_run (run_assign rfl) rfl ?_
  refine Ls_run (run_assign rfl) rfl ?_
  refine Ls_nil ?_
  refine Jm_seq ?_
  refine St_seq ?_
  refine St_seq ?_
  refine St_region ?_
  refine Ls_run (run_move rfl) rfl ?_
  refine Ls_run (run_asB (c := false) (run_neq rfl rfl) (by decide)) rfl ?_
  refine Ls_run (run_move rfl) rfl ?_
  refine Ls_on rfl rfl ?_
  refine Ls_run (run_move rfl) rfl ?_
  refine Ls_on rfl rfl ?_
  refine Ls_run (run_asB (c := false) (run_neq rfl rfl) (by decide)) rfl ?_
  refine Ls_run (run_pick_f rfl rfl) rfl ?_
  refine Ls_nil ?_
  refine Jm_seq ?_
  refine St_iff rfl ?_
  refine St_skip ?_
  refine Jm_seq ?_
  refine St_seq ?_
  refine St_region ?_
  refine Ls_run (run_move rfl) rfl ?_
  refine Ls_call Try.func13 nm13 rfl rfl (New_bad w2 blocks hbb) rfl ?_
  rintro v9 w10 ⟨rfl, rfl⟩
  refine Ls_run (run_move rfl) rfl ?_
  refine Ls_run (run_extract rfl rfl) rfl ?_
  refine Ls_run (run_extract rfl rfl) rfl ?_
  refine Ls_run (run_assign rfl) rfl ?_
  refine Ls_run (run_assign rfl) rfl ?_
  refine Ls_nil ?_
  refine Jm_seq ?_
  refine St_seq ?_
  refine St_region ?_
  refine Ls_run (run_move rfl) rfl ?_
  refine Ls_call Try.func25 nm25 rfl rfl (rNew_bad w2 blocks hbb) rfl ?_
  rintro v11 w12 ⟨rfl, rfl⟩
  refine Ls_run (run_move rfl) rfl ?_
  refine Ls_run (run_extract rfl rfl) rfl ?_
  refine Ls_run (run_extract rfl rfl) rfl ?_
  refine Ls_run (run_assign rfl) rfl ?_
  refine Ls_run (run_assign rfl) rfl ?_
  refine Ls_nil ?_
  refine Jm_seq ?_
  refine St_seq ?_
  refine St_seq ?_
  refine St_region ?_
  refine Ls_run (run_move rfl) rfl ?_
  refine Ls_run (run_move rfl) rfl ?_
  refine Ls_run (run_asB (c := false) (run_neq rfl rfl) (by decide)) rfl ?_
  refine Ls_run (run_move rfl) rfl ?_
  refine Ls_on rfl rfl ?_
  refine Ls_run (run_move rfl) rfl ?_
  refine Ls_on rfl rfl ?_
  refine Ls_run (run_asB (c := true) (run_neq rfl rfl) (by decide)) rfl ?_
  refine Ls_run (run_pick_f rfl rfl) rfl ?_
  refine Ls_nil ?_
  refine Jm_seq ?_
  refine St_ift rfl ?_
  refine St_seq ?_
  refine St_region ?_
  refine Ls_run (run_move rfl) rfl ?_
  refine Ls_run (run_move rfl) rfl ?_
  refine Ls_run (run_asB (c := true) (run_eql rfl rfl) (by decide)) rfl ?_
  refine Ls_run (run_assign rfl) rfl ?_
  refine Ls_nil ?_
  refine Jm_seq ?_
  refine St_ret ?_
  refine Jm_then_ret  ?_
  refine Jm_ret1 rfl rfl ?_
  exact ⟨_, rfl, rfl, hs.below⟩
theorem dwrite_len (d : DSt) (i : Int) (b : List Int) : (dwrite d i b).2.bl.length = d.bl.length := by
  rcases dwrite_bl d i b with e | ⟨e, _⟩ <;> rw [e]
  rw [List.length_set]
theorem jopen_len (d : DSt) (parts : Int) : (jopen d parts).2.2.bl.length = d.bl.length := by
  unfold jopen
  split
  · rfl
  · split
    · rfl
    · split
      · rfl
      · split <;> (show (dread_k d _).bl.length = _; rw [(dread_k_same d _).1])
theorem jformat_len (d : DSt) (parts : Int) : (jformat d parts).2.2.bl.length = d.bl.length := by
  unfold jformat
  split
  · rfl
  · split
    · rfl
    · split
      · exact dwrite_len _ _ _
      · split
        · rw [dwrite_len, dwrite_len]
        · rw [dwrite_len, dwrite_len]
theorem osave_len (jo : Option JSt) (d : DSt) (n : NSt) : (osave jo d n).2.2.bl.length = d.bl.length := by
  cases jo with
  | none => rfl
  | some j =>
    show (jsave j d n).2.2.bl.length = _
    unfold jsave
    split
    · rfl
    · split
      · rfl
      · split
        · rfl
        · split
          · rfl
          · split
            · exact dwrite_len _ _ _
            · exact dwrite_len _ _ _
set_option maxRecDepth 100000 in
set_option maxHeartbeats 1000000 in
theorem JournalExact_ok (w : World) (parts : Int) (A2 : Option Addr) (n2 c2 : Nat) (pl : List (Int × Int × Int × (Option Addr × Nat × Nat) × (Option Addr × Nat × Nat) × Int)) (hr : Rd w A2 n2 c2 6 (KOpJ.flat pl)) (hput : ∀ x ∈ pl, OpJOk w x) (hn2 : n2 ≤ 9223372036854775807) (m : Nat) (hm1 : 1 ≤ m) (hm2 : m ≤ 64) :
    Calls Try.prog 10 [.int .i64 (m : Int), .int .i64 parts, .slice A2 n2 c2].toArray w (Ret (fun v' w' => v' = .bool true ∧ Below w.heap.size w w')) := by
  have hs := Sat.start w
  have hl : pl.length = n2 := by have := hr.len; rw [El.flat_length] at this; exact Nat.eq_of_mul_eq_mul_right (by decide) this
  refine Calls_body Try.func10 rfl rfl rfl (envE_cons (i := 0) (v := .int .i64 (m : Int)) rfl (envE_cons (i := 1) (v := .int .i64 parts) rfl (envE_cons (i := 2) (v := .slice A2 n2 c2) rfl envE_nil))) ?_
  refine St_seq ?_
  refine St_region ?_
  refine Ls_run (run_assign rfl) rfl ?_
  refine Ls_nil ?_
  refine Jm_seq ?_
  refine St_seq ?_
  refine St_seq ?_
  refine St_region ?_
  refine Ls_call Try.func31 nm31 rfl rfl (awake18_c w) rfl ?_
  rintro v1 w2 ⟨rfl, hsA⟩
  replace hs := hs.trans hsA
  simp only [List.nil_append] at hs
  refine Ls_run (run_not rfl) rfl ?_
  refine Ls_nil ?_
  refine Jm_seq ?_
  refine St_iff rfl ?_
  refine St_skip ?_
  refine Jm_seq ?_
  refine St_seq ?_
  refine St_region ?_
  refine Ls_run (run_move rfl) rfl ?_
  refine Ls_call Try.func32 nm32 rfl rfl (jFormat_nil w2 parts) rfl ?_
  rintro v4 w5 ⟨rfl, rfl⟩
  refine Ls_run (run_move rfl) rfl ?_
  refine Ls_run (run_extract rfl rfl) rfl ?_
  refine Ls_run (run_extract rfl rfl) rfl ?_
  refine Ls_run (run_assign rfl) rfl ?_
  refine Ls_run (run_assign rfl) rfl ?_
  refine Ls_nil ?_
  refine Jm_seq ?_
  refine St_seq ?_
  refine St_region ?_
  refine Ls_run (run_move rfl) rfl ?_
  refine Ls_call Try.func37 nm37 rfl rfl (jOpen_nil w2 parts) rfl ?_
  rintro v6 w7 ⟨rfl, rfl⟩
  refine Ls_run (run_move rfl) rfl ?_
  refine Ls_run (run_extract rfl rfl) rfl ?_
  refine Ls_run (run_extract rfl rfl) rfl ?_
  refine Ls_run (run_assign rfl) rfl ?_
  refine Ls_run (run_assign rfl) rfl ?_
  refine Ls_nil ?_
  refine Jm_seq ?_
  refine St_seq ?_
  refine St_seq ?_
  refine St_region ?_
  refine Ls_run (run_move rfl) rfl ?_
  refine Ls_run (run_asB (c := false) (run_neq rfl rfl) (by decide)) rfl ?_
  refine Ls_run (run_move rfl) rfl ?_
  refine Ls_on rfl rfl ?_
  refine Ls_run (run_move rfl) rfl ?_
  refine Ls_on rfl rfl ?_
  refine Ls_run (run_asB (c := false) (run_neq rfl rfl) (by decide)) rfl ?_
  refine Ls_run (run_pick_f rfl rfl) rfl ?_
  refine Ls_nil ?_
  refine Jm_seq ?_
  refine St_iff rfl ?_
  refine St_skip ?_
  refine Jm_seq ?_
  refine St_seq ?_
  refine St_region ?_
  refine Ls_run (run_move rfl) rfl ?_
  refine Ls_call Try.func13 nm13 rfl rfl (New_c w2 m hm1 hm2) rfl ?_
  rintro v9 w10 ⟨b0, rfl, hsD⟩
  replace hs := hs.trans hsD
  simp only [List.cons_append, List.nil_append] at hs
  refine Ls_run (run_move rfl) rfl ?_
  refine Ls_run (run_extract rfl rfl) rfl ?_
  refine Ls_run (run_extract rfl rfl) rfl ?_
  refine Ls_run (run_assign rfl) rfl ?_
  refine Ls_run (run_assign rfl) rfl ?_
  refine Ls_nil ?_
  refine Jm_seq ?_
  refine St_seq ?_
  refine St_region ?_
  refine Ls_run (run_move rfl) rfl ?_
  refine Ls_call Try.func25 nm25 rfl rfl (rNew_c w10 m hm1 hm2) rfl ?_
  rintro v11 w12 ⟨b1, rfl, hsD⟩
  replace hs := hs.trans hsD
  simp only [List.cons_append, List.nil_append] at hs
  have hdr0 := dr_new (m := m) hm2
  refine Ls_run (run_move rfl) rfl ?_
  refine Ls_run (run_extract rfl rfl) rfl ?_
  refine Ls_run (run_extract rfl rfl) rfl ?_
  refine Ls_run (run_assign rfl) rfl ?_
  refine Ls_run (run_assign rfl) rfl ?_
  refine Ls_nil ?_
  refine Jm_seq ?_
  refine St_seq ?_
  refine St_seq ?_
  refine St_region ?_
  refine Ls_run (run_move rfl) rfl ?_
  refine Ls_run (run_move rfl) rfl ?_
  refine Ls_run (run_asB (c := false) (run_neq rfl rfl) (by decide)) rfl ?_
  refine Ls_run (run_move rfl) rfl ?_
  refine Ls_on rfl rfl ?_
  refine Ls_run (run_move rfl) rfl ?_
  refine Ls_on rfl rfl ?_
  refine Ls_run (run_asB (c := false) (run_neq rfl rfl) (by decide)) rfl ?_
  refine Ls_run (run_pick_f rfl rfl) rfl ?_
  refine Ls_nil ?_
  refine Jm_seq ?_
  refine St_iff rfl ?_
  refine St_skip ?_
  refine Jm_seq ?_
  refine St_seq ?_
  refine St_region ?_
  refine Ls_run (run_move rfl) rfl ?_
  refine Ls_run (run_move rfl) rfl ?_
  replace hs := hs.front 1 rfl
  simp only [List.cons_append, List.nil_append, List.eraseIdx_cons_zero, List.eraseIdx_cons_succ] at hs
  refine Ls_call Try.func32 nm32 rfl rfl (FormatO_c w w12 _ b0 (dnew m) hdr0.2.1 hs parts) rfl ?_
  rintro v14 w15 ⟨p0, rfl, hs⟩
  refine Ls_run (run_move rfl) rfl ?_
  refine Ls_run (run_extract rfl rfl) rfl ?_
  refine Ls_run (run_extract rfl rfl) rfl ?_
  refine Ls_run (run_assign rfl) rfl ?_
  refine Ls_run (run_assign rfl) rfl ?_
  refine Ls_nil ?_
  refine Jm_seq ?_
  refine St_seq ?_
  refine St_region ?_
  refine Ls_run (run_move rfl) rfl ?_
  refine Ls_run (run_move rfl) rfl ?_
  replace hs := hs.front 2 rfl
  simp only [List.cons_append, List.nil_append, List.eraseIdx_cons_zero, List.eraseIdx_cons_succ] at hs
  refine Ls_call Try.func38 nm38 rfl rfl (rFormatO_c w w15 _ b1 (rnew m) (dnew m) hdr0 hs parts) rfl ?_
  rintro v16 w17 ⟨q0, rfl, hs⟩
  have hfs0 := format_same (parts := parts) hdr0
  rw [← hfs0.2.1] at hs
  have hpn0 : p0.isNone = q0.isNone := by rw [(hs.front 2 rfl).joIsNone, (hs.front 0 rfl).joIsNone]
  refine Ls_run (run_move rfl) rfl ?_
  refine Ls_run (run_extract rfl rfl) rfl ?_
  refine Ls_run (run_extract rfl rfl) rfl ?_
  refine Ls_run (run_assign rfl) rfl ?_
  refine Ls_run (run_assign rfl) rfl ?_
  refine Ls_nil ?_
  refine Jm_seq ?_
  refine St_seq ?_
  refine St_seq ?_
  refine St_region ?_
  refine Ls_run (run_move rfl) rfl ?_
  refine Ls_run (run_move rfl) rfl ?_
  refine Ls_run (run_asB (c := false) (run_neq rfl rfl) (by rw [hfs0.1]; simp)) rfl ?_
  refine Ls_run (run_move rfl) rfl ?_
  refine Ls_on rfl rfl ?_
  refine Ls_run (run_move rfl) rfl ?_
  refine Ls_on rfl rfl ?_
  refine Ls_run (run_eql_ptr_nil Try.underlying59 rfl rfl) rfl ?_
  refine Ls_on rfl rfl ?_
  refine Ls_run (run_move rfl) rfl ?_
  refine Ls_on rfl rfl ?_
  refine Ls_run (run_eql_ptr_nil Try.underlying76 rfl rfl) rfl ?_
  refine Ls_on rfl rfl ?_
  refine Ls_run (run_asB (c := false) (run_neq_bool Try.underlying4 rfl rfl) (by rw [hpn0]; simp)) rfl ?_
  refine Ls_run (run_pick_f rfl rfl) rfl ?_
  refine Ls_nil ?_
  refine Jm_seq ?_
  refine St_iff rfl ?_
  refine St_skip ?_
  refine Jm_seq ?_
  refine St_seq ?_
  refine St_seq ?_
  refine St_region ?_
  refine Ls_run (run_assign rfl) rfl ?_
  refine Ls_nil ?_
  refine Jm_seq ?_
  refine St_block ?_
  replace hs := hs.front 1 rfl
  simp only [List.cons_append, List.nil_append, List.eraseIdx_cons_zero, List.eraseIdx_cons_succ] at hs
  replace hs := hs.front 3 rfl
  simp only [List.cons_append, List.nil_append, List.eraseIdx_cons_zero, List.eraseIdx_cons_succ] at hs
  replace hs := hs.front 2 rfl
  simp only [List.cons_append, List.nil_append, List.eraseIdx_cons_zero, List.eraseIdx_cons_succ] at hs
  replace hs := hs.front 3 rfl
  simp only [List.cons_append, List.nil_append, List.eraseIdx_cons_zero, List.eraseIdx_cons_succ] at hs
  obtain ⟨En19, hEn19⟩ : ∃ F : Nat × Option Addr × Option Addr → Env, ∀ (i : Nat) (pj : Option Addr) (qj : Option Addr), F (i, pj, qj) = [(1, .int .i64 parts), (2, .slice A2 n2 c2), (11, .pointer (some ⟨b0, 0, none⟩)), (12, .pointer (some ⟨b1, 0, none⟩)), (13, .pointer pj), (14, .pointer qj), (15, .int .i64 (i : Int))] := ⟨(fun (s : Nat × Option Addr × Option Addr) => match s with | (i, pj, qj) => [(1, .int .i64 parts), (2, .slice A2 n2 c2), (11, .pointer (some ⟨b0, 0, none⟩)), (12, .pointer (some ⟨b1, 0, none⟩)), (13, .pointer pj), (14, .pointer qj), (15, .int .i64 (i : Int))]), fun _ _ _ => rfl⟩
  obtain ⟨Iv20, hIv20⟩ : ∃ F : Nat × Option Addr × Option Addr → World → Prop, ∀ (i : Nat) (pj : Option Addr) (qj : Option Addr) (wr : World), F (i, pj, qj) wr = (∃ jo d r, Sat w wr [JO 98 3 pj (some ⟨b0, 0, none⟩) jo, JO 107 3 qj (some ⟨b1, 0, none⟩) jo, DiskA 85 31 5 b0 d, RefA 92 31 5 b1 r] ∧ DR d r ∧ 1 ≤ d.bl.length ∧ OOk jo ∧ i ≤ n2) := ⟨(fun (s : Nat × Option Addr × Option Addr) => match s with | (i, pj, qj) => fun (wr : World) => ∃ jo d r, Sat w wr [JO 98 3 pj (some ⟨b0, 0, none⟩) jo, JO 107 3 qj (some ⟨b1, 0, none⟩) jo, DiskA 85 31 5 b0 d, RefA 92 31 5 b1 r] ∧ DR d r ∧ 1 ≤ d.bl.length ∧ OOk jo ∧ i ≤ n2), fun _ _ _ _ => rfl⟩
  obtain ⟨ms21, hms21⟩ : ∃ F : Nat × Option Addr × Option Addr → Nat, ∀ (i : Nat) (pj : Option Addr) (qj : Option Addr), F (i, pj, qj) = (n2 - i) := ⟨(fun (s : Nat × Option Addr × Option Addr) => match s with | (i, pj, qj) => n2 - i), fun _ _ _ => rfl⟩
  refine St_loop En19 Iv20 ms21 (0, p0, q0) ?_ ?_ ?_
  · skip
    rw [hIv20]
    exact ⟨_, _, _, hs, hfs0.2.2, (by rw [jformat_len]; simp [dnew]; omega), (fun j hj => jformat_keeps hj), by omega⟩
  · rw [hEn19]; exact (subE_cons rfl (subE_cons rfl (subE_cons rfl (subE_cons rfl (subE_cons rfl (subE_cons rfl (subE_cons rfl subE_nil)))))))
  rintro ⟨i, pj, qj⟩ wr hI22
  rw [hIv20] at hI22
  obtain ⟨jo, d, r, hs, hdr, hdl, hjo, hi⟩ := hI22
  refine St_eqE (hEn19 _ _ _) ?_
  refine St_seq ?_
  refine St_seq ?_
  refine St_region ?_
  refine Ls_run (run_move rfl) rfl ?_
  refine Ls_run (run_move rfl) rfl ?_
  refine Ls_run (run_len Try.underlying75 rfl) rfl ?_
  refine Ls_run (run_lss rfl rfl) rfl ?_
  refine Ls_nil ?_
  refine Jm_seq ?_
  refine St_ifP rfl (fun h23 => ?_) (fun h23 => ?_)
  · skip
    refine St_skip ?_
    refine Jm_seq ?_
    refine St_seq ?_
    refine St_block ?_
    refine St_seq ?_
    refine St_region ?_
    refine Ls_run (run_move rfl) rfl ?_
    refine Ls_run (run_move rfl) rfl ?_
    obtain ⟨⟨kd, nn, bt, ⟨Np, ln, np⟩, ⟨Nc, lm, nc⟩, at_⟩, ho⟩ : ∃ o, pl.getD i (0, 0, 0, (none, 0, 0), (none, 0, 0), 0) = o := ⟨_, rfl⟩
    have hmem : (kd, nn, bt, (Np, ln, np), (Nc, lm, nc), at_) ∈ pl := by rw [← ho]; exact getElem_mem3 (by omega)
    obtain ⟨hnn, ⟨lp, hrp⟩, ⟨lc, hrc⟩, hz1, hz2⟩ := hput _ hmem
    simp only at hnn hrp hrc hz1 hz2
    have hlp := lenKI hrp
    have hlc := lenKI hrc
    subst hlp
    subst hlc
    refine Ls_index (KOpJ) (hr.inB hs) Try.underlying75 inf80 rfl rfl (by omega) (by omega) ho rfl ?_
    intro b24 o25 hc26
    refine Ls_run (run_as (run_load_agg agg80 inf80 rfl rfl hc26) (show _ = Value.agg #[.int .i64 kd, .int .i64 nn, .int .i64 bt, .slice Np lp.length np, .slice Nc lc.length nc, .int .i64 at_] from rfl)) rfl ?_
    refine Ls_alloc hs inf80 rfl ?_
    intro b28 w27 hs
    refine Ls_storeAgg hs inf80 rfl rfl rfl rfl (by simp [Value.oneCell', Value.cells, jcells]) ?_
    intro w29 hs
    refine Ls_nil ?_
    refine Jm_seq ?_
    refine St_seq ?_
    refine St_seq ?_
    refine St_region ?_
    refine Ls_run (run_as (run_field Try.underlying80 rfl inf3 (by decide) rfl) (show _ = Value.pointer (some ⟨b28, 0, none⟩) from rfl)) rfl ?_
    refine Ls_run (run_load sc3 rfl (hs.blk_at 0 rfl 0 rfl)) rfl ?_
    refine Ls_nil ?_
    refine Jm_seq ?_
    refine St_block ?_
    refine St_seq ?_
    refine St_region ?_
    refine Ls_run (run_eql rfl rfl) rfl ?_
    refine Ls_run (run_assign rfl) rfl ?_
    refine Ls_nil ?_
    refine Jm_seq ?_
    obtain ⟨En30, hEn30⟩ : ∃ F : Option Addr × Option Addr → Env, ∀ (p9 : Option Addr) (q9 : Option Addr), F (p9, q9) = [(1, .int .i64 parts), (2, .slice A2 n2 c2), (11, .pointer (some ⟨b0, 0, none⟩)), (12, .pointer (some ⟨b1, 0, none⟩)), (13, .pointer p9), (14, .pointer q9), (15, .int .i64 (i : Int))] := ⟨(fun (s : Option Addr × Option Addr) => match s with | (p9, q9) => [(1, .int .i64 parts), (2, .slice A2 n2 c2), (11, .pointer (some ⟨b0, 0, none⟩)), (12, .pointer (some ⟨b1, 0, none⟩)), (13, .pointer p9), (14, .pointer q9), (15, .int .i64 (i : Int))]), fun _ _ => rfl⟩
    obtain ⟨Iv31, hIv31⟩ : ∃ F : Option Addr × Option Addr → World → Prop, ∀ (p9 : Option Addr) (q9 : Option Addr) (w32 : World), F (p9, q9) w32 = (∃ jo d r, Sat w w32 [JO 98 3 p9 (some ⟨b0, 0, none⟩) jo, JO 107 3 q9 (some ⟨b1, 0, none⟩) jo, DiskA 85 31 5 b0 d, RefA 92 31 5 b1 r] ∧ DR d r ∧ 1 ≤ d.bl.length ∧ OOk jo) := ⟨(fun (s : Option Addr × Option Addr) => match s with | (p9, q9) => fun (w32 : World) => ∃ jo d r, Sat w w32 [JO 98 3 p9 (some ⟨b0, 0, none⟩) jo, JO 107 3 q9 (some ⟨b1, 0, none⟩) jo, DiskA 85 31 5 b0 d, RefA 92 31 5 b1 r] ∧ DR d r ∧ 1 ≤ d.bl.length ∧ OOk jo), fun _ _ _ => rfl⟩
    refine St_join En30 Iv31 ?_ ?_
    · skip
      refine St_ifP rfl (fun h33 => ?_) (fun h33 => ?_)
      · skip
        refine St_seq ?_
        refine St_hold (Hold.of (Ls := [_]) hs) mixed ?_
        intro w34 q35
        replace hs := hs.quiet q35
        have hH := Hold.of (Ls := [_]) hs
        refine An_take 0 rfl (by kernel_rfl) (by kernel_rfl) (by kernel_rfl) (fun _ _ _ h => h) hH (fun x hx => run_move rfl) rfl ?_
        refine An_take 1 rfl (by kernel_rfl) (by kernel_rfl) (by kernel_rfl) (fun _ _ _ h => h) hH (fun x hx => run_as (run_field Try.underlying80 rfl inf66 (by decide) rfl) (show _ = Value.pointer (some ⟨b28, 2, none⟩) from rfl)) rfl ?_
        refine An_take 2 rfl (by kernel_rfl) (by kernel_rfl) (by kernel_rfl) (fun _ _ _ h => h) hH (fun x hx => run_load_agg agg66 inf66 rfl rfl (hx.choose_spec.blk_cells 0 rfl 2 4)) rfl ?_
        refine An_take 4 rfl (by kernel_rfl) (by kernel_rfl) (by kernel_rfl) (fun _ _ _ h => h) hH (fun x hx => run_move rfl) rfl ?_
        refine An_take 5 rfl (by kernel_rfl) (by kernel_rfl) (by kernel_rfl) (fun _ _ _ h => h) hH (fun x hx => run_as (run_field Try.underlying80 rfl inf66 (by decide) rfl) (show _ = Value.pointer (some ⟨b28, 2, none⟩) from rfl)) rfl ?_
        refine An_take 6 rfl (by kernel_rfl) (by kernel_rfl) (by kernel_rfl) (fun _ _ _ h => h) hH (fun x hx => run_load_agg agg66 inf66 rfl rfl (hx.choose_spec.blk_cells 0 rfl 2 4)) rfl ?_
        refine An_only 3 (by kernel_rfl) rfl ?_
        replace hs := hs.front 3 rfl
        simp only [List.cons_append, List.nil_append, List.eraseIdx_cons_zero, List.eraseIdx_cons_succ] at hs
        replace hs := hs.front 2 rfl
        simp only [List.cons_append, List.nil_append, List.eraseIdx_cons_zero, List.eraseIdx_cons_succ] at hs
        refine Ls_call Try.func35 nm35 rfl rfl (SaveO_c w w34 _ pj b0 jo d hdr.2.1 hs hjo ⟨bt, lp, lc, at_⟩ Np np Nc nc (fun w' X q => hrp.inB q) (fun w' X q => hrc.inB q) (show lp.length ≤ _ ∧ lc.length ≤ _ by omega)) rfl ?_
        rintro v36 w37 ⟨rfl, hs⟩
        replace hs := hs.front 2 rfl
        simp only [List.cons_append, List.nil_append, List.eraseIdx_cons_zero, List.eraseIdx_cons_succ] at hs
        replace hH := Hold.of (Ls := [_]) hs
        refine Ls_nil (Jm_An hH ?_)
        refine An_only 7 (by kernel_rfl) rfl ?_
        replace hs := hs.front 4 rfl
        simp only [List.cons_append, List.nil_append, List.eraseIdx_cons_zero, List.eraseIdx_cons_succ] at hs
        replace hs := hs.front 4 rfl
        simp only [List.cons_append, List.nil_append, List.eraseIdx_cons_zero, List.eraseIdx_cons_succ] at hs
        refine Ls_call Try.func39 nm39 rfl rfl (rSaveO_c w w37 _ qj b1 jo r d hdr hs hjo ⟨bt, lp, lc, at_⟩ Np np Nc nc (fun w' X q => hrp.inB q) (fun w' X q => hrc.inB q) (show lp.length ≤ _ ∧ lc.length ≤ _ by omega)) rfl ?_
        rintro v38 w39 ⟨rfl, hs⟩
        have hsv := osave_same (jo := jo) (n := ⟨bt, lp, lc, at_⟩) hdr
        rw [← hsv.2.1] at hs
        replace hs := hs.front 2 rfl
        simp only [List.cons_append, List.nil_append, List.eraseIdx_cons_zero, List.eraseIdx_cons_succ] at hs
        replace hH := Hold.of (Ls := [_]) hs
        refine Ls_nil (Jm_An hH ?_)
        refine An_take 8 rfl (by kernel_rfl) (by kernel_rfl) (by kernel_rfl) (fun _ _ _ h => h) hH (fun x hx => run_asB (c := false) (run_neq rfl rfl) (by rw [hsv.1]; simp)) rfl ?_
        refine An_done (by kernel_rfl) ?_
        refine Jm_seq ?_
        refine St_iff rfl ?_
        refine St_skip ?_
        replace hs := hs.erase 0
        simp only [List.cons_append, List.nil_append, List.eraseIdx_cons_zero, List.eraseIdx_cons_succ] at hs
        replace hs := hs.front 1 rfl
        simp only [List.cons_append, List.nil_append, List.eraseIdx_cons_zero, List.eraseIdx_cons_succ] at hs
        replace hs := hs.front 3 rfl
        simp only [List.cons_append, List.nil_append, List.eraseIdx_cons_zero, List.eraseIdx_cons_succ] at hs
        replace hs := hs.front 2 rfl
        simp only [List.cons_append, List.nil_append, List.eraseIdx_cons_zero, List.eraseIdx_cons_succ] at hs
        replace hs := hs.front 3 rfl
        simp only [List.cons_append, List.nil_append, List.eraseIdx_cons_zero, List.eraseIdx_cons_succ] at hs
        refine Jm_join (pj, qj) ?_ ?_
        · rw [hEn30]; exact (subE_cons rfl (subE_cons rfl (subE_cons rfl (subE_cons rfl (subE_cons rfl (subE_cons rfl (subE_cons rfl subE_nil)))))))
        · skip
          rw [hIv31]
          exact ⟨_, _, _, hs, hsv.2.2, (by rw [osave_len]; exact hdl), osave_ok hjo⟩
      · skip
        refine St_seq ?_
        refine St_region ?_
        refine Ls_run (run_eql rfl rfl) rfl ?_
        refine Ls_run (run_assign rfl) rfl ?_
        refine Ls_nil ?_
        refine Jm_seq ?_
        refine St_ifP rfl (fun h41 => ?_) (fun h41 => ?_)
        · skip
          refine St_seq ?_
          refine St_region ?_
          refine Ls_run (run_move rfl) rfl ?_
          refine Ls_run (run_as (run_field Try.underlying80 rfl inf3 (by decide) rfl) (show _ = Value.pointer (some ⟨b28, 1, none⟩) from rfl)) rfl ?_
          refine Ls_run (run_load sc3 rfl (hs.blk_at 0 rfl 1 rfl)) rfl ?_
          replace hs := hs.front 3 rfl
          simp only [List.cons_append, List.nil_append, List.eraseIdx_cons_zero, List.eraseIdx_cons_succ] at hs
          obtain ⟨vs0, A0, c0, hv0, hs⟩ := hs.dopen
          refine Ls_call Try.func14 nm14 rfl rfl (Cut_c w w29 _ b0 d A0 c0 hs nn) rfl ?_
          rintro v42 w43 ⟨rfl, hs⟩
          replace hs := Sat.dshut (s := dcut d nn) hv0 hs
          refine Ls_nil ?_
          refine Jm_seq ?_
          refine St_region ?_
          refine Ls_run (run_move rfl) rfl ?_
          refine Ls_run (run_as (run_field Try.underlying80 rfl inf3 (by decide) rfl) (show _ = Value.pointer (some ⟨b28, 1, none⟩) from rfl)) rfl ?_
          refine Ls_run (run_load sc3 rfl (hs.blk_at 1 rfl 1 rfl)) rfl ?_
          replace hs := hs.front 4 rfl
          simp only [List.cons_append, List.nil_append, List.eraseIdx_cons_zero, List.eraseIdx_cons_succ] at hs
          obtain ⟨vs1, A1, c1, hv1, hs⟩ := hs.ropen
          refine Ls_call Try.func40 nm40 rfl rfl (rCut_c w w43 _ b1 r A1 c1 hs nn) rfl ?_
          rintro v44 w45 ⟨rfl, hs⟩
          replace hs := Sat.rshut (s := rcut r nn) hv1 hs
          refine Ls_nil ?_
          replace hs := hs.erase 2
          simp only [List.cons_append, List.nil_append, List.eraseIdx_cons_zero, List.eraseIdx_cons_succ] at hs
          replace hs := hs.front 1 rfl
          simp only [List.cons_append, List.nil_append, List.eraseIdx_cons_zero, List.eraseIdx_cons_succ] at hs
          replace hs := hs.front 3 rfl
          simp only [List.cons_append, List.nil_append, List.eraseIdx_cons_zero, List.eraseIdx_cons_succ] at hs
          replace hs := hs.front 3 rfl
          simp only [List.cons_append, List.nil_append, List.eraseIdx_cons_zero, List.eraseIdx_cons_succ] at hs
          refine Jm_join (pj, qj) ?_ ?_
          · rw [hEn30]; exact (subE_cons rfl (subE_cons rfl (subE_cons rfl (subE_cons rfl (subE_cons rfl (subE_cons rfl (subE_cons rfl subE_nil)))))))
          · skip
            rw [hIv31]
            exact ⟨_, _, _, hs, hdr.cut hnn, hdl, hjo⟩
        · skip
          refine St_seq ?_
          refine St_region ?_
          refine Ls_run (run_eql rfl rfl) rfl ?_
          refine Ls_run (run_assign rfl) rfl ?_
          refine Ls_nil ?_
          refine Jm_seq ?_
          refine St_ifP rfl (fun h46 => ?_) (fun h46 => ?_)
          · skip
            refine St_seq ?_
            refine St_region ?_
            refine Ls_run (run_move rfl) rfl ?_
            replace hs := hs.front 3 rfl
            simp only [List.cons_append, List.nil_append, List.eraseIdx_cons_zero, List.eraseIdx_cons_succ] at hs
            obtain ⟨vs0, A0, c0, hv0, hs⟩ := hs.dopen
            refine Ls_call Try.func23 nm23 rfl rfl (Off_c w w29 _ b0 d A0 c0 hs) rfl ?_
            rintro v47 w48 ⟨rfl, hs⟩
            replace hs := Sat.dshut (s := doff d) hv0 hs
            refine Ls_nil ?_
            refine Jm_seq ?_
            refine St_region ?_
            refine Ls_run (run_move rfl) rfl ?_
            replace hs := hs.front 4 rfl
            simp only [List.cons_append, List.nil_append, List.eraseIdx_cons_zero, List.eraseIdx_cons_succ] at hs
            obtain ⟨vs1, A1, c1, hv1, hs⟩ := hs.ropen
            refine Ls_call Try.func41 nm41 rfl rfl (rOff_c w w48 _ b1 r A1 c1 hs) rfl ?_
            rintro v49 w50 ⟨rfl, hs⟩
            replace hs := Sat.rshut (s := roff r) hv1 hs
            refine Ls_nil ?_
            replace hs := hs.erase 2
            simp only [List.cons_append, List.nil_append, List.eraseIdx_cons_zero, List.eraseIdx_cons_succ] at hs
            replace hs := hs.front 1 rfl
            simp only [List.cons_append, List.nil_append, List.eraseIdx_cons_zero, List.eraseIdx_cons_succ] at hs
            replace hs := hs.front 3 rfl
            simp only [List.cons_append, List.nil_append, List.eraseIdx_cons_zero, List.eraseIdx_cons_succ] at hs
            replace hs := hs.front 3 rfl
            simp only [List.cons_append, List.nil_append, List.eraseIdx_cons_zero, List.eraseIdx_cons_succ] at hs
            refine Jm_join (pj, qj) ?_ ?_
            · rw [hEn30]; exact (subE_cons rfl (subE_cons rfl (subE_cons rfl (subE_cons rfl (subE_cons rfl (subE_cons rfl (subE_cons rfl subE_nil)))))))
            · skip
              rw [hIv31]
              exact ⟨_, _, _, hs, hdr.off, hdl, hjo⟩
          · skip
            refine St_seq ?_
            refine St_region ?_
            refine Ls_run (run_eql rfl rfl) rfl ?_
            refine Ls_run (run_assign rfl) rfl ?_
            refine Ls_nil ?_
            refine Jm_seq ?_
            refine St_ifP rfl (fun h51 => ?_) (fun h51 => ?_)
            · skip
              refine St_seq ?_
              refine St_region ?_
              refine Ls_run (run_move rfl) rfl ?_
              replace hs := hs.front 3 rfl
              simp only [List.cons_append, List.nil_append, List.eraseIdx_cons_zero, List.eraseIdx_cons_succ] at hs
              obtain ⟨vs0, A0, c0, hv0, hs⟩ := hs.dopen
              refine Ls_call Try.func22 nm22 rfl rfl (On_c w w29 _ b0 d A0 c0 hs) rfl ?_
              rintro v52 w53 ⟨rfl, hs⟩
              replace hs := Sat.dshut (s := don d) hv0 hs
              refine Ls_nil ?_
              refine Jm_seq ?_
              refine St_region ?_
              refine Ls_run (run_move rfl) rfl ?_
              replace hs := hs.front 4 rfl
              simp only [List.cons_append, List.nil_append, List.eraseIdx_cons_zero, List.eraseIdx_cons_succ] at hs
              obtain ⟨vs1, A1, c1, hv1, hs⟩ := hs.ropen
              refine Ls_call Try.func42 nm42 rfl rfl (rOn_c w w53 _ b1 r A1 c1 hs) rfl ?_
              rintro v54 w55 ⟨rfl, hs⟩
              replace hs := Sat.rshut (s := ron r) hv1 hs
              refine Ls_nil ?_
              replace hs := hs.erase 2
              simp only [List.cons_append, List.nil_append, List.eraseIdx_cons_zero, List.eraseIdx_cons_succ] at hs
              replace hs := hs.front 1 rfl
              simp only [List.cons_append, List.nil_append, List.eraseIdx_cons_zero, List.eraseIdx_cons_succ] at hs
              replace hs := hs.front 3 rfl
              simp only [List.cons_append, List.nil_append, List.eraseIdx_cons_zero, List.eraseIdx_cons_succ] at hs
              replace hs := hs.front 3 rfl
              simp only [List.cons_append, List.nil_append, List.eraseIdx_cons_zero, List.eraseIdx_cons_succ] at hs
              refine Jm_join (pj, qj) ?_ ?_
              · rw [hEn30]; exact (subE_cons rfl (subE_cons rfl (subE_cons rfl (subE_cons rfl (subE_cons rfl (subE_cons rfl (subE_cons rfl subE_nil)))))))
              · skip
                rw [hIv31]
                exact ⟨_, _, _, hs, hdr.on, hdl, hjo⟩
            · skip
              refine St_seq ?_
              refine St_seq ?_
              refine St_region ?_
              refine Ls_run (run_eql rfl rfl) rfl ?_
              refine Ls_run (run_assign rfl) rfl ?_
              refine Ls_nil ?_
              refine Jm_seq ?_
              refine St_ifP rfl (fun h56 => ?_) (fun h56 => ?_)
              · skip
                refine St_skip ?_
                refine Jm_seq ?_
                refine St_ifP rfl (fun h57 => ?_) (fun h57 => ?_)
                · skip
                  refine St_seq ?_
                  refine St_region ?_
                  refine Ls_run (run_as (run_field Try.underlying80 rfl inf3 (by decide) rfl) (show _ = Value.pointer (some ⟨b28, 1, none⟩) from rfl)) rfl ?_
                  refine Ls_run (run_load sc3 rfl (hs.blk_at 0 rfl 1 rfl)) rfl ?_
                  refine Ls_run (run_assign rfl) rfl ?_
                  refine Ls_nil ?_
                  refine Jm_seq ?_
                  refine St_seq ?_
                  refine St_seq ?_
                  refine St_region ?_
                  refine Ls_run (run_as (run_field Try.underlying80 rfl inf3 (by decide) rfl) (show _ = Value.pointer (some ⟨b28, 0, none⟩) from rfl)) rfl ?_
                  refine Ls_run (run_load sc3 rfl (hs.blk_at 0 rfl 0 rfl)) rfl ?_
                  refine Ls_run (run_eql rfl rfl) rfl ?_
                  refine Ls_nil ?_
                  refine Jm_seq ?_
                  refine St_ifP rfl (fun h58 => ?_) (fun h58 => ?_)
                  · skip
                    refine St_region ?_
                    refine Ls_run (run_move rfl) rfl ?_
                    refine Ls_run (run_assign rfl) rfl ?_
                    refine Ls_nil ?_
                    refine Jm_seq ?_
                    refine St_seq ?_
                    refine St_region ?_
                    refine Ls_run (run_move rfl) rfl ?_
                    refine Ls_run (run_move rfl) rfl ?_
                    replace hs := hs.front 3 rfl
                    simp only [List.cons_append, List.nil_append, List.eraseIdx_cons_zero, List.eraseIdx_cons_succ] at hs
                    refine Ls_call Try.func37 nm37 rfl rfl (OpenO_c w w29 _ b0 d hdr.2.1 hdl hs parts) rfl ?_
                    rintro v59 w60 ⟨p5, rfl, hs⟩
                    refine Ls_run (run_move rfl) rfl ?_
                    refine Ls_run (run_extract rfl rfl) rfl ?_
                    refine Ls_run (run_extract rfl rfl) rfl ?_
                    refine Ls_run (run_assign rfl) rfl ?_
                    refine Ls_run (run_assign rfl) rfl ?_
                    refine Ls_nil ?_
                    refine Jm_seq ?_
                    refine St_seq ?_
                    refine St_region ?_
                    refine Ls_run (run_move rfl) rfl ?_
                    refine Ls_run (run_move rfl) rfl ?_
                    replace hs := hs.front 5 rfl
                    simp only [List.cons_append, List.nil_append, List.eraseIdx_cons_zero, List.eraseIdx_cons_succ] at hs
                    refine Ls_call Try.func43 nm43 rfl rfl (rOpenO_c w w60 _ b1 r (by rw [← hdr.1.1]; exact hdr.2.1) (by rw [← hdr.1.1]; exact hdl) hs parts) rfl ?_
                    rintro v61 w62 ⟨q5, rfl, hs⟩
                    have hfs5 := open_same (parts := parts) hdr
                    rw [← hfs5.2.1] at hs
                    have hpn5 : p5.isNone = q5.isNone := by rw [(hs.front 2 rfl).joIsNone, (hs.front 0 rfl).joIsNone]
                    refine Ls_run (run_move rfl) rfl ?_
                    refine Ls_run (run_extract rfl rfl) rfl ?_
                    refine Ls_run (run_extract rfl rfl) rfl ?_
                    refine Ls_run (run_assign rfl) rfl ?_
                    refine Ls_run (run_assign rfl) rfl ?_
                    refine Ls_nil ?_
                    refine Jm_seq ?_
                    refine St_seq ?_
                    refine St_region ?_
                    refine Ls_run (run_move rfl) rfl ?_
                    refine Ls_run (run_move rfl) rfl ?_
                    refine Ls_run (run_asB (c := false) (run_neq rfl rfl) (by rw [hfs5.1]; simp)) rfl ?_
                    refine Ls_run (run_move rfl) rfl ?_
                    refine Ls_on rfl rfl ?_
                    refine Ls_run (run_move rfl) rfl ?_
                    refine Ls_on rfl rfl ?_
                    refine Ls_run (run_eql_ptr_nil Try.underlying59 rfl rfl) rfl ?_
                    refine Ls_on rfl rfl ?_
                    refine Ls_run (run_move rfl) rfl ?_
                    refine Ls_on rfl rfl ?_
                    refine Ls_run (run_eql_ptr_nil Try.underlying76 rfl rfl) rfl ?_
                    refine Ls_on rfl rfl ?_
                    refine Ls_run (run_asB (c := false) (run_neq_bool Try.underlying4 rfl rfl) (by rw [hpn5]; simp)) rfl ?_
                    refine Ls_run (run_pick_f rfl rfl) rfl ?_
                    refine Ls_nil ?_
                    refine Jm_seq ?_
                    refine St_iff rfl ?_
                    refine St_skip ?_
                    replace hs := hs.erase 5
                    simp only [List.cons_append, List.nil_append, List.eraseIdx_cons_zero, List.eraseIdx_cons_succ] at hs
                    replace hs := hs.erase 5
                    simp only [List.cons_append, List.nil_append, List.eraseIdx_cons_zero, List.eraseIdx_cons_succ] at hs
                    replace hs := hs.erase 4
                    simp only [List.cons_append, List.nil_append, List.eraseIdx_cons_zero, List.eraseIdx_cons_succ] at hs
                    replace hs := hs.front 1 rfl
                    simp only [List.cons_append, List.nil_append, List.eraseIdx_cons_zero, List.eraseIdx_cons_succ] at hs
                    replace hs := hs.front 3 rfl
                    simp only [List.cons_append, List.nil_append, List.eraseIdx_cons_zero, List.eraseIdx_cons_succ] at hs
                    replace hs := hs.front 2 rfl
                    simp only [List.cons_append, List.nil_append, List.eraseIdx_cons_zero, List.eraseIdx_cons_succ] at hs
                    replace hs := hs.front 3 rfl
                    simp only [List.cons_append, List.nil_append, List.eraseIdx_cons_zero, List.eraseIdx_cons_succ] at hs
                    refine Jm_join (p5, q5) ?_ ?_
                    · rw [hEn30]; exact (subE_cons rfl (subE_cons rfl (subE_cons rfl (subE_cons rfl (subE_cons rfl (subE_cons rfl (subE_cons rfl subE_nil)))))))
                    · skip
                      rw [hIv31]
                      exact ⟨_, _, _, hs, hfs5.2.2, (by rw [jopen_len]; exact hdl), fun j hj => jopen_keeps (fun x hx => (hdr.2.1 x hx).1) hj⟩
                  · skip
                    refine St_skip ?_
                    refine Jm_seq ?_
                    refine St_seq ?_
                    refine St_region ?_
                    refine Ls_run (run_move rfl) rfl ?_
                    refine Ls_run (run_move rfl) rfl ?_
                    replace hs := hs.front 3 rfl
                    simp only [List.cons_append, List.nil_append, List.eraseIdx_cons_zero, List.eraseIdx_cons_succ] at hs
                    refine Ls_call Try.func37 nm37 rfl rfl (OpenO_c w w29 _ b0 d hdr.2.1 hdl hs nn) rfl ?_
                    rintro v64 w65 ⟨p5, rfl, hs⟩
                    refine Ls_run (run_move rfl) rfl ?_
                    refine Ls_run (run_extract rfl rfl) rfl ?_
                    refine Ls_run (run_extract rfl rfl) rfl ?_
                    refine Ls_run (run_assign rfl) rfl ?_
                    refine Ls_run (run_assign rfl) rfl ?_
                    refine Ls_nil ?_
                    refine Jm_seq ?_
                    refine St_seq ?_
                    refine St_region ?_
                    refine Ls_run (run_move rfl) rfl ?_
                    refine Ls_run (run_move rfl) rfl ?_
                    replace hs := hs.front 5 rfl
                    simp only [List.cons_append, List.nil_append, List.eraseIdx_cons_zero, List.eraseIdx_cons_succ] at hs
                    refine Ls_call Try.func43 nm43 rfl rfl (rOpenO_c w w65 _ b1 r (by rw [← hdr.1.1]; exact hdr.2.1) (by rw [← hdr.1.1]; exact hdl) hs nn) rfl ?_
                    rintro v66 w67 ⟨q5, rfl, hs⟩
                    have hfs5 := open_same (parts := nn) hdr
                    rw [← hfs5.2.1] at hs
                    have hpn5 : p5.isNone = q5.isNone := by rw [(hs.front 2 rfl).joIsNone, (hs.front 0 rfl).joIsNone]
                    refine Ls_run (run_move rfl) rfl ?_
                    refine Ls_run (run_extract rfl rfl) rfl ?_
                    refine Ls_run (run_extract rfl rfl) rfl ?_
                    refine Ls_run (run_assign rfl) rfl ?_
                    refine Ls_run (run_assign rfl) rfl ?_
                    refine Ls_nil ?_
                    refine Jm_seq ?_
                    refine St_seq ?_
                    refine St_region ?_
                    refine Ls_run (run_move rfl) rfl ?_
                    refine Ls_run (run_move rfl) rfl ?_
                    refine Ls_run (run_asB (c := false) (run_neq rfl rfl) (by rw [hfs5.1]; simp)) rfl ?_
                    refine Ls_run (run_move rfl) rfl ?_
                    refine Ls_on rfl rfl ?_
                    refine Ls_run (run_move rfl) rfl ?_
                    refine Ls_on rfl rfl ?_
                    refine Ls_run (run_eql_ptr_nil Try.underlying59 rfl rfl) rfl ?_
                    refine Ls_on rfl rfl ?_
                    refine Ls_run (run_move rfl) rfl ?_
                    refine Ls_on rfl rfl ?_
                    refine Ls_run (run_eql_ptr_nil Try.underlying76 rfl rfl) rfl ?_
                    refine Ls_on rfl rfl ?_
                    refine Ls_run (run_asB (c := false) (run_neq_bool Try.underlying4 rfl rfl) (by rw [hpn5]; simp)) rfl ?_
                    refine Ls_run (run_pick_f rfl rfl) rfl ?_
                    refine Ls_nil ?_
                    refine Jm_seq ?_
                    refine St_iff rfl ?_
                    refine St_skip ?_
                    replace hs := hs.erase 5
                    simp only [List.cons_append, List.nil_append, List.eraseIdx_cons_zero, List.eraseIdx_cons_succ] at hs
                    replace hs := hs.erase 5
                    simp only [List.cons_append, List.nil_append, List.eraseIdx_cons_zero, List.eraseIdx_cons_succ] at hs
                    replace hs := hs.erase 4
                    simp only [List.cons_append, List.nil_append, List.eraseIdx_cons_zero, List.eraseIdx_cons_succ] at hs
                    replace hs := hs.front 1 rfl
                    simp only [List.cons_append, List.nil_append, List.eraseIdx_cons_zero, List.eraseIdx_cons_succ] at hs
                    replace hs := hs.front 3 rfl
                    simp only [List.cons_append, List.nil_append, List.eraseIdx_cons_zero, List.eraseIdx_cons_succ] at hs
                    replace hs := hs.front 2 rfl
                    simp only [List.cons_append, List.nil_append, List.eraseIdx_cons_zero, List.eraseIdx_cons_succ] at hs
                    replace hs := hs.front 3 rfl
                    simp only [List.cons_append, List.nil_append, List.eraseIdx_cons_zero, List.eraseIdx_cons_succ] at hs
                    refine Jm_join (p5, q5) ?_ ?_
                    · rw [hEn30]; exact (subE_cons rfl (subE_cons rfl (subE_cons rfl (subE_cons rfl (subE_cons rfl (subE_cons rfl (subE_cons rfl subE_nil)))))))
                    · skip
                      rw [hIv31]
                      exact ⟨_, _, _, hs, hfs5.2.2, (by rw [jopen_len]; exact hdl), fun j hj => jopen_keeps (fun x hx => (hdr.2.1 x hx).1) hj⟩
                · skip
                  exfalso; omega
              · skip
                refine St_region ?_
                refine Ls_run (run_eql rfl rfl) rfl ?_
                refine Ls_run (run_assign rfl) rfl ?_
                refine Ls_nil ?_
                refine Jm_seq ?_
                refine St_ifP rfl (fun h69 => ?_) (fun h69 => ?_)
                · skip
                  refine St_seq ?_
                  refine St_region ?_
                  refine Ls_run (run_as (run_field Try.underlying80 rfl inf3 (by decide) rfl) (show _ = Value.pointer (some ⟨b28, 1, none⟩) from rfl)) rfl ?_
                  refine Ls_run (run_load sc3 rfl (hs.blk_at 0 rfl 1 rfl)) rfl ?_
                  refine Ls_run (run_assign rfl) rfl ?_
                  refine Ls_nil ?_
                  refine Jm_seq ?_
                  refine St_seq ?_
                  refine St_seq ?_
                  refine St_region ?_
                  refine Ls_run (run_as (run_field Try.underlying80 rfl inf3 (by decide) rfl) (show _ = Value.pointer (some ⟨b28, 0, none⟩) from rfl)) rfl ?_
                  refine Ls_run (run_load sc3 rfl (hs.blk_at 0 rfl 0 rfl)) rfl ?_
                  refine Ls_run (run_eql rfl rfl) rfl ?_
                  refine Ls_nil ?_
                  refine Jm_seq ?_
                  refine St_ifP rfl (fun h70 => ?_) (fun h70 => ?_)
                  · skip
                    refine St_region ?_
                    refine Ls_run (run_move rfl) rfl ?_
                    refine Ls_run (run_assign rfl) rfl ?_
                    refine Ls_nil ?_
                    refine Jm_seq ?_
                    refine St_seq ?_
                    refine St_region ?_
                    refine Ls_run (run_move rfl) rfl ?_
                    refine Ls_run (run_move rfl) rfl ?_
                    replace hs := hs.front 3 rfl
                    simp only [List.cons_append, List.nil_append, List.eraseIdx_cons_zero, List.eraseIdx_cons_succ] at hs
                    refine Ls_call Try.func37 nm37 rfl rfl (OpenO_c w w29 _ b0 d hdr.2.1 hdl hs parts) rfl ?_
                    rintro v71 w72 ⟨p5, rfl, hs⟩
                    refine Ls_run (run_move rfl) rfl ?_
                    refine Ls_run (run_extract rfl rfl) rfl ?_
                    refine Ls_run (run_extract rfl rfl) rfl ?_
                    refine Ls_run (run_assign rfl) rfl ?_
                    refine Ls_run (run_assign rfl) rfl ?_
                    refine Ls_nil ?_
                    refine Jm_seq ?_
                    refine St_seq ?_
                    refine St_region ?_
                    refine Ls_run (run_move rfl) rfl ?_
                    refine Ls_run (run_move rfl) rfl ?_
                    replace hs := hs.front 5 rfl
                    simp only [List.cons_append, List.nil_append, List.eraseIdx_cons_zero, List.eraseIdx_cons_succ] at hs
                    refine Ls_call Try.func43 nm43 rfl rfl (rOpenO_c w w72 _ b1 r (by rw [← hdr.1.1]; exact hdr.2.1) (by rw [← hdr.1.1]; exact hdl) hs parts) rfl ?_
                    rintro v73 w74 ⟨q5, rfl, hs⟩
                    have hfs5 := open_same (parts := parts) hdr
                    rw [← hfs5.2.1] at hs
                    have hpn5 : p5.isNone = q5.isNone := by rw [(hs.front 2 rfl).joIsNone, (hs.front 0 rfl).joIsNone]
                    refine Ls_run (run_move rfl) rfl ?_
                    refine Ls_run (run_extract rfl rfl) rfl ?_
                    refine Ls_run (run_extract rfl rfl) rfl ?_
                    refine Ls_run (run_assign rfl) rfl ?_
                    refine Ls_run (run_assign rfl) rfl ?_
                    refine Ls_nil ?_
                    refine Jm_seq ?_
                    refine St_seq ?_
                    refine St_region ?_
                    refine Ls_run (run_move rfl) rfl ?_
                    refine Ls_run (run_move rfl) rfl ?_
                    refine Ls_run (run_asB (c := false) (run_neq rfl rfl) (by rw [hfs5.1]; simp)) rfl ?_
                    refine Ls_run (run_move rfl) rfl ?_
                    refine Ls_on rfl rfl ?_
                    refine Ls_run (run_move rfl) rfl ?_
                    refine Ls_on rfl rfl ?_
                    refine Ls_run (run_eql_ptr_nil Try.underlying59 rfl rfl) rfl ?_
                    refine Ls_on rfl rfl ?_
                    refine Ls_run (run_move rfl) rfl ?_
                    refine Ls_on rfl rfl ?_
                    refine Ls_run (run_eql_ptr_nil Try.underlying76 rfl rfl) rfl ?_
                    refine Ls_on rfl rfl ?_
                    refine Ls_run (run_asB (c := false) (run_neq_bool Try.underlying4 rfl rfl) (by rw [hpn5]; simp)) rfl ?_
                    refine Ls_run (run_pick_f rfl rfl) rfl ?_
                    refine Ls_nil ?_
                    refine Jm_seq ?_
                    refine St_iff rfl ?_
                    refine St_skip ?_
                    replace hs := hs.erase 5
                    simp only [List.cons_append, List.nil_append, List.eraseIdx_cons_zero, List.eraseIdx_cons_succ] at hs
                    replace hs := hs.erase 5
                    simp only [List.cons_append, List.nil_append, List.eraseIdx_cons_zero, List.eraseIdx_cons_succ] at hs
                    replace hs := hs.erase 4
                    simp only [List.cons_append, List.nil_append, List.eraseIdx_cons_zero, List.eraseIdx_cons_succ] at hs
                    replace hs := hs.front 1 rfl
                    simp only [List.cons_append, List.nil_append, List.eraseIdx_cons_zero, List.eraseIdx_cons_succ] at hs
                    replace hs := hs.front 3 rfl
                    simp only [List.cons_append, List.nil_append, List.eraseIdx_cons_zero, List.eraseIdx_cons_succ] at hs
                    replace hs := hs.front 2 rfl
                    simp only [List.cons_append, List.nil_append, List.eraseIdx_cons_zero, List.eraseIdx_cons_succ] at hs
                    replace hs := hs.front 3 rfl
                    simp only [List.cons_append, List.nil_append, List.eraseIdx_cons_zero, List.eraseIdx_cons_succ] at hs
                    refine Jm_join (p5, q5) ?_ ?_
                    · rw [hEn30]; exact (subE_cons rfl (subE_cons rfl (subE_cons rfl (subE_cons rfl (subE_cons rfl (subE_cons rfl (subE_cons rfl subE_nil)))))))
                    · skip
                      rw [hIv31]
                      exact ⟨_, _, _, hs, hfs5.2.2, (by rw [jopen_len]; exact hdl), fun j hj => jopen_keeps (fun x hx => (hdr.2.1 x hx).1) hj⟩
                  · skip
                    refine St_skip ?_
                    refine Jm_seq ?_
                    refine St_seq ?_
                    refine St_region ?_
                    refine Ls_run (run_move rfl) rfl ?_
                    refine Ls_run (run_move rfl) rfl ?_
                    replace hs := hs.front 3 rfl
                    simp only [List.cons_append, List.nil_append, List.eraseIdx_cons_zero, List.eraseIdx_cons_succ] at hs
                    refine Ls_call Try.func37 nm37 rfl rfl (OpenO_c w w29 _ b0 d hdr.2.1 hdl hs nn) rfl ?_
                    rintro v76 w77 ⟨p5, rfl, hs⟩
                    refine Ls_run (run_move rfl) rfl ?_
                    refine Ls_run (run_extract rfl rfl) rfl ?_
                    refine Ls_run (run_extract rfl rfl) rfl ?_
                    refine Ls_run (run_assign rfl) rfl ?_
                    refine Ls_run (run_assign rfl) rfl ?_
                    refine Ls_nil ?_
                    refine Jm_seq ?_
                    refine St_seq ?_
                    refine St_region ?_
                    refine Ls_run (run_move rfl) rfl ?_
                    refine Ls_run (run_move rfl) rfl ?_
                    replace hs := hs.front 5 rfl
                    simp only [List.cons_append, List.nil_append, List.eraseIdx_cons_zero, List.eraseIdx_cons_succ] at hs
                    refine Ls_call Try.func43 nm43 rfl rfl (rOpenO_c w w77 _ b1 r (by rw [← hdr.1.1]; exact hdr.2.1) (by rw [← hdr.1.1]; exact hdl) hs nn) rfl ?_
                    rintro v78 w79 ⟨q5, rfl, hs⟩
                    have hfs5 := open_same (parts := nn) hdr
                    rw [← hfs5.2.1] at hs
                    have hpn5 : p5.isNone = q5.isNone := by rw [(hs.front 2 rfl).joIsNone, (hs.front 0 rfl).joIsNone]
                    refine Ls_run (run_move rfl) rfl ?_
                    refine Ls_run (run_extract rfl rfl) rfl ?_
                    refine Ls_run (run_extract rfl rfl) rfl ?_
                    refine Ls_run (run_assign rfl) rfl ?_
                    refine Ls_run (run_assign rfl) rfl ?_
                    refine Ls_nil ?_
                    refine Jm_seq ?_
                    refine St_seq ?_
                    refine St_region ?_
                    refine Ls_run (run_move rfl) rfl ?_
                    refine Ls_run (run_move rfl) rfl ?_
                    refine Ls_run (run_asB (c := false) (run_neq rfl rfl) (by rw [hfs5.1]; simp)) rfl ?_
                    refine Ls_run (run_move rfl) rfl ?_
                    refine Ls_on rfl rfl ?_
                    refine Ls_run (run_move rfl) rfl ?_
                    refine Ls_on rfl rfl ?_
                    refine Ls_run (run_eql_ptr_nil Try.underlying59 rfl rfl) rfl ?_
                    refine Ls_on rfl rfl ?_
                    refine Ls_run (run_move rfl) rfl ?_
                    refine Ls_on rfl rfl ?_
                    refine Ls_run (run_eql_ptr_nil Try.underlying76 rfl rfl) rfl ?_
                    refine Ls_on rfl rfl ?_
                    refine Ls_run (run_asB (c := false) (run_neq_bool Try.underlying4 rfl rfl) (by rw [hpn5]; simp)) rfl ?_
                    refine Ls_run (run_pick_f rfl rfl) rfl ?_
                    refine Ls_nil ?_
                    refine Jm_seq ?_
                    refine St_iff rfl ?_
                    refine St_skip ?_
                    replace hs := hs.erase 5
                    simp only [List.cons_append, List.nil_append, List.eraseIdx_cons_zero, List.eraseIdx_cons_succ] at hs
                    replace hs := hs.erase 5
                    simp only [List.cons_append, List.nil_append, List.eraseIdx_cons_zero, List.eraseIdx_cons_succ] at hs
                    replace hs := hs.erase 4
                    simp only [List.cons_append, List.nil_append, List.eraseIdx_cons_zero, List.eraseIdx_cons_succ] at hs
                    replace hs := hs.front 1 rfl
                    simp only [List.cons_append, List.nil_append, List.eraseIdx_cons_zero, List.eraseIdx_cons_succ] at hs
                    replace hs := hs.front 3 rfl
                    simp only [List.cons_append, List.nil_append, List.eraseIdx_cons_zero, List.eraseIdx_cons_succ] at hs
                    replace hs := hs.front 2 rfl
                    simp only [List.cons_append, List.nil_append, List.eraseIdx_cons_zero, List.eraseIdx_cons_succ] at hs
                    replace hs := hs.front 3 rfl
                    simp only [List.cons_append, List.nil_append, List.eraseIdx_cons_zero, List.eraseIdx_cons_succ] at hs
                    refine Jm_join (p5, q5) ?_ ?_
                    · rw [hEn30]; exact (subE_cons rfl (subE_cons rfl (subE_cons rfl (subE_cons rfl (subE_cons rfl (subE_cons rfl (subE_cons rfl subE_nil)))))))
                    · skip
                      rw [hIv31]
                      exact ⟨_, _, _, hs, hfs5.2.2, (by rw [jopen_len]; exact hdl), fun j hj => jopen_keeps (fun x hx => (hdr.2.1 x hx).1) hj⟩
                · skip
                  refine St_seq ?_
                  refine St_region ?_
                  refine Ls_run (run_eql rfl rfl) rfl ?_
                  refine Ls_run (run_assign rfl) rfl ?_
                  refine Ls_nil ?_
                  refine Jm_seq ?_
                  refine St_ifP rfl (fun h81 => ?_) (fun h81 => ?_)
                  · skip
                    refine St_seq ?_
                    refine St_region ?_
                    refine Ls_run (run_move rfl) rfl ?_
                    refine Ls_run (run_as (run_field Try.underlying80 rfl inf3 (by decide) rfl) (show _ = Value.pointer (some ⟨b28, 1, none⟩) from rfl)) rfl ?_
                    refine Ls_run (run_load sc3 rfl (hs.blk_at 0 rfl 1 rfl)) rfl ?_
                    replace hs := hs.front 3 rfl
                    simp only [List.cons_append, List.nil_append, List.eraseIdx_cons_zero, List.eraseIdx_cons_succ] at hs
                    refine Ls_call Try.func32 nm32 rfl rfl (FormatO_c w w29 _ b0 d hdr.2.1 hs nn) rfl ?_
                    rintro v82 w83 ⟨p7, rfl, hs⟩
                    refine Ls_run (run_move rfl) rfl ?_
                    refine Ls_run (run_extract rfl rfl) rfl ?_
                    refine Ls_run (run_extract rfl rfl) rfl ?_
                    refine Ls_run (run_assign rfl) rfl ?_
                    refine Ls_run (run_assign rfl) rfl ?_
                    refine Ls_nil ?_
                    refine Jm_seq ?_
                    refine St_seq ?_
                    refine St_region ?_
                    refine Ls_run (run_move rfl) rfl ?_
                    refine Ls_run (run_as (run_field Try.underlying80 rfl inf3 (by decide) rfl) (show _ = Value.pointer (some ⟨b28, 1, none⟩) from rfl)) rfl ?_
                    refine Ls_run (run_load sc3 rfl (hs.blk_at 2 rfl 1 rfl)) rfl ?_
                    replace hs := hs.front 5 rfl
                    simp only [List.cons_append, List.nil_append, List.eraseIdx_cons_zero, List.eraseIdx_cons_succ] at hs
                    refine Ls_call Try.func38 nm38 rfl rfl (rFormatO_c w w83 _ b1 r d hdr hs nn) rfl ?_
                    rintro v84 w85 ⟨q7, rfl, hs⟩
                    have hfs7 := format_same (parts := nn) hdr
                    rw [← hfs7.2.1] at hs
                    have hpn7 : p7.isNone = q7.isNone := by rw [(hs.front 2 rfl).joIsNone, (hs.front 0 rfl).joIsNone]
                    refine Ls_run (run_move rfl) rfl ?_
                    refine Ls_run (run_extract rfl rfl) rfl ?_
                    refine Ls_run (run_extract rfl rfl) rfl ?_
                    refine Ls_run (run_assign rfl) rfl ?_
                    refine Ls_run (run_assign rfl) rfl ?_
                    refine Ls_nil ?_
                    refine Jm_seq ?_
                    refine St_seq ?_
                    refine St_region ?_
                    refine Ls_run (run_move rfl) rfl ?_
                    refine Ls_run (run_move rfl) rfl ?_
                    refine Ls_run (run_asB (c := false) (run_neq rfl rfl) (by rw [hfs7.1]; simp)) rfl ?_
                    refine Ls_run (run_move rfl) rfl ?_
                    refine Ls_on rfl rfl ?_
                    refine Ls_run (run_move rfl) rfl ?_
                    refine Ls_on rfl rfl ?_
                    refine Ls_run (run_eql_ptr_nil Try.underlying59 rfl rfl) rfl ?_
                    refine Ls_on rfl rfl ?_
                    refine Ls_run (run_move rfl) rfl ?_
                    refine Ls_on rfl rfl ?_
                    refine Ls_run (run_eql_ptr_nil Try.underlying76 rfl rfl) rfl ?_
                    refine Ls_on rfl rfl ?_
                    refine Ls_run (run_asB (c := false) (run_neq_bool Try.underlying4 rfl rfl) (by rw [hpn7]; simp)) rfl ?_
                    refine Ls_run (run_pick_f rfl rfl) rfl ?_
                    refine Ls_nil ?_
                    refine Jm_seq ?_
                    refine St_iff rfl ?_
                    refine St_skip ?_
                    replace hs := hs.erase 5
                    simp only [List.cons_append, List.nil_append, List.eraseIdx_cons_zero, List.eraseIdx_cons_succ] at hs
                    replace hs := hs.erase 5
                    simp only [List.cons_append, List.nil_append, List.eraseIdx_cons_zero, List.eraseIdx_cons_succ] at hs
                    replace hs := hs.erase 4
                    simp only [List.cons_append, List.nil_append, List.eraseIdx_cons_zero, List.eraseIdx_cons_succ] at hs
                    replace hs := hs.front 1 rfl
                    simp only [List.cons_append, List.nil_append, List.eraseIdx_cons_zero, List.eraseIdx_cons_succ] at hs
                    replace hs := hs.front 3 rfl
                    simp only [List.cons_append, List.nil_append, List.eraseIdx_cons_zero, List.eraseIdx_cons_succ] at hs
                    replace hs := hs.front 2 rfl
                    simp only [List.cons_append, List.nil_append, List.eraseIdx_cons_zero, List.eraseIdx_cons_succ] at hs
                    replace hs := hs.front 3 rfl
                    simp only [List.cons_append, List.nil_append, List.eraseIdx_cons_zero, List.eraseIdx_cons_succ] at hs
                    refine Jm_join (p7, q7) ?_ ?_
                    · rw [hEn30]; exact (subE_cons rfl (subE_cons rfl (subE_cons rfl (subE_cons rfl (subE_cons rfl (subE_cons rfl (subE_cons rfl subE_nil)))))))
                    · skip
                      rw [hIv31]
                      exact ⟨_, _, _, hs, hfs7.2.2, (by rw [jformat_len]; exact hdl), fun j hj => jformat_keeps hj⟩
                  · skip
                    refine St_skip ?_
                    replace hs := hs.erase 0
                    simp only [List.cons_append, List.nil_append, List.eraseIdx_cons_zero, List.eraseIdx_cons_succ] at hs
                    refine Jm_join (pj, qj) ?_ ?_
                    · rw [hEn30]; exact (subE_cons rfl (subE_cons rfl (subE_cons rfl (subE_cons rfl (subE_cons rfl (subE_cons rfl (subE_cons rfl subE_nil)))))))
                    · skip
                      rw [hIv31]
                      exact ⟨_, _, _, hs, hdr, hdl, hjo⟩
    · skip
      rintro ⟨p9, q9⟩ w32 hI87
      rw [hIv31] at hI87
      obtain ⟨jo, d, r, hs, hdr, hdl, hjo⟩ := hI87
      refine Jm_eqE (hEn30 _ _) ?_
      refine Jm_block_normal (Jm_seq ?_)
      refine St_seq ?_
      refine St_region ?_
      refine Ls_run (run_move rfl) rfl ?_
      refine Ls_call Try.func33 nm33 rfl rfl (NoteO_c w w32 _ p9 _ jo hs hjo) rfl ?_
      rintro v88 w89 ⟨X1, x1, X2, x2, rfl, hs⟩
      refine Ls_run (run_move rfl) rfl ?_
      replace hs := hs.front 3 rfl
      simp only [List.cons_append, List.nil_append, List.eraseIdx_cons_zero, List.eraseIdx_cons_succ] at hs
      refine Ls_call Try.func44 nm44 rfl rfl (rNoteO_c w w89 _ q9 _ jo hs hjo) rfl ?_
      rintro v90 w91 ⟨Y1, y1, Y2, y2, rfl, hs⟩
      refine Ls_call Try.func36 nm36 rfl rfl (notes_c w91 (onote jo) _ _ _ _ _ _ _ _ (hs.rd_at 3 rfl) (hs.rd_at 4 rfl) (hs.rd_at 0 rfl) (hs.rd_at 1 rfl) (onote_len hjo)) rfl ?_
      rintro v92 w93 ⟨rfl, hsI⟩
      replace hs := hs.trans hsI
      simp only [List.nil_append, List.cons_append] at hs
      refine Ls_run (run_not rfl) rfl ?_
      refine Ls_run (run_move rfl) rfl ?_
      refine Ls_on rfl rfl ?_
      refine Ls_run (run_move rfl) rfl ?_
      refine Ls_on rfl rfl ?_
      replace hs := hs.front 5 rfl
      simp only [List.cons_append, List.nil_append, List.eraseIdx_cons_zero, List.eraseIdx_cons_succ] at hs
      refine Ls_call Try.func45 nm45 rfl rfl (EndedO_c w w93 _ p9 _ jo hs) rfl ?_
      rintro v94 w95 ⟨rfl, rfl⟩
      refine Ls_on rfl rfl ?_
      refine Ls_run (run_move rfl) rfl ?_
      refine Ls_on rfl rfl ?_
      replace hs := hs.front 3 rfl
      simp only [List.cons_append, List.nil_append, List.eraseIdx_cons_zero, List.eraseIdx_cons_succ] at hs
      refine Ls_call Try.func46 nm46 rfl rfl (rEndedO_c w w93 _ q9 _ jo hs) rfl ?_
      rintro v96 w97 ⟨rfl, rfl⟩
      refine Ls_on rfl rfl ?_
      refine Ls_run (run_asB (c := false) (run_neq_bool Try.underlying4 rfl rfl) (by simp)) rfl ?_
      refine Ls_run (run_pick_f rfl rfl) rfl ?_
      refine Ls_run (run_move rfl) rfl ?_
      refine Ls_on rfl rfl ?_
      refine Ls_run (run_move rfl) rfl ?_
      refine Ls_on rfl rfl ?_
      replace hs := hs.front 6 rfl
      simp only [List.cons_append, List.nil_append, List.eraseIdx_cons_zero, List.eraseIdx_cons_succ] at hs
      obtain ⟨A0, c0, hd0⟩ := hs.dhd
      refine Ls_call Try.func19 nm19 rfl rfl (Writes_c w93 b0 d A0 c0 hd0) rfl ?_
      rintro v98 w99 ⟨rfl, rfl⟩
      refine Ls_on rfl rfl ?_
      refine Ls_run (run_move rfl) rfl ?_
      refine Ls_on rfl rfl ?_
      replace hs := hs.front 7 rfl
      simp only [List.cons_append, List.nil_append, List.eraseIdx_cons_zero, List.eraseIdx_cons_succ] at hs
      obtain ⟨A0, c0, hd0⟩ := hs.rhd
      refine Ls_call Try.func47 nm47 rfl rfl (rWrites_c w93 b1 r A0 c0 hd0) rfl ?_
      rintro v100 w101 ⟨rfl, rfl⟩
      refine Ls_on rfl rfl ?_
      refine Ls_run (run_asB (c := false) (run_neq rfl rfl) (by rw [hdr.1.2.2.2.1]; simp)) rfl ?_
      refine Ls_run (run_pick_f rfl rfl) rfl ?_
      refine Ls_nil ?_
      refine Jm_seq ?_
      refine St_iff rfl ?_
      refine St_skip ?_
      refine Jm_block_normal (Jm_seq ?_)
      refine St_region ?_
      refine Ls_run (run_move rfl) rfl ?_
      refine Ls_run (run_add rfl rfl (w64 (by omega))) rfl ?_
      refine Ls_run (run_assign rfl) rfl ?_
      refine Ls_nil ?_
      replace hs := hs.erase 4
      simp only [List.cons_append, List.nil_append, List.eraseIdx_cons_zero, List.eraseIdx_cons_succ] at hs
      replace hs := hs.erase 4
      simp only [List.cons_append, List.nil_append, List.eraseIdx_cons_zero, List.eraseIdx_cons_succ] at hs
      replace hs := hs.erase 4
      simp only [List.cons_append, List.nil_append, List.eraseIdx_cons_zero, List.eraseIdx_cons_succ] at hs
      replace hs := hs.erase 4
      simp only [List.cons_append, List.nil_append, List.eraseIdx_cons_zero, List.eraseIdx_cons_succ] at hs
      replace hs := hs.front 1 rfl
      simp only [List.cons_append, List.nil_append, List.eraseIdx_cons_zero, List.eraseIdx_cons_succ] at hs
      replace hs := hs.front 2 rfl
      simp only [List.cons_append, List.nil_append, List.eraseIdx_cons_zero, List.eraseIdx_cons_succ] at hs
      replace hs := hs.front 3 rfl
      simp only [List.cons_append, List.nil_append, List.eraseIdx_cons_zero, List.eraseIdx_cons_succ] at hs
      refine Jm_round (i + 1, p9, q9) ?_ ?_ ?_
      · rw [hEn19]; exact (subE_cons rfl (subE_cons rfl (subE_cons rfl (subE_cons rfl (subE_cons rfl (subE_cons rfl (subE_cons rfl subE_nil)))))))
      · skip
        rw [hIv20]
        exact ⟨_, _, _, hs, hdr, hdl, hjo, by omega⟩
      · skip
        rw [hms21, hms21]
        omega
  · skip
    refine St_exit ?_
    refine Jm_then_exit (Jm_then_exit (Jm_block_same (Jm_seq ?_)))
    refine St_seq ?_
    refine St_region ?_
    refine Ls_run (run_move rfl) rfl ?_
    replace hs := hs.front 2 rfl
    simp only [List.cons_append, List.nil_append, List.eraseIdx_cons_zero, List.eraseIdx_cons_succ] at hs
    refine Ls_call Try.func21 nm21 rfl rfl (Image_c w wr _ b0 d hs (fun x hx => (hdr.2.1 x hx).2) hdr.2.2.1) rfl ?_
    rintro v103 w104 ⟨Ia, ia, via, rfl, hvia, hs⟩
    replace hs := Sat.toKeep (F := fun w => Rd w Ia d.bl.length ia 1 (El.val.flat via) ∧ PartsK (El.int .u8) w via d.bl) (fun B w q => ⟨q.rd_at 0 rfl, Sat.parts (pre := [_]) q hvia⟩) hs
    refine Ls_run (run_move rfl) rfl ?_
    replace hs := hs.front 4 rfl
    simp only [List.cons_append, List.nil_append, List.eraseIdx_cons_zero, List.eraseIdx_cons_succ] at hs
    refine Ls_call Try.func28 nm28 rfl rfl (rImage_c w w104 _ b1 r hs hdr.rows (by rw [← hdr.1.1]; exact hdr.2.2.1)) rfl ?_
    rintro v105 w106 ⟨Ib, ib, vib, rfl, hvib, hs⟩
    replace hs := Sat.toKeep (F := fun w => Rd w Ib r.bl.length ib 1 (El.val.flat vib) ∧ PartsK (El.int .u8) w vib r.bl) (fun B w q => ⟨q.rd_at 0 rfl, Sat.parts (pre := [_]) q hvib⟩) hs
    refine Ls_call Try.func48 nm48 rfl rfl (images18_c w106 _ _ _ via d.bl _ _ _ vib r.bl (hs.kept 2 rfl).1 (hs.kept 0 rfl).1 (hs.kept 2 rfl).2 (hs.kept 0 rfl).2 (fun x hx => (hdr.2.1 x hx).1) (fun x hx => (hdr.2.1 x (by rw [hdr.1.1]; exact hx)).1) (by have := hdr.2.2.1; omega)) rfl ?_
    rintro v107 w108 ⟨rfl, hsI⟩
    replace hs := hs.trans hsI
    simp only [List.nil_append] at hs
    rw [decide_eq_true hdr.1.1]
    refine Ls_run (run_assign rfl) rfl ?_
    refine Ls_nil ?_
    refine Jm_seq ?_
    refine St_ret ?_
    refine Jm_ret1 rfl rfl ?_
    exact ⟨_, rfl, rfl, hs.below⟩
theorem JournalExact_c (w : World) (blocks parts : Int) (A2 : Option Addr) (n2 c2 : Nat) (pl : List (Int × Int × Int × (Option Addr × Nat × Nat) × (Option Addr × Nat × Nat) × Int)) (hr : Rd w A2 n2 c2 6 (KOpJ.flat pl)) (hput : ∀ x ∈ pl, OpJOk w x) (hn2 : n2 ≤ 9223372036854775807) : Calls Try.prog 10 [.int .i64 blocks, .int .i64 parts, .slice A2 n2 c2].toArray w (Ret (fun v' w' => v' = .bool true ∧ Below w.heap.size w w')) := by
  by_cases h : blocks < 1 ∨ 64 < blocks
  · exact JournalExact_bad w blocks parts A2 n2 c2 pl hr hput hn2 h
  · obtain ⟨m, rfl⟩ : ∃ m : Nat, blocks = (m : Int) := ⟨blocks.toNat, by omega⟩
    exact JournalExact_ok w parts A2 n2 c2 pl hr hput hn2 m (by omega) (by omega)
end Go.Proofs.Ytpmkedgennnekaa.Lg
