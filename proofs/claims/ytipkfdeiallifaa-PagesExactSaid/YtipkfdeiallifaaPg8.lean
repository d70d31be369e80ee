/-
  Pages: calls of books that may be none. By program (gen/pg8.py).
-/
import Derived.Test.YtipkfdeiallifaaPg7
set_option linter.unusedVariables false
set_option linter.unusedSimpArgs false
namespace Go.Proofs.Ytipkfdeiallifaa.Lg
open Go Go.RowKit Go.Proofs.Ytipkfdeiallifaa.WirePure
section
variable {S : Type} (o : DOps S)
def oput (fx : Int → Int) (so : Option BSt) (d : S) (l : List Wr) : Int × Option BSt × S := match so with | none => (2, none, d) | some s => ((bput o fx s d l).1, some (bput o fx s d l).2.1, (bput o fx s d l).2.2)
def oget (so : Option BSt) (d : S) (page : Int) : List Int × Int × Option BSt × S := match so with | none => ([], 2, none, d) | some s => ((bget o s d page).1, (bget o s d page).2.1, some (bget o s d page).2.2.1, (bget o s d page).2.2.2)
end
def oused : Option BSt → Nat | none => 0 | some s => bused s.tb
def opages : Option BSt → Nat | none => 0 | some s => s.tb.length
def oended : Option BSt → Bool | none => false | some s => s.ended
theorem oput_same {so : Option BSt} {d : DSt} {r : RSt} {l : List Wr} (h : DR d r) (hi : OInv so d.bl.length) (hb : ∀ x ∈ l, IsBytes x.2) : (oput dO (fun _ => 80) so d l).1 = (oput rO (fun e => e) so r l).1 ∧ (oput dO (fun _ => 80) so d l).2.1 = (oput rO (fun e => e) so r l).2.1 ∧ DR (oput dO (fun _ => 80) so d l).2.2 (oput rO (fun e => e) so r l).2.2 := by
  cases so with
  | none => exact ⟨rfl, rfl, h⟩
  | some s => have := bput_same (s := s) (l := l) h (hi s rfl) hb; exact ⟨this.1, congrArg some this.2.1, this.2.2⟩
theorem oput_inv {so : Option BSt} {d : DSt} {l : List Wr} (hd : DOk d) (hi : OInv so d.bl.length) (hb : ∀ x ∈ l, IsBytes x.2) : OInv (oput dO (fun _ => 80) so d l).2.1 d.bl.length ∧ (oput dO (fun _ => 80) so d l).2.2.bl.length = d.bl.length := by
  cases so with
  | none => exact ⟨(fun s hs => by cases hs), rfl⟩
  | some s => have := bput_inv (l := l) hd (hi s rfl) hb; exact ⟨(fun s2 hs => by cases hs; exact this.1), this.2.2⟩
theorem oget_same {so : Option BSt} {d : DSt} {r : RSt} (h : DR d r) (page : Int) : (oget dO so d page).1 = (oget rO so r page).1 ∧ (oget dO so d page).2.1 = (oget rO so r page).2.1 ∧ (oget dO so d page).2.2.1 = (oget rO so r page).2.2.1 ∧ DR (oget dO so d page).2.2.2 (oget rO so r page).2.2.2 := by
  cases so with
  | none => exact ⟨rfl, rfl, rfl, h⟩
  | some s => have := bget_same (s := s) h page; exact ⟨this.1, this.2.1, congrArg some this.2.2.1, this.2.2.2⟩
theorem oget_inv {so : Option BSt} {d : DSt} (hd : DOk d) (hi : OInv so d.bl.length) (page : Int) : OInv (oget dO so d page).2.2.1 d.bl.length ∧ (oget dO so d page).2.2.2.bl.length = d.bl.length ∧ IsBytes (oget dO so d page).1 := by
  cases so with
  | none => exact ⟨(fun s hs => by cases hs), rfl, by simp [oget, IsBytes]⟩
  | some s => have := bget_inv hd (hi s rfl) page; exact ⟨(fun s2 hs => by cases hs; exact this.1), this.2.2.1, this.2.2.2.1⟩
set_option maxRecDepth 100000 in
set_option maxHeartbeats 1000000 in
theorem BPut_nil (w : World) (A : Option Addr) (n c : Nat) :
    Calls Try.prog 26 [.pointer none, .slice A n c].toArray w (Ret (fun v' w' => v' = .int .i64 2 ∧ Sat w w' [])) := by
  have hs := Sat.start w
  refine Calls_bodyD Try.func26 rfl rfl rfl (envE_cons (i := 0) (v := .pointer none) rfl (envE_cons (i := 1) (v := .slice A n c) rfl envE_nil)) ?_
  refine St_seq ?_
  refine St_region ?_
  refine Ls_box hs rfl rfl ?_
  intro b2 w1 hs
  refine Ls_alloc hs inf29 rfl ?_
  intro b4 w3 hs
  refine Ls_nil ?_
  refine Jm_seq ?_
  refine St_seq ?_
  refine St_seq ?_
  refine St_region ?_
  refine Ls_run (run_load sc47 rfl (hs.blk_at 1 rfl 0 rfl)) rfl ?_
  refine Ls_call Try.func84 nm84 rfl rfl (bcheck_nil w3) rfl ?_
  rintro v5 w6 ⟨rfl, rfl⟩
  refine Ls_run (run_assign rfl) rfl ?_
  refine Ls_nil ?_
  refine Jm_seq ?_
  refine St_seq ?_
  refine St_region ?_
  refine Ls_run (run_move rfl) rfl ?_
  refine Ls_run (run_asB (c := true) (run_asB (c := true) (run_neq rfl rfl) (by decide)) (by decide)) rfl ?_
  refine Ls_nil ?_
  refine Jm_seq ?_
  refine St_ift rfl ?_
  refine St_seq ?_
  refine St_region ?_
  refine Ls_run (run_move rfl) rfl ?_
  refine Ls_store hs inf29 rfl rfl rfl rfl ?_
  intro w9 hs
  try simp only [List.set_cons_zero, List.set_cons_succ] at hs
  refine Ls_nil ?_
  refine Jm_seq ?_
  refine St_ret ?_
  refine Jm_then_ret  ?_
  refine Jm_retD1c rfl sc29 rfl (hs.blk_at 0 rfl 0 rfl) ?_
  exact ⟨_, rfl, rfl, hs.forget⟩
set_option maxRecDepth 100000 in
set_option maxHeartbeats 1000000 in
theorem rBPut_nil (w : World) (A : Option Addr) (n c : Nat) :
    Calls Try.prog 42 [.pointer none, .slice A n c].toArray w (Ret (fun v' w' => v' = .int .i64 2 ∧ Sat w w' [])) := by
  have hs := Sat.start w
  refine Calls_body Try.func42 rfl rfl rfl (envE_cons (i := 0) (v := .pointer none) rfl (envE_cons (i := 1) (v := .slice A n c) rfl envE_nil)) ?_
  refine St_seq ?_
  refine St_region ?_
  refine Ls_run (run_assign rfl) rfl ?_
  refine Ls_nil ?_
  refine Jm_seq ?_
  refine St_seq ?_
  refine St_seq ?_
  refine St_region ?_
  refine Ls_run (run_move rfl) rfl ?_
  refine Ls_run (run_asB (c := true) (run_eql_ptr_nil Try.underlying74 rfl rfl) rfl) rfl ?_
  refine Ls_nil ?_
  refine Jm_seq ?_
  refine St_ift rfl ?_
  refine St_seq ?_
  refine St_region ?_
  refine Ls_run (run_assign rfl) rfl ?_
  refine Ls_nil ?_
  refine Jm_seq ?_
  refine St_ret ?_
  refine Jm_then_ret  ?_
  refine Jm_ret1 rfl rfl ?_
  exact ⟨_, rfl, rfl, hs⟩
theorem BPutO_c (B w : World) (L : List Assn) (p : Option Addr) (b : Nat) (so : Option BSt) (d : DSt) (hs : Sat B w (BO 122 3 p (some ⟨b, 0, none⟩) so :: DiskA 129 28 5 b d :: L)) (hdok : DOk d) (hbi : OInv so d.bl.length) (A : Option Addr) (n c : Nat) (vs : List KWt) (ws : List Wr) (hr : ∀ w' X, Sat B w' (X :: L) → PWs w' A n c vs ws) (hok : PWok ws) (hn : n ≤ 9223372036854775806) :
    Calls Try.prog 26 [.pointer p, .slice A n c].toArray w (Ret (fun v' w' => v' = .int .i64 (oput dO (fun _ => 80) so d ws).1 ∧ Sat B w' (BO 122 3 p (some ⟨b, 0, none⟩) (oput dO (fun _ => 80) so d ws).2.1 :: DiskA 129 28 5 b (oput dO (fun _ => 80) so d ws).2.2 :: L))) := by
  cases so with
  | none =>
    obtain ⟨rfl, h9⟩ := hs.boNone
    exact (BPut_nil w A n c).mono fun e w' ⟨v, he, hv, h1⟩ => ⟨v, he, hv, by have h2 := hs.trans h1; simp only [List.nil_append] at h2; exact h2⟩
  | some s =>
    obtain ⟨bj, rfl, h9⟩ := hs.boSome
    exact (BPut_g B w L bj b s d h9 hdok (hbi s rfl) A n c vs ws hr hok hn).mono fun e w' ⟨v, he, hv, h1⟩ => ⟨v, he, hv, h1.toBoSome⟩
theorem BGetO_c (B w : World) (L : List Assn) (p : Option Addr) (b : Nat) (so : Option BSt) (d : DSt) (hs : Sat B w (BO 122 3 p (some ⟨b, 0, none⟩) so :: DiskA 129 28 5 b d :: L)) (hdok : DOk d) (hbi : OInv so d.bl.length) (page : Int) :
    Calls Try.prog 31 [.pointer p, .int .i64 page].toArray w (Ret (fun v' w' => ∃ A c, v' = .tuple #[.slice A (oget dO so d page).1.length c, .int .i64 (oget dO so d page).2.1] ∧ Sat B w' (BO 122 3 p (some ⟨b, 0, none⟩) (oget dO so d page).2.2.1 :: DiskA 129 28 5 b (oget dO so d page).2.2.2 :: Own 5 1 (.slice A (oget dO so d page).1.length c) (oget dO so d page).1.length (bytesV (oget dO so d page).1) :: L))) := by
  cases so with
  | none =>
    obtain ⟨rfl, h9⟩ := hs.boNone
    exact (BGet_nil w page).mono fun e w' ⟨v, he, hw, hv⟩ => ⟨v, he, none, 0, hv, by subst hw; exact (hs.own_nil 5 1).rot12⟩
  | some s =>
    obtain ⟨bj, rfl, h9⟩ := hs.boSome
    exact (BGet_g B w L bj b s d h9 hdok (by have := (hbi s rfl).l8; omega) page).mono fun e w' ⟨v, he, A, c, hv, h1⟩ => ⟨v, he, A, c, hv, h1.toBoSome⟩
theorem BUsedO_c (B w : World) (L : List Assn) (p dp : Option Addr) (so : Option BSt) (nb : Nat) (hs : Sat B w (BO 122 3 p dp so :: L)) (hbi : OInv so nb) :
    Calls Try.prog 49 [.pointer p].toArray w (Ret (fun v' w' => w = w' ∧ v' = .int .i64 (oused so : Int))) := by
  cases so with
  | none =>
    obtain ⟨rfl, h9⟩ := hs.boNone
    exact bUsed_nil w
  | some s =>
    obtain ⟨bj, rfl, h9⟩ := hs.boSome
    obtain ⟨Ab, cb, hq⟩ := h9.bopen
    exact (bUsed_c w bj dp s Ab cb (hq.is_at 0 rfl).2 (hq.rd_at 1 rfl) (by have := (hbi s rfl).l8; omega)).mono fun e w' ⟨v, he, h1⟩ => ⟨v, he, ⟨h1.2, h1.1⟩⟩
theorem BPagesO_c (B w : World) (L : List Assn) (p dp : Option Addr) (so : Option BSt) (nb : Nat) (hs : Sat B w (BO 122 3 p dp so :: L)) (hbi : OInv so nb) :
    Calls Try.prog 51 [.pointer p].toArray w (Ret (fun v' w' => w = w' ∧ v' = .int .i64 (opages so : Int))) := by
  cases so with
  | none =>
    obtain ⟨rfl, h9⟩ := hs.boNone
    exact bPages_nil w
  | some s =>
    obtain ⟨bj, rfl, h9⟩ := hs.boSome
    obtain ⟨Ab, cb, hq⟩ := h9.bopen
    exact (bPages_c w bj dp s Ab cb (hq.is_at 0 rfl).2).mono fun e w' ⟨v, he, h1⟩ => ⟨v, he, h1⟩
theorem BEndedO_c (B w : World) (L : List Assn) (p dp : Option Addr) (so : Option BSt) (nb : Nat) (hs : Sat B w (BO 122 3 p dp so :: L)) (hbi : OInv so nb) :
    Calls Try.prog 33 [.pointer p].toArray w (Ret (fun v' w' => w = w' ∧ v' = .bool (oended so))) := by
  cases so with
  | none =>
    obtain ⟨rfl, h9⟩ := hs.boNone
    exact bEnded_nil w
  | some s =>
    obtain ⟨bj, rfl, h9⟩ := hs.boSome
    obtain ⟨Ab, cb, hq⟩ := h9.bopen
    exact (bEnded_c w bj dp s Ab cb (hq.is_at 0 rfl).2).mono fun e w' ⟨v, he, h1⟩ => ⟨v, he, h1⟩
theorem rBPutO_c (B w : World) (L : List Assn) (p : Option Addr) (b : Nat) (so : Option BSt) (d : RSt) (hs : Sat B w (QO 138 3 p (some ⟨b, 0, none⟩) so :: RefA 135 28 5 b d :: L)) (hdok : ROk d) (hbi : OInv so d.bl.length) (A : Option Addr) (n c : Nat) (vs : List KWt) (ws : List Wr) (hr : ∀ w' X, Sat B w' (X :: L) → PWs w' A n c vs ws) (hok : PWok ws) (hn : n ≤ 9223372036854775806) :
    Calls Try.prog 42 [.pointer p, .slice A n c].toArray w (Ret (fun v' w' => v' = .int .i64 (oput rO (fun e => e) so d ws).1 ∧ Sat B w' (QO 138 3 p (some ⟨b, 0, none⟩) (oput rO (fun e => e) so d ws).2.1 :: RefA 135 28 5 b (oput rO (fun e => e) so d ws).2.2 :: L))) := by
  cases so with
  | none =>
    obtain ⟨rfl, h9⟩ := hs.qoNone
    exact (rBPut_nil w A n c).mono fun e w' ⟨v, he, hv, h1⟩ => ⟨v, he, hv, by have h2 := hs.trans h1; simp only [List.nil_append] at h2; exact h2⟩
  | some s =>
    obtain ⟨bj, rfl, h9⟩ := hs.qoSome
    exact (rBPut_g B w L bj b s d h9 hdok (hbi s rfl) A n c vs ws hr hok hn).mono fun e w' ⟨v, he, hv, h1⟩ => ⟨v, he, hv, h1.toQoSome⟩
theorem rBGetO_c (B w : World) (L : List Assn) (p : Option Addr) (b : Nat) (so : Option BSt) (d : RSt) (hs : Sat B w (QO 138 3 p (some ⟨b, 0, none⟩) so :: RefA 135 28 5 b d :: L)) (hdok : ROk d) (hbi : OInv so d.bl.length) (page : Int) :
    Calls Try.prog 43 [.pointer p, .int .i64 page].toArray w (Ret (fun v' w' => ∃ A c, v' = .tuple #[.slice A (oget rO so d page).1.length c, .int .i64 (oget rO so d page).2.1] ∧ Sat B w' (QO 138 3 p (some ⟨b, 0, none⟩) (oget rO so d page).2.2.1 :: RefA 135 28 5 b (oget rO so d page).2.2.2 :: Own 5 1 (.slice A (oget rO so d page).1.length c) (oget rO so d page).1.length (bytesV (oget rO so d page).1) :: L))) := by
  cases so with
  | none =>
    obtain ⟨rfl, h9⟩ := hs.qoNone
    exact (rBGet_nil w page).mono fun e w' ⟨v, he, hw, hv⟩ => ⟨v, he, none, 0, hv, by subst hw; exact (hs.own_nil 5 1).rot12⟩
  | some s =>
    obtain ⟨bj, rfl, h9⟩ := hs.qoSome
    exact (rBGet_g B w L bj b s d h9 hdok (by have := (hbi s rfl).l8; omega) page).mono fun e w' ⟨v, he, A, c, hv, h1⟩ => ⟨v, he, A, c, hv, h1.toQoSome⟩
theorem rBUsedO_c (B w : World) (L : List Assn) (p dp : Option Addr) (so : Option BSt) (nb : Nat) (hs : Sat B w (QO 138 3 p dp so :: L)) (hbi : OInv so nb) :
    Calls Try.prog 50 [.pointer p].toArray w (Ret (fun v' w' => w = w' ∧ v' = .int .i64 (oused so : Int))) := by
  cases so with
  | none =>
    obtain ⟨rfl, h9⟩ := hs.qoNone
    exact qUsed_nil w
  | some s =>
    obtain ⟨bj, rfl, h9⟩ := hs.qoSome
    obtain ⟨Ab, cb, hq⟩ := h9.qopen
    exact (qUsed_c w bj dp s Ab cb (hq.is_at 0 rfl).2 (hq.rd_at 1 rfl) (by have := (hbi s rfl).l8; omega)).mono fun e w' ⟨v, he, h1⟩ => ⟨v, he, ⟨h1.2, h1.1⟩⟩
theorem rBPagesO_c (B w : World) (L : List Assn) (p dp : Option Addr) (so : Option BSt) (nb : Nat) (hs : Sat B w (QO 138 3 p dp so :: L)) (hbi : OInv so nb) :
    Calls Try.prog 52 [.pointer p].toArray w (Ret (fun v' w' => w = w' ∧ v' = .int .i64 (opages so : Int))) := by
  cases so with
  | none =>
    obtain ⟨rfl, h9⟩ := hs.qoNone
    exact qPages_nil w
  | some s =>
    obtain ⟨bj, rfl, h9⟩ := hs.qoSome
    obtain ⟨Ab, cb, hq⟩ := h9.qopen
    exact (qPages_c w bj dp s Ab cb (hq.is_at 0 rfl).2).mono fun e w' ⟨v, he, h1⟩ => ⟨v, he, h1⟩
theorem rBEndedO_c (B w : World) (L : List Assn) (p dp : Option Addr) (so : Option BSt) (nb : Nat) (hs : Sat B w (QO 138 3 p dp so :: L)) (hbi : OInv so nb) :
    Calls Try.prog 53 [.pointer p].toArray w (Ret (fun v' w' => w = w' ∧ v' = .bool (oended so))) := by
  cases so with
  | none =>
    obtain ⟨rfl, h9⟩ := hs.qoNone
    exact qEnded_nil w
  | some s =>
    obtain ⟨bj, rfl, h9⟩ := hs.qoSome
    obtain ⟨Ab, cb, hq⟩ := h9.qopen
    exact (qEnded_c w bj dp s Ab cb (hq.is_at 0 rfl).2).mono fun e w' ⟨v, he, h1⟩ => ⟨v, he, h1⟩
end Go.Proofs.Ytipkfdeiallifaa.Lg
