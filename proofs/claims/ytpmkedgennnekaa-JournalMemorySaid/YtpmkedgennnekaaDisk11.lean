/-
  One call of a disk and of the reference's, and what they answer: right. By program (gen/disk11.py).
-/
import Derived.Test.YtpmkedgennnekaaDisk10
import Derived.Test.YtpmkedgennnekaaDiskO
set_option linter.unusedVariables false
set_option linter.unusedSimpArgs false
namespace Go.Proofs.Ytpmkedgennnekaa.Lg
open Go Go.RowKit
theorem Sat.rhd {B w : World} {TD TS TB b : Nat} {s : RSt} {L : List Assn} (hs : Sat B w (RefA TD TS TB b s :: L)) : ∃ (A : Option Addr) (c : Nat), w.heap[b]? = some (.cells (rcells s A c).toArray TD (0, 0)) := by
  obtain ⟨vs, A, c, _, h⟩ := hs.ropen
  exact ⟨A, c, (h.is_at 0 rfl).2⟩
theorem Sat.swap2 {B w : World} {X Y : Assn} {L : List Assn} (hs : Sat B w (X :: Y :: L)) : Sat B w (Y :: X :: L) := hs.perm (List.Perm.swap _ _ _)
theorem rwrite_left {s : RSt} {i : Int} {b : List Int} (h : s.left ≤ 9223372036854775807) : (rwrite s i b).2.left ≤ 9223372036854775807 := by
  unfold rwrite
  split
  · exact h
  · split
    · exact h
    · split
      · simp [roff]
      · show (if 0 < s.left then s.left - 1 else s.left) ≤ _
        split <;> omega
set_option maxRecDepth 100000 in
set_option maxHeartbeats 4000000 in
theorem right_c (B w : World) (L : List Assn) (b bq : Nat) (d : DSt) (r : RSt) (hs : Sat B w (DiskA 85 31 5 b d :: RefA 92 31 5 bq r :: L)) (hdr : DR d r) (kd on pi : Int) (A : Option Addr) (n c : Nat) (l : List Int) (hr : Rd B A n c 1 (bytesV l)) (hbs : IsBytes l) (hn : n ≤ 4194304) (hpi : pi ≤ 9223372036854775807) :
    Calls Try.prog 27 [.pointer (some ⟨b, 0, none⟩), .pointer (some ⟨bq, 0, none⟩), .agg #[.int .i64 kd, .int .i64 on, .int .i64 pi, .slice A n c]].toArray w (Ret (fun v' w' => v' = .bool true ∧ ∃ d' r', Sat B w' (DiskA 85 31 5 b d' :: RefA 92 31 5 bq r' :: L) ∧ DR d' r')) := by
  refine Calls_body Try.func27 rfl rfl rfl (envE_cons (i := 0) (v := .pointer (some ⟨b, 0, none⟩)) rfl (envE_cons (i := 1) (v := .pointer (some ⟨bq, 0, none⟩)) rfl (envE_cons (i := 2) (v := .agg #[.int .i64 kd, .int .i64 on, .int .i64 pi, .slice A n c]) rfl envE_nil))) ?_
  refine St_seq ?_
  refine St_region ?_
  refine Ls_box hs rfl rfl ?_
  intro b2 w1 hs
  refine Ls_run (run_assign rfl) rfl ?_
  refine Ls_nil ?_
  refine Jm_seq ?_
  refine St_seq ?_
  refine St_seq ?_
  refine St_region ?_
  refine Ls_run (run_field Try.underlying54 rfl inf3 (by decide) rfl) rfl ?_
  refine Ls_run (run_load sc3 rfl (hs.blk_at 0 rfl 0 rfl)) rfl ?_
  refine Ls_nil ?_
  refine Jm_seq ?_
  refine St_block ?_
  refine St_seq ?_
  refine St_region ?_
  refine Ls_run (run_eql rfl rfl) rfl ?_
  refine Ls_run (run_assign rfl) rfl ?_
  refine Ls_nil ?_
  refine Jm_seq ?_
  refine St_ifP rfl (fun h3 => ?_) (fun h3 => ?_)
  · skip
    refine St_seq ?_
    refine St_hold (Hold.of (Ls := [_]) hs) mixed ?_
    intro w4 q5
    replace hs := hs.quiet q5
    have hH := Hold.of (Ls := [_]) hs
    refine An_take 0 rfl (by kernel_rfl) (by kernel_rfl) (by kernel_rfl) (fun _ _ _ h => h) hH (fun x hx => run_move rfl) rfl ?_
    refine An_take 1 rfl (by kernel_rfl) (by kernel_rfl) (by kernel_rfl) (fun _ _ _ h => h) hH (fun x hx => run_field Try.underlying54 rfl inf3 (by decide) rfl) rfl ?_
    refine An_take 2 rfl (by kernel_rfl) (by kernel_rfl) (by kernel_rfl) (fun _ _ _ h => h) hH (fun x hx => run_load sc3 rfl (hx.choose_spec.blk_at 0 rfl 2 rfl)) rfl ?_
    refine An_take 3 rfl (by kernel_rfl) (by kernel_rfl) (by kernel_rfl) (fun _ _ _ h => h) hH (fun x hx => run_field Try.underlying54 rfl inf31 (by decide) rfl) rfl ?_
    refine An_take 4 rfl (by kernel_rfl) (by kernel_rfl) (by kernel_rfl) (fun _ _ _ h => h) hH (fun x hx => run_load sc31 rfl (hx.choose_spec.blk_at 0 rfl 3 rfl)) rfl ?_
    refine An_take 6 rfl (by kernel_rfl) (by kernel_rfl) (by kernel_rfl) (fun _ _ _ h => h) hH (fun x hx => run_move rfl) rfl ?_
    refine An_take 7 rfl (by kernel_rfl) (by kernel_rfl) (by kernel_rfl) (fun _ _ _ h => h) hH (fun x hx => run_field Try.underlying54 rfl inf3 (by decide) rfl) rfl ?_
    refine An_take 8 rfl (by kernel_rfl) (by kernel_rfl) (by kernel_rfl) (fun _ _ _ h => h) hH (fun x hx => run_load sc3 rfl (hx.choose_spec.blk_at 0 rfl 2 rfl)) rfl ?_
    refine An_take 9 rfl (by kernel_rfl) (by kernel_rfl) (by kernel_rfl) (fun _ _ _ h => h) hH (fun x hx => run_field Try.underlying54 rfl inf31 (by decide) rfl) rfl ?_
    refine An_take 10 rfl (by kernel_rfl) (by kernel_rfl) (by kernel_rfl) (fun _ _ _ h => h) hH (fun x hx => run_load sc31 rfl (hx.choose_spec.blk_at 0 rfl 3 rfl)) rfl ?_
    refine An_only 5 (by kernel_rfl) rfl ?_
    replace hs := hs.front 1 rfl
    simp only [List.cons_append, List.nil_append, List.eraseIdx_cons_zero, List.eraseIdx_cons_succ] at hs
    refine Ls_call Try.func17 nm17 rfl rfl (Write_c B w4 _ b d hs (fun x hx => (hdr.2.1 x hx).2) pi A n c l (fun w' X q => hr.inB q) (by omega)) rfl ?_
    rintro v6 w7 ⟨rfl, hs⟩
    replace hs := hs.front 1 rfl
    simp only [List.cons_append, List.nil_append, List.eraseIdx_cons_zero, List.eraseIdx_cons_succ] at hs
    replace hH := Hold.of (Ls := [_]) hs
    refine Ls_nil (Jm_An hH ?_)
    refine An_only 11 (by kernel_rfl) rfl ?_
    replace hs := hs.front 2 rfl
    simp only [List.cons_append, List.nil_append, List.eraseIdx_cons_zero, List.eraseIdx_cons_succ] at hs
    refine Ls_call Try.func59 nm59 rfl rfl (rWrite_c B w7 _ bq r hs hdr.rows ⟨hdr.1.2.2.2.2.1, hdr.2.2.2⟩ pi A n c l (fun w' X q => hr.inB q) (by omega)) rfl ?_
    rintro v8 w9 ⟨rfl, hs⟩
    replace hs := hs.front 1 rfl
    simp only [List.cons_append, List.nil_append, List.eraseIdx_cons_zero, List.eraseIdx_cons_succ] at hs
    replace hH := Hold.of (Ls := [_]) hs
    refine Ls_nil (Jm_An hH ?_)
    refine An_take 12 rfl (by kernel_rfl) (by kernel_rfl) (by kernel_rfl) (fun _ _ _ h => h) hH (fun x hx => run_asB (c := true) (run_eql rfl rfl) (by rw [(alike_write hdr.1 hdr.2.2.2 pi l).1]; simp)) rfl ?_
    refine An_take 13 rfl (by kernel_rfl) (by kernel_rfl) (by kernel_rfl) (fun _ _ _ h => h) hH (fun x hx => run_assign rfl) rfl ?_
    refine An_done (by kernel_rfl) ?_
    refine Jm_seq ?_
    refine St_ret ?_
    refine Jm_block_ret (Jm_then_ret  ?_)
    refine Jm_ret1 rfl rfl ?_
    replace hs := hs.erase 0
    simp only [List.cons_append, List.nil_append, List.eraseIdx_cons_zero, List.eraseIdx_cons_succ] at hs
    replace hs := hs.front 1 rfl
    simp only [List.cons_append, List.nil_append, List.eraseIdx_cons_zero, List.eraseIdx_cons_succ] at hs
    exact ⟨_, rfl, rfl, _, _, hs, (alike_write hdr.1 hdr.2.2.2 pi l).2, (dwrite_keeps d pi l hdr.2.1 (fun h => ⟨hbs, h⟩)).1, by rw [(dwrite_keeps d pi l hdr.2.1 (fun h => ⟨hbs, h⟩)).2]; exact hdr.2.2.1, rwrite_left hdr.2.2.2⟩
  · skip
    refine St_seq ?_
    refine St_region ?_
    refine Ls_run (run_eql rfl rfl) rfl ?_
    refine Ls_run (run_assign rfl) rfl ?_
    refine Ls_nil ?_
    refine Jm_seq ?_
    refine St_ifP rfl (fun h10 => ?_) (fun h10 => ?_)
    · skip
      refine St_seq ?_
      refine St_region ?_
      refine Ls_run (run_move rfl) rfl ?_
      refine Ls_run (run_field Try.underlying54 rfl inf3 (by decide) rfl) rfl ?_
      refine Ls_run (run_load sc3 rfl (hs.blk_at 0 rfl 2 rfl)) rfl ?_
      replace hs := hs.front 1 rfl
      simp only [List.cons_append, List.nil_append, List.eraseIdx_cons_zero, List.eraseIdx_cons_succ] at hs
      refine Ls_call Try.func18 nm18 rfl rfl (Read_c B w1 _ b d hs (fun x hx => (hdr.2.1 x hx).2) pi) rfl ?_
      rintro v11 w12 ⟨Aa, ca, rfl, hs⟩
      refine Ls_run (run_move rfl) rfl ?_
      refine Ls_run (run_extract rfl rfl) rfl ?_
      refine Ls_run (run_extract rfl rfl) rfl ?_
      refine Ls_run (run_assign rfl) rfl ?_
      refine Ls_run (run_assign rfl) rfl ?_
      refine Ls_nil ?_
      refine Jm_seq ?_
      refine St_seq ?_
      refine St_region ?_
      refine Ls_run (run_move rfl) rfl ?_
      refine Ls_run (run_field Try.underlying54 rfl inf3 (by decide) rfl) rfl ?_
      refine Ls_run (run_load sc3 rfl (hs.blk_at 2 rfl 2 rfl)) rfl ?_
      replace hs := hs.front 3 rfl
      simp only [List.cons_append, List.nil_append, List.eraseIdx_cons_zero, List.eraseIdx_cons_succ] at hs
      refine Ls_call Try.func60 nm60 rfl rfl (rRead_c B w12 _ bq r hs hdr.rows pi) rfl ?_
      rintro v13 w14 ⟨Ab, cb, rfl, hs⟩
      refine Ls_run (run_move rfl) rfl ?_
      refine Ls_run (run_extract rfl rfl) rfl ?_
      refine Ls_run (run_extract rfl rfl) rfl ?_
      refine Ls_run (run_assign rfl) rfl ?_
      refine Ls_run (run_assign rfl) rfl ?_
      refine Ls_nil ?_
      refine Jm_seq ?_
      refine St_seq ?_
      refine St_region ?_
      refine Ls_run (run_move rfl) rfl ?_
      refine Ls_run (run_move rfl) rfl ?_
      refine Ls_run (run_asB (c := true) (run_eql rfl rfl) (by rw [(alike_read hdr.1 pi).2.1]; simp)) rfl ?_
      refine Ls_run (run_move rfl) rfl ?_
      refine Ls_on rfl rfl ?_
      refine Ls_run (run_move rfl) rfl ?_
      refine Ls_on rfl rfl ?_
      refine Ls_run (run_string Try.underlying31 Try.underlying5 Try.underlying9 rfl (hs.rd_at 3 rfl)) rfl ?_
      refine Ls_on rfl rfl ?_
      refine Ls_run (run_move rfl) rfl ?_
      refine Ls_on rfl rfl ?_
      refine Ls_run (run_string Try.underlying31 Try.underlying5 Try.underlying9 rfl (hs.rd_at 1 rfl)) rfl ?_
      refine Ls_on rfl rfl ?_
      refine Ls_run (run_asB (c := true) (run_eql_str rfl rfl) (by rw [(alike_read hdr.1 pi).1]; simp)) rfl ?_
      refine Ls_run (run_pick_t rfl rfl) rfl ?_
      refine Ls_run (run_assign rfl) rfl ?_
      refine Ls_nil ?_
      refine Jm_seq ?_
      refine St_ret ?_
      refine Jm_block_ret (Jm_then_ret  ?_)
      refine Jm_ret1 rfl rfl ?_
      replace hs := hs.erase 1
      simp only [List.cons_append, List.nil_append, List.eraseIdx_cons_zero, List.eraseIdx_cons_succ] at hs
      replace hs := hs.erase 2
      simp only [List.cons_append, List.nil_append, List.eraseIdx_cons_zero, List.eraseIdx_cons_succ] at hs
      replace hs := hs.erase 2
      simp only [List.cons_append, List.nil_append, List.eraseIdx_cons_zero, List.eraseIdx_cons_succ] at hs
      replace hs := hs.front 1 rfl
      simp only [List.cons_append, List.nil_append, List.eraseIdx_cons_zero, List.eraseIdx_cons_succ] at hs
      exact ⟨_, rfl, rfl, _, _, hs, hdr.read pi⟩
    · skip
      refine St_seq ?_
      refine St_region ?_
      refine Ls_run (run_eql rfl rfl) rfl ?_
      refine Ls_run (run_assign rfl) rfl ?_
      refine Ls_nil ?_
      refine Jm_seq ?_
      refine St_ifP rfl (fun h15 => ?_) (fun h15 => ?_)
      · skip
        refine St_seq ?_
        refine St_region ?_
        refine Ls_run (run_move rfl) rfl ?_
        refine Ls_run (run_field Try.underlying54 rfl inf3 (by decide) rfl) rfl ?_
        refine Ls_run (run_load sc3 rfl (hs.blk_at 0 rfl 2 rfl)) rfl ?_
        replace hs := hs.front 1 rfl
        simp only [List.cons_append, List.nil_append, List.eraseIdx_cons_zero, List.eraseIdx_cons_succ] at hs
        obtain ⟨vs0, A0, c0, hv0, hs⟩ := hs.dopen
        refine Ls_call Try.func14 nm14 rfl rfl (Cut_c B w1 _ b d A0 c0 hs pi) rfl ?_
        rintro v16 w17 ⟨rfl, hs⟩
        replace hs := Sat.dshut (s := dcut d pi) hv0 hs
        refine Ls_nil ?_
        refine Jm_seq ?_
        refine St_region ?_
        refine Ls_run (run_move rfl) rfl ?_
        refine Ls_run (run_field Try.underlying54 rfl inf3 (by decide) rfl) rfl ?_
        refine Ls_run (run_load sc3 rfl (hs.blk_at 1 rfl 2 rfl)) rfl ?_
        replace hs := hs.front 2 rfl
        simp only [List.cons_append, List.nil_append, List.eraseIdx_cons_zero, List.eraseIdx_cons_succ] at hs
        obtain ⟨vs1, A1, c1, hv1, hs⟩ := hs.ropen
        refine Ls_call Try.func40 nm40 rfl rfl (rCut_c B w17 _ bq r A1 c1 hs pi) rfl ?_
        rintro v18 w19 ⟨rfl, hs⟩
        replace hs := Sat.rshut (s := rcut r pi) hv1 hs
        refine Ls_nil ?_
        refine Jm_block_normal (Jm_seq ?_)
        refine St_seq ?_
        refine St_region ?_
        refine Ls_run (run_move rfl) rfl ?_
        replace hs := hs.front 1 rfl
        simp only [List.cons_append, List.nil_append, List.eraseIdx_cons_zero, List.eraseIdx_cons_succ] at hs
        obtain ⟨A0, c0, hd0⟩ := hs.dhd
        refine Ls_call Try.func16 nm16 rfl rfl (Down_c w19 b _ A0 c0 hd0) rfl ?_
        rintro v20 w21 ⟨rfl, rfl⟩
        refine Ls_run (run_move rfl) rfl ?_
        replace hs := hs.front 1 rfl
        simp only [List.cons_append, List.nil_append, List.eraseIdx_cons_zero, List.eraseIdx_cons_succ] at hs
        obtain ⟨A0, c0, hd0⟩ := hs.rhd
        refine Ls_call Try.func61 nm61 rfl rfl (rDown_c w19 bq _ A0 c0 hd0) rfl ?_
        rintro v22 w23 ⟨rfl, rfl⟩
        refine Ls_run (run_asB (c := true) (run_eql_bool Try.underlying4 rfl rfl) (by rw [(hdr.cut hpi).1.2.1]; simp)) rfl ?_
        refine Ls_run (run_move rfl) rfl ?_
        refine Ls_on rfl rfl ?_
        refine Ls_run (run_move rfl) rfl ?_
        refine Ls_on rfl rfl ?_
        replace hs := hs.front 1 rfl
        simp only [List.cons_append, List.nil_append, List.eraseIdx_cons_zero, List.eraseIdx_cons_succ] at hs
        obtain ⟨A0, c0, hd0⟩ := hs.dhd
        refine Ls_call Try.func29 nm29 rfl rfl (Blocks_c w19 b _ A0 c0 hd0) rfl ?_
        rintro v24 w25 ⟨rfl, rfl⟩
        refine Ls_on rfl rfl ?_
        refine Ls_run (run_move rfl) rfl ?_
        refine Ls_on rfl rfl ?_
        replace hs := hs.front 1 rfl
        simp only [List.cons_append, List.nil_append, List.eraseIdx_cons_zero, List.eraseIdx_cons_succ] at hs
        obtain ⟨A0, c0, hd0⟩ := hs.rhd
        refine Ls_call Try.func62 nm62 rfl rfl (rBlocks_c w19 bq _ A0 c0 hd0) rfl ?_
        rintro v26 w27 ⟨rfl, rfl⟩
        refine Ls_on rfl rfl ?_
        refine Ls_run (run_asB (c := true) (run_eql rfl rfl) (by rw [(hdr.cut hpi).1.1]; simp)) rfl ?_
        refine Ls_run (run_pick_t rfl rfl) rfl ?_
        refine Ls_run (run_move rfl) rfl ?_
        refine Ls_on rfl rfl ?_
        refine Ls_run (run_move rfl) rfl ?_
        refine Ls_on rfl rfl ?_
        replace hs := hs.front 1 rfl
        simp only [List.cons_append, List.nil_append, List.eraseIdx_cons_zero, List.eraseIdx_cons_succ] at hs
        obtain ⟨A0, c0, hd0⟩ := hs.dhd
        refine Ls_call Try.func30 nm30 rfl rfl (Reads_c w19 b _ A0 c0 hd0) rfl ?_
        rintro v28 w29 ⟨rfl, rfl⟩
        refine Ls_on rfl rfl ?_
        refine Ls_run (run_move rfl) rfl ?_
        refine Ls_on rfl rfl ?_
        replace hs := hs.front 1 rfl
        simp only [List.cons_append, List.nil_append, List.eraseIdx_cons_zero, List.eraseIdx_cons_succ] at hs
        obtain ⟨A0, c0, hd0⟩ := hs.rhd
        refine Ls_call Try.func63 nm63 rfl rfl (rReads_c w19 bq _ A0 c0 hd0) rfl ?_
        rintro v30 w31 ⟨rfl, rfl⟩
        refine Ls_on rfl rfl ?_
        refine Ls_run (run_asB (c := true) (run_eql rfl rfl) (by rw [(hdr.cut hpi).1.2.2.1]; simp)) rfl ?_
        refine Ls_run (run_pick_t rfl rfl) rfl ?_
        refine Ls_run (run_move rfl) rfl ?_
        refine Ls_on rfl rfl ?_
        refine Ls_run (run_move rfl) rfl ?_
        refine Ls_on rfl rfl ?_
        replace hs := hs.front 1 rfl
        simp only [List.cons_append, List.nil_append, List.eraseIdx_cons_zero, List.eraseIdx_cons_succ] at hs
        obtain ⟨A0, c0, hd0⟩ := hs.dhd
        refine Ls_call Try.func19 nm19 rfl rfl (Writes_c w19 b _ A0 c0 hd0) rfl ?_
        rintro v32 w33 ⟨rfl, rfl⟩
        refine Ls_on rfl rfl ?_
        refine Ls_run (run_move rfl) rfl ?_
        refine Ls_on rfl rfl ?_
        replace hs := hs.front 1 rfl
        simp only [List.cons_append, List.nil_append, List.eraseIdx_cons_zero, List.eraseIdx_cons_succ] at hs
        obtain ⟨A0, c0, hd0⟩ := hs.rhd
        refine Ls_call Try.func47 nm47 rfl rfl (rWrites_c w19 bq _ A0 c0 hd0) rfl ?_
        rintro v34 w35 ⟨rfl, rfl⟩
        refine Ls_on rfl rfl ?_
        refine Ls_run (run_asB (c := true) (run_eql rfl rfl) (by rw [(hdr.cut hpi).1.2.2.2.1]; simp)) rfl ?_
        refine Ls_run (run_pick_t rfl rfl) rfl ?_
        refine Ls_run (run_assign rfl) rfl ?_
        refine Ls_nil ?_
        refine Jm_seq ?_
        refine St_ret ?_
        refine Jm_ret1 rfl rfl ?_
        replace hs := hs.erase 2
        simp only [List.cons_append, List.nil_append, List.eraseIdx_cons_zero, List.eraseIdx_cons_succ] at hs
        replace hs := hs.front 1 rfl
        simp only [List.cons_append, List.nil_append, List.eraseIdx_cons_zero, List.eraseIdx_cons_succ] at hs
        exact ⟨_, rfl, rfl, _, _, hs, (hdr.cut hpi)⟩
      · skip
        refine St_seq ?_
        refine St_region ?_
        refine Ls_run (run_eql rfl rfl) rfl ?_
        refine Ls_run (run_assign rfl) rfl ?_
        refine Ls_nil ?_
        refine Jm_seq ?_
        refine St_ifP rfl (fun h36 => ?_) (fun h36 => ?_)
        · skip
          refine St_seq ?_
          refine St_region ?_
          refine Ls_run (run_move rfl) rfl ?_
          replace hs := hs.front 1 rfl
          simp only [List.cons_append, List.nil_append, List.eraseIdx_cons_zero, List.eraseIdx_cons_succ] at hs
          obtain ⟨vs0, A0, c0, hv0, hs⟩ := hs.dopen
          refine Ls_call Try.func23 nm23 rfl rfl (Off_c B w1 _ b d A0 c0 hs) rfl ?_
          rintro v37 w38 ⟨rfl, hs⟩
          replace hs := Sat.dshut (s := doff d) hv0 hs
          refine Ls_nil ?_
          refine Jm_seq ?_
          refine St_region ?_
          refine Ls_run (run_move rfl) rfl ?_
          replace hs := hs.front 2 rfl
          simp only [List.cons_append, List.nil_append, List.eraseIdx_cons_zero, List.eraseIdx_cons_succ] at hs
          obtain ⟨vs1, A1, c1, hv1, hs⟩ := hs.ropen
          refine Ls_call Try.func41 nm41 rfl rfl (rOff_c B w38 _ bq r A1 c1 hs) rfl ?_
          rintro v39 w40 ⟨rfl, hs⟩
          replace hs := Sat.rshut (s := roff r) hv1 hs
          refine Ls_nil ?_
          refine Jm_block_normal (Jm_seq ?_)
          refine St_seq ?_
          refine St_region ?_
          refine Ls_run (run_move rfl) rfl ?_
          replace hs := hs.front 1 rfl
          simp only [List.cons_append, List.nil_append, List.eraseIdx_cons_zero, List.eraseIdx_cons_succ] at hs
          obtain ⟨A0, c0, hd0⟩ := hs.dhd
          refine Ls_call Try.func16 nm16 rfl rfl (Down_c w40 b _ A0 c0 hd0) rfl ?_
          rintro v41 w42 ⟨rfl, rfl⟩
          refine Ls_run (run_move rfl) rfl ?_
          replace hs := hs.front 1 rfl
          simp only [List.cons_append, List.nil_append, List.eraseIdx_cons_zero, List.eraseIdx_cons_succ] at hs
          obtain ⟨A0, c0, hd0⟩ := hs.rhd
          refine Ls_call Try.func61 nm61 rfl rfl (rDown_c w40 bq _ A0 c0 hd0) rfl ?_
          rintro v43 w44 ⟨rfl, rfl⟩
          refine Ls_run (run_asB (c := true) (run_eql_bool Try.underlying4 rfl rfl) (by rw [hdr.off.1.2.1]; simp)) rfl ?_
          refine Ls_run (run_move rfl) rfl ?_
          refine Ls_on rfl rfl ?_
          refine Ls_run (run_move rfl) rfl ?_
          refine Ls_on rfl rfl ?_
          replace hs := hs.front 1 rfl
          simp only [List.cons_append, List.nil_append, List.eraseIdx_cons_zero, List.eraseIdx_cons_succ] at hs
          obtain ⟨A0, c0, hd0⟩ := hs.dhd
          refine Ls_call Try.func29 nm29 rfl rfl (Blocks_c w40 b _ A0 c0 hd0) rfl ?_
          rintro v45 w46 ⟨rfl, rfl⟩
          refine Ls_on rfl rfl ?_
          refine Ls_run (run_move rfl) rfl ?_
          refine Ls_on rfl rfl ?_
          replace hs := hs.front 1 rfl
          simp only [List.cons_append, List.nil_append, List.eraseIdx_cons_zero, List.eraseIdx_cons_succ] at hs
          obtain ⟨A0, c0, hd0⟩ := hs.rhd
          refine Ls_call Try.func62 nm62 rfl rfl (rBlocks_c w40 bq _ A0 c0 hd0) rfl ?_
          rintro v47 w48 ⟨rfl, rfl⟩
          refine Ls_on rfl rfl ?_
          refine Ls_run (run_asB (c := true) (run_eql rfl rfl) (by rw [hdr.off.1.1]; simp)) rfl ?_
          refine Ls_run (run_pick_t rfl rfl) rfl ?_
          refine Ls_run (run_move rfl) rfl ?_
          refine Ls_on rfl rfl ?_
          refine Ls_run (run_move rfl) rfl ?_
          refine Ls_on rfl rfl ?_
          replace hs := hs.front 1 rfl
          simp only [List.cons_append, List.nil_append, List.eraseIdx_cons_zero, List.eraseIdx_cons_succ] at hs
          obtain ⟨A0, c0, hd0⟩ := hs.dhd
          refine Ls_call Try.func30 nm30 rfl rfl (Reads_c w40 b _ A0 c0 hd0) rfl ?_
          rintro v49 w50 ⟨rfl, rfl⟩
          refine Ls_on rfl rfl ?_
          refine Ls_run (run_move rfl) rfl ?_
          refine Ls_on rfl rfl ?_
          replace hs := hs.front 1 rfl
          simp only [List.cons_append, List.nil_append, List.eraseIdx_cons_zero, List.eraseIdx_cons_succ] at hs
          obtain ⟨A0, c0, hd0⟩ := hs.rhd
          refine Ls_call Try.func63 nm63 rfl rfl (rReads_c w40 bq _ A0 c0 hd0) rfl ?_
          rintro v51 w52 ⟨rfl, rfl⟩
          refine Ls_on rfl rfl ?_
          refine Ls_run (run_asB (c := true) (run_eql rfl rfl) (by rw [hdr.off.1.2.2.1]; simp)) rfl ?_
          refine Ls_run (run_pick_t rfl rfl) rfl ?_
          refine Ls_run (run_move rfl) rfl ?_
          refine Ls_on rfl rfl ?_
          refine Ls_run (run_move rfl) rfl ?_
          refine Ls_on rfl rfl ?_
          replace hs := hs.front 1 rfl
          simp only [List.cons_append, List.nil_append, List.eraseIdx_cons_zero, List.eraseIdx_cons_succ] at hs
          obtain ⟨A0, c0, hd0⟩ := hs.dhd
          refine Ls_call Try.func19 nm19 rfl rfl (Writes_c w40 b _ A0 c0 hd0) rfl ?_
          rintro v53 w54 ⟨rfl, rfl⟩
          refine Ls_on rfl rfl ?_
          refine Ls_run (run_move rfl) rfl ?_
          refine Ls_on rfl rfl ?_
          replace hs := hs.front 1 rfl
          simp only [List.cons_append, List.nil_append, List.eraseIdx_cons_zero, List.eraseIdx_cons_succ] at hs
          obtain ⟨A0, c0, hd0⟩ := hs.rhd
          refine Ls_call Try.func47 nm47 rfl rfl (rWrites_c w40 bq _ A0 c0 hd0) rfl ?_
          rintro v55 w56 ⟨rfl, rfl⟩
          refine Ls_on rfl rfl ?_
          refine Ls_run (run_asB (c := true) (run_eql rfl rfl) (by rw [hdr.off.1.2.2.2.1]; simp)) rfl ?_
          refine Ls_run (run_pick_t rfl rfl) rfl ?_
          refine Ls_run (run_assign rfl) rfl ?_
          refine Ls_nil ?_
          refine Jm_seq ?_
          refine St_ret ?_
          refine Jm_ret1 rfl rfl ?_
          replace hs := hs.erase 2
          simp only [List.cons_append, List.nil_append, List.eraseIdx_cons_zero, List.eraseIdx_cons_succ] at hs
          replace hs := hs.front 1 rfl
          simp only [List.cons_append, List.nil_append, List.eraseIdx_cons_zero, List.eraseIdx_cons_succ] at hs
          exact ⟨_, rfl, rfl, _, _, hs, hdr.off⟩
        · skip
          refine St_seq ?_
          refine St_region ?_
          refine Ls_run (run_eql rfl rfl) rfl ?_
          refine Ls_run (run_assign rfl) rfl ?_
          refine Ls_nil ?_
          refine Jm_seq ?_
          refine St_ifP rfl (fun h57 => ?_) (fun h57 => ?_)
          · skip
            refine St_seq ?_
            refine St_region ?_
            refine Ls_run (run_move rfl) rfl ?_
            replace hs := hs.front 1 rfl
            simp only [List.cons_append, List.nil_append, List.eraseIdx_cons_zero, List.eraseIdx_cons_succ] at hs
            obtain ⟨vs0, A0, c0, hv0, hs⟩ := hs.dopen
            refine Ls_call Try.func22 nm22 rfl rfl (On_c B w1 _ b d A0 c0 hs) rfl ?_
            rintro v58 w59 ⟨rfl, hs⟩
            replace hs := Sat.dshut (s := don d) hv0 hs
            refine Ls_nil ?_
            refine Jm_seq ?_
            refine St_region ?_
            refine Ls_run (run_move rfl) rfl ?_
            replace hs := hs.front 2 rfl
            simp only [List.cons_append, List.nil_append, List.eraseIdx_cons_zero, List.eraseIdx_cons_succ] at hs
            obtain ⟨vs1, A1, c1, hv1, hs⟩ := hs.ropen
            refine Ls_call Try.func42 nm42 rfl rfl (rOn_c B w59 _ bq r A1 c1 hs) rfl ?_
            rintro v60 w61 ⟨rfl, hs⟩
            replace hs := Sat.rshut (s := ron r) hv1 hs
            refine Ls_nil ?_
            refine Jm_block_normal (Jm_seq ?_)
            refine St_seq ?_
            refine St_region ?_
            refine Ls_run (run_move rfl) rfl ?_
            replace hs := hs.front 1 rfl
            simp only [List.cons_append, List.nil_append, List.eraseIdx_cons_zero, List.eraseIdx_cons_succ] at hs
            obtain ⟨A0, c0, hd0⟩ := hs.dhd
            refine Ls_call Try.func16 nm16 rfl rfl (Down_c w61 b _ A0 c0 hd0) rfl ?_
            rintro v62 w63 ⟨rfl, rfl⟩
            refine Ls_run (run_move rfl) rfl ?_
            replace hs := hs.front 1 rfl
            simp only [List.cons_append, List.nil_append, List.eraseIdx_cons_zero, List.eraseIdx_cons_succ] at hs
            obtain ⟨A0, c0, hd0⟩ := hs.rhd
            refine Ls_call Try.func61 nm61 rfl rfl (rDown_c w61 bq _ A0 c0 hd0) rfl ?_
            rintro v64 w65 ⟨rfl, rfl⟩
            refine Ls_run (run_asB (c := true) (run_eql_bool Try.underlying4 rfl rfl) (by rw [hdr.on.1.2.1]; simp)) rfl ?_
            refine Ls_run (run_move rfl) rfl ?_
            refine Ls_on rfl rfl ?_
            refine Ls_run (run_move rfl) rfl ?_
            refine Ls_on rfl rfl ?_
            replace hs := hs.front 1 rfl
            simp only [List.cons_append, List.nil_append, List.eraseIdx_cons_zero, List.eraseIdx_cons_succ] at hs
            obtain ⟨A0, c0, hd0⟩ := hs.dhd
            refine Ls_call Try.func29 nm29 rfl rfl (Blocks_c w61 b _ A0 c0 hd0) rfl ?_
            rintro v66 w67 ⟨rfl, rfl⟩
            refine Ls_on rfl rfl ?_
            refine Ls_run (run_move rfl) rfl ?_
            refine Ls_on rfl rfl ?_
            replace hs := hs.front 1 rfl
            simp only [List.cons_append, List.nil_append, List.eraseIdx_cons_zero, List.eraseIdx_cons_succ] at hs
            obtain ⟨A0, c0, hd0⟩ := hs.rhd
            refine Ls_call Try.func62 nm62 rfl rfl (rBlocks_c w61 bq _ A0 c0 hd0) rfl ?_
            rintro v68 w69 ⟨rfl, rfl⟩
            refine Ls_on rfl rfl ?_
            refine Ls_run (run_asB (c := true) (run_eql rfl rfl) (by rw [hdr.on.1.1]; simp)) rfl ?_
            refine Ls_run (run_pick_t rfl rfl) rfl ?_
            refine Ls_run (run_move rfl) rfl ?_
            refine Ls_on rfl rfl ?_
            refine Ls_run (run_move rfl) rfl ?_
            refine Ls_on rfl rfl ?_
            replace hs := hs.front 1 rfl
            simp only [List.cons_append, List.nil_append, List.eraseIdx_cons_zero, List.eraseIdx_cons_succ] at hs
            obtain ⟨A0, c0, hd0⟩ := hs.dhd
            refine Ls_call Try.func30 nm30 rfl rfl (Reads_c w61 b _ A0 c0 hd0) rfl ?_
            rintro v70 w71 ⟨rfl, rfl⟩
            refine Ls_on rfl rfl ?_
            refine Ls_run (run_move rfl) rfl ?_
            refine Ls_on rfl rfl ?_
            replace hs := hs.front 1 rfl
            simp only [List.cons_append, List.nil_append, List.eraseIdx_cons_zero, List.eraseIdx_cons_succ] at hs
            obtain ⟨A0, c0, hd0⟩ := hs.rhd
            refine Ls_call Try.func63 nm63 rfl rfl (rReads_c w61 bq _ A0 c0 hd0) rfl ?_
            rintro v72 w73 ⟨rfl, rfl⟩
            refine Ls_on rfl rfl ?_
            refine Ls_run (run_asB (c := true) (run_eql rfl rfl) (by rw [hdr.on.1.2.2.1]; simp)) rfl ?_
            refine Ls_run (run_pick_t rfl rfl) rfl ?_
            refine Ls_run (run_move rfl) rfl ?_
            refine Ls_on rfl rfl ?_
            refine Ls_run (run_move rfl) rfl ?_
            refine Ls_on rfl rfl ?_
            replace hs := hs.front 1 rfl
            simp only [List.cons_append, List.nil_append, List.eraseIdx_cons_zero, List.eraseIdx_cons_succ] at hs
            obtain ⟨A0, c0, hd0⟩ := hs.dhd
            refine Ls_call Try.func19 nm19 rfl rfl (Writes_c w61 b _ A0 c0 hd0) rfl ?_
            rintro v74 w75 ⟨rfl, rfl⟩
            refine Ls_on rfl rfl ?_
            refine Ls_run (run_move rfl) rfl ?_
            refine Ls_on rfl rfl ?_
            replace hs := hs.front 1 rfl
            simp only [List.cons_append, List.nil_append, List.eraseIdx_cons_zero, List.eraseIdx_cons_succ] at hs
            obtain ⟨A0, c0, hd0⟩ := hs.rhd
            refine Ls_call Try.func47 nm47 rfl rfl (rWrites_c w61 bq _ A0 c0 hd0) rfl ?_
            rintro v76 w77 ⟨rfl, rfl⟩
            refine Ls_on rfl rfl ?_
            refine Ls_run (run_asB (c := true) (run_eql rfl rfl) (by rw [hdr.on.1.2.2.2.1]; simp)) rfl ?_
            refine Ls_run (run_pick_t rfl rfl) rfl ?_
            refine Ls_run (run_assign rfl) rfl ?_
            refine Ls_nil ?_
            refine Jm_seq ?_
            refine St_ret ?_
            refine Jm_ret1 rfl rfl ?_
            replace hs := hs.erase 2
            simp only [List.cons_append, List.nil_append, List.eraseIdx_cons_zero, List.eraseIdx_cons_succ] at hs
            replace hs := hs.front 1 rfl
            simp only [List.cons_append, List.nil_append, List.eraseIdx_cons_zero, List.eraseIdx_cons_succ] at hs
            exact ⟨_, rfl, rfl, _, _, hs, hdr.on⟩
          · skip
            refine St_skip ?_
            refine Jm_block_normal (Jm_seq ?_)
            refine St_seq ?_
            refine St_region ?_
            refine Ls_run (run_move rfl) rfl ?_
            replace hs := hs.front 1 rfl
            simp only [List.cons_append, List.nil_append, List.eraseIdx_cons_zero, List.eraseIdx_cons_succ] at hs
            obtain ⟨A0, c0, hd0⟩ := hs.dhd
            refine Ls_call Try.func16 nm16 rfl rfl (Down_c w1 b _ A0 c0 hd0) rfl ?_
            rintro v78 w79 ⟨rfl, rfl⟩
            refine Ls_run (run_move rfl) rfl ?_
            replace hs := hs.front 2 rfl
            simp only [List.cons_append, List.nil_append, List.eraseIdx_cons_zero, List.eraseIdx_cons_succ] at hs
            obtain ⟨A0, c0, hd0⟩ := hs.rhd
            refine Ls_call Try.func61 nm61 rfl rfl (rDown_c w1 bq _ A0 c0 hd0) rfl ?_
            rintro v80 w81 ⟨rfl, rfl⟩
            refine Ls_run (run_asB (c := true) (run_eql_bool Try.underlying4 rfl rfl) (by rw [hdr.1.2.1]; simp)) rfl ?_
            refine Ls_run (run_move rfl) rfl ?_
            refine Ls_on rfl rfl ?_
            refine Ls_run (run_move rfl) rfl ?_
            refine Ls_on rfl rfl ?_
            replace hs := hs.front 1 rfl
            simp only [List.cons_append, List.nil_append, List.eraseIdx_cons_zero, List.eraseIdx_cons_succ] at hs
            obtain ⟨A0, c0, hd0⟩ := hs.dhd
            refine Ls_call Try.func29 nm29 rfl rfl (Blocks_c w1 b _ A0 c0 hd0) rfl ?_
            rintro v82 w83 ⟨rfl, rfl⟩
            refine Ls_on rfl rfl ?_
            refine Ls_run (run_move rfl) rfl ?_
            refine Ls_on rfl rfl ?_
            replace hs := hs.front 1 rfl
            simp only [List.cons_append, List.nil_append, List.eraseIdx_cons_zero, List.eraseIdx_cons_succ] at hs
            obtain ⟨A0, c0, hd0⟩ := hs.rhd
            refine Ls_call Try.func62 nm62 rfl rfl (rBlocks_c w1 bq _ A0 c0 hd0) rfl ?_
            rintro v84 w85 ⟨rfl, rfl⟩
            refine Ls_on rfl rfl ?_
            refine Ls_run (run_asB (c := true) (run_eql rfl rfl) (by rw [hdr.1.1]; simp)) rfl ?_
            refine Ls_run (run_pick_t rfl rfl) rfl ?_
            refine Ls_run (run_move rfl) rfl ?_
            refine Ls_on rfl rfl ?_
            refine Ls_run (run_move rfl) rfl ?_
            refine Ls_on rfl rfl ?_
            replace hs := hs.front 1 rfl
            simp only [List.cons_append, List.nil_append, List.eraseIdx_cons_zero, List.eraseIdx_cons_succ] at hs
            obtain ⟨A0, c0, hd0⟩ := hs.dhd
            refine Ls_call Try.func30 nm30 rfl rfl (Reads_c w1 b _ A0 c0 hd0) rfl ?_
            rintro v86 w87 ⟨rfl, rfl⟩
            refine Ls_on rfl rfl ?_
            refine Ls_run (run_move rfl) rfl ?_
            refine Ls_on rfl rfl ?_
            replace hs := hs.front 1 rfl
            simp only [List.cons_append, List.nil_append, List.eraseIdx_cons_zero, List.eraseIdx_cons_succ] at hs
            obtain ⟨A0, c0, hd0⟩ := hs.rhd
            refine Ls_call Try.func63 nm63 rfl rfl (rReads_c w1 bq _ A0 c0 hd0) rfl ?_
            rintro v88 w89 ⟨rfl, rfl⟩
            refine Ls_on rfl rfl ?_
            refine Ls_run (run_asB (c := true) (run_eql rfl rfl) (by rw [hdr.1.2.2.1]; simp)) rfl ?_
            refine Ls_run (run_pick_t rfl rfl) rfl ?_
            refine Ls_run (run_move rfl) rfl ?_
            refine Ls_on rfl rfl ?_
            refine Ls_run (run_move rfl) rfl ?_
            refine Ls_on rfl rfl ?_
            replace hs := hs.front 1 rfl
            simp only [List.cons_append, List.nil_append, List.eraseIdx_cons_zero, List.eraseIdx_cons_succ] at hs
            obtain ⟨A0, c0, hd0⟩ := hs.dhd
            refine Ls_call Try.func19 nm19 rfl rfl (Writes_c w1 b _ A0 c0 hd0) rfl ?_
            rintro v90 w91 ⟨rfl, rfl⟩
            refine Ls_on rfl rfl ?_
            refine Ls_run (run_move rfl) rfl ?_
            refine Ls_on rfl rfl ?_
            replace hs := hs.front 1 rfl
            simp only [List.cons_append, List.nil_append, List.eraseIdx_cons_zero, List.eraseIdx_cons_succ] at hs
            obtain ⟨A0, c0, hd0⟩ := hs.rhd
            refine Ls_call Try.func47 nm47 rfl rfl (rWrites_c w1 bq _ A0 c0 hd0) rfl ?_
            rintro v92 w93 ⟨rfl, rfl⟩
            refine Ls_on rfl rfl ?_
            refine Ls_run (run_asB (c := true) (run_eql rfl rfl) (by rw [hdr.1.2.2.2.1]; simp)) rfl ?_
            refine Ls_run (run_pick_t rfl rfl) rfl ?_
            refine Ls_run (run_assign rfl) rfl ?_
            refine Ls_nil ?_
            refine Jm_seq ?_
            refine St_ret ?_
            refine Jm_ret1 rfl rfl ?_
            replace hs := hs.erase 2
            simp only [List.cons_append, List.nil_append, List.eraseIdx_cons_zero, List.eraseIdx_cons_succ] at hs
            replace hs := hs.front 1 rfl
            simp only [List.cons_append, List.nil_append, List.eraseIdx_cons_zero, List.eraseIdx_cons_succ] at hs
            exact ⟨_, rfl, rfl, _, _, hs, hdr⟩
set_option maxRecDepth 100000 in
set_option maxHeartbeats 4000000 in
theorem right_nil (B w : World) (L : List Assn) (hs : Sat B w L) (kd on pi : Int) (A : Option Addr) (n c : Nat) (l : List Int) (hr : Rd B A n c 1 (bytesV l)) (hbs : IsBytes l) (hn : n ≤ 4194304) (hpi : pi ≤ 9223372036854775807) :
    Calls Try.prog 27 [.pointer none, .pointer none, .agg #[.int .i64 kd, .int .i64 on, .int .i64 pi, .slice A n c]].toArray w (Ret (fun v' w' => v' = .bool true ∧ Sat B w' L)) := by
  refine Calls_body Try.func27 rfl rfl rfl (envE_cons (i := 0) (v := .pointer none) rfl (envE_cons (i := 1) (v := .pointer none) rfl (envE_cons (i := 2) (v := .agg #[.int .i64 kd, .int .i64 on, .int .i64 pi, .slice A n c]) rfl envE_nil))) ?_
  refine St_seq ?_
  refine St_region ?_
  refine Ls_box hs rfl rfl ?_
  intro b2 w1 hs
  refine Ls_run (run_assign rfl) rfl ?_
  refine Ls_nil ?_
  refine Jm_seq ?_
  refine St_seq ?_
  refine St_seq ?_
  refine St_region ?_
  refine Ls_run (run_field Try.underlying54 rfl inf3 (by decide) rfl) rfl ?_
  refine Ls_run (run_load sc3 rfl (hs.blk_at 0 rfl 0 rfl)) rfl ?_
  refine Ls_nil ?_
  refine Jm_seq ?_
  refine St_block ?_
  refine St_seq ?_
  refine St_region ?_
  refine Ls_run (run_eql rfl rfl) rfl ?_
  refine Ls_run (run_assign rfl) rfl ?_
  refine Ls_nil ?_
  refine Jm_seq ?_
  refine St_ifP rfl (fun h3 => ?_) (fun h3 => ?_)
  · skip
    refine St_seq ?_
    refine St_hold (Hold.of (Ls := [_]) hs) mixed ?_
    intro w4 q5
    replace hs := hs.quiet q5
    have hH := Hold.of (Ls := [_]) hs
    refine An_take 0 rfl (by kernel_rfl) (by kernel_rfl) (by kernel_rfl) (fun _ _ _ h => h) hH (fun x hx => run_move rfl) rfl ?_
    refine An_take 1 rfl (by kernel_rfl) (by kernel_rfl) (by kernel_rfl) (fun _ _ _ h => h) hH (fun x hx => run_field Try.underlying54 rfl inf3 (by decide) rfl) rfl ?_
    refine An_take 2 rfl (by kernel_rfl) (by kernel_rfl) (by kernel_rfl) (fun _ _ _ h => h) hH (fun x hx => run_load sc3 rfl (hx.choose_spec.blk_at 0 rfl 2 rfl)) rfl ?_
    refine An_take 3 rfl (by kernel_rfl) (by kernel_rfl) (by kernel_rfl) (fun _ _ _ h => h) hH (fun x hx => run_field Try.underlying54 rfl inf31 (by decide) rfl) rfl ?_
    refine An_take 4 rfl (by kernel_rfl) (by kernel_rfl) (by kernel_rfl) (fun _ _ _ h => h) hH (fun x hx => run_load sc31 rfl (hx.choose_spec.blk_at 0 rfl 3 rfl)) rfl ?_
    refine An_take 6 rfl (by kernel_rfl) (by kernel_rfl) (by kernel_rfl) (fun _ _ _ h => h) hH (fun x hx => run_move rfl) rfl ?_
    refine An_take 7 rfl (by kernel_rfl) (by kernel_rfl) (by kernel_rfl) (fun _ _ _ h => h) hH (fun x hx => run_field Try.underlying54 rfl inf3 (by decide) rfl) rfl ?_
    refine An_take 8 rfl (by kernel_rfl) (by kernel_rfl) (by kernel_rfl) (fun _ _ _ h => h) hH (fun x hx => run_load sc3 rfl (hx.choose_spec.blk_at 0 rfl 2 rfl)) rfl ?_
    refine An_take 9 rfl (by kernel_rfl) (by kernel_rfl) (by kernel_rfl) (fun _ _ _ h => h) hH (fun x hx => run_field Try.underlying54 rfl inf31 (by decide) rfl) rfl ?_
    refine An_take 10 rfl (by kernel_rfl) (by kernel_rfl) (by kernel_rfl) (fun _ _ _ h => h) hH (fun x hx => run_load sc31 rfl (hx.choose_spec.blk_at 0 rfl 3 rfl)) rfl ?_
    refine An_only 5 (by kernel_rfl) rfl ?_
    refine Ls_call Try.func17 nm17 rfl rfl (Write_nil w4 pi A n c) rfl ?_
    rintro v6 w7 ⟨rfl, rfl⟩
    replace hH := Hold.of (Ls := [_]) hs
    refine Ls_nil (Jm_An hH ?_)
    refine An_only 11 (by kernel_rfl) rfl ?_
    refine Ls_call Try.func59 nm59 rfl rfl (rWrite_nil w4 pi A n c) rfl ?_
    rintro v8 w9 ⟨rfl, rfl⟩
    replace hH := Hold.of (Ls := [_]) hs
    refine Ls_nil (Jm_An hH ?_)
    refine An_take 12 rfl (by kernel_rfl) (by kernel_rfl) (by kernel_rfl) (fun _ _ _ h => h) hH (fun x hx => run_asB (c := true) (run_eql rfl rfl) (by decide)) rfl ?_
    refine An_take 13 rfl (by kernel_rfl) (by kernel_rfl) (by kernel_rfl) (fun _ _ _ h => h) hH (fun x hx => run_assign rfl) rfl ?_
    refine An_done (by kernel_rfl) ?_
    refine Jm_seq ?_
    refine St_ret ?_
    refine Jm_block_ret (Jm_then_ret  ?_)
    refine Jm_ret1 rfl rfl ?_
    exact ⟨_, rfl, rfl, hs.tail⟩
  · skip
    refine St_seq ?_
    refine St_region ?_
    refine Ls_run (run_eql rfl rfl) rfl ?_
    refine Ls_run (run_assign rfl) rfl ?_
    refine Ls_nil ?_
    refine Jm_seq ?_
    refine St_ifP rfl (fun h10 => ?_) (fun h10 => ?_)
    · skip
      refine St_seq ?_
      refine St_region ?_
      refine Ls_run (run_move rfl) rfl ?_
      refine Ls_run (run_field Try.underlying54 rfl inf3 (by decide) rfl) rfl ?_
      refine Ls_run (run_load sc3 rfl (hs.blk_at 0 rfl 2 rfl)) rfl ?_
      refine Ls_call Try.func18 nm18 rfl rfl (Read_nil w1 pi) rfl ?_
      rintro v11 w12 ⟨rfl, rfl⟩
      refine Ls_run (run_move rfl) rfl ?_
      refine Ls_run (run_extract rfl rfl) rfl ?_
      refine Ls_run (run_extract rfl rfl) rfl ?_
      refine Ls_run (run_assign rfl) rfl ?_
      refine Ls_run (run_assign rfl) rfl ?_
      refine Ls_nil ?_
      refine Jm_seq ?_
      refine St_seq ?_
      refine St_region ?_
      refine Ls_run (run_move rfl) rfl ?_
      refine Ls_run (run_field Try.underlying54 rfl inf3 (by decide) rfl) rfl ?_
      refine Ls_run (run_load sc3 rfl (hs.blk_at 0 rfl 2 rfl)) rfl ?_
      refine Ls_call Try.func60 nm60 rfl rfl (rRead_nil w1 pi) rfl ?_
      rintro v13 w14 ⟨rfl, rfl⟩
      refine Ls_run (run_move rfl) rfl ?_
      refine Ls_run (run_extract rfl rfl) rfl ?_
      refine Ls_run (run_extract rfl rfl) rfl ?_
      refine Ls_run (run_assign rfl) rfl ?_
      refine Ls_run (run_assign rfl) rfl ?_
      refine Ls_nil ?_
      refine Jm_seq ?_
      refine St_seq ?_
      refine St_region ?_
      refine Ls_run (run_move rfl) rfl ?_
      refine Ls_run (run_move rfl) rfl ?_
      refine Ls_run (run_asB (c := true) (run_eql rfl rfl) (by decide)) rfl ?_
      refine Ls_run (run_move rfl) rfl ?_
      refine Ls_on rfl rfl ?_
      refine Ls_run (run_move rfl) rfl ?_
      refine Ls_on rfl rfl ?_
      refine Ls_run (run_string Try.underlying31 Try.underlying5 Try.underlying9 rfl ((show Rd _ none 0 0 1 (bytesV []) from Rd.none _ 1))) rfl ?_
      refine Ls_on rfl rfl ?_
      refine Ls_run (run_move rfl) rfl ?_
      refine Ls_on rfl rfl ?_
      refine Ls_run (run_string Try.underlying31 Try.underlying5 Try.underlying9 rfl ((show Rd _ none 0 0 1 (bytesV []) from Rd.none _ 1))) rfl ?_
      refine Ls_on rfl rfl ?_
      refine Ls_run (run_asB (c := true) (run_eql_str rfl rfl) (by simp)) rfl ?_
      refine Ls_run (run_pick_t rfl rfl) rfl ?_
      refine Ls_run (run_assign rfl) rfl ?_
      refine Ls_nil ?_
      refine Jm_seq ?_
      refine St_ret ?_
      refine Jm_block_ret (Jm_then_ret  ?_)
      refine Jm_ret1 rfl rfl ?_
      exact ⟨_, rfl, rfl, hs.tail⟩
    · skip
      refine St_seq ?_
      refine St_region ?_
      refine Ls_run (run_eql rfl rfl) rfl ?_
      refine Ls_run (run_assign rfl) rfl ?_
      refine Ls_nil ?_
      refine Jm_seq ?_
      refine St_ifP rfl (fun h15 => ?_) (fun h15 => ?_)
      · skip
        refine St_seq ?_
        refine St_region ?_
        refine Ls_run (run_move rfl) rfl ?_
        refine Ls_run (run_field Try.underlying54 rfl inf3 (by decide) rfl) rfl ?_
        refine Ls_run (run_load sc3 rfl (hs.blk_at 0 rfl 2 rfl)) rfl ?_
        refine Ls_call Try.func14 nm14 rfl rfl (Cut_nil w1 pi) rfl ?_
        rintro v16 w17 ⟨rfl, rfl⟩
        refine Ls_nil ?_
        refine Jm_seq ?_
        refine St_region ?_
        refine Ls_run (run_move rfl) rfl ?_
        refine Ls_run (run_field Try.underlying54 rfl inf3 (by decide) rfl) rfl ?_
        refine Ls_run (run_load sc3 rfl (hs.blk_at 0 rfl 2 rfl)) rfl ?_
        refine Ls_call Try.func40 nm40 rfl rfl (rCut_nil w1 pi) rfl ?_
        rintro v18 w19 ⟨rfl, rfl⟩
        refine Ls_nil ?_
        refine Jm_block_normal (Jm_seq ?_)
        refine St_seq ?_
        refine St_region ?_
        refine Ls_run (run_move rfl) rfl ?_
        refine Ls_call Try.func16 nm16 rfl rfl (Down_nil w1) rfl ?_
        rintro v20 w21 ⟨rfl, rfl⟩
        refine Ls_run (run_move rfl) rfl ?_
        refine Ls_call Try.func61 nm61 rfl rfl (rDown_nil w1) rfl ?_
        rintro v22 w23 ⟨rfl, rfl⟩
        refine Ls_run (run_asB (c := true) (run_eql_bool Try.underlying4 rfl rfl) rfl) rfl ?_
        refine Ls_run (run_move rfl) rfl ?_
        refine Ls_on rfl rfl ?_
        refine Ls_run (run_move rfl) rfl ?_
        refine Ls_on rfl rfl ?_
        refine Ls_call Try.func29 nm29 rfl rfl (Blocks_nil w1) rfl ?_
        rintro v24 w25 ⟨rfl, rfl⟩
        refine Ls_on rfl rfl ?_
        refine Ls_run (run_move rfl) rfl ?_
        refine Ls_on rfl rfl ?_
        refine Ls_call Try.func62 nm62 rfl rfl (rBlocks_nil w1) rfl ?_
        rintro v26 w27 ⟨rfl, rfl⟩
        refine Ls_on rfl rfl ?_
        refine Ls_run (run_asB (c := true) (run_eql rfl rfl) (by decide)) rfl ?_
        refine Ls_run (run_pick_t rfl rfl) rfl ?_
        refine Ls_run (run_move rfl) rfl ?_
        refine Ls_on rfl rfl ?_
        refine Ls_run (run_move rfl) rfl ?_
        refine Ls_on rfl rfl ?_
        refine Ls_call Try.func30 nm30 rfl rfl (Reads_nil w1) rfl ?_
        rintro v28 w29 ⟨rfl, rfl⟩
        refine Ls_on rfl rfl ?_
        refine Ls_run (run_move rfl) rfl ?_
        refine Ls_on rfl rfl ?_
        refine Ls_call Try.func63 nm63 rfl rfl (rReads_nil w1) rfl ?_
        rintro v30 w31 ⟨rfl, rfl⟩
        refine Ls_on rfl rfl ?_
        refine Ls_run (run_asB (c := true) (run_eql rfl rfl) (by decide)) rfl ?_
        refine Ls_run (run_pick_t rfl rfl) rfl ?_
        refine Ls_run (run_move rfl) rfl ?_
        refine Ls_on rfl rfl ?_
        refine Ls_run (run_move rfl) rfl ?_
        refine Ls_on rfl rfl ?_
        refine Ls_call Try.func19 nm19 rfl rfl (Writes_nil w1) rfl ?_
        rintro v32 w33 ⟨rfl, rfl⟩
        refine Ls_on rfl rfl ?_
        refine Ls_run (run_move rfl) rfl ?_
        refine Ls_on rfl rfl ?_
        refine Ls_call Try.func47 nm47 rfl rfl (rWrites_nil w1) rfl ?_
        rintro v34 w35 ⟨rfl, rfl⟩
        refine Ls_on rfl rfl ?_
        refine Ls_run (run_asB (c := true) (run_eql rfl rfl) (by decide)) rfl ?_
        refine Ls_run (run_pick_t rfl rfl) rfl ?_
        refine Ls_run (run_assign rfl) rfl ?_
        refine Ls_nil ?_
        refine Jm_seq ?_
        refine St_ret ?_
        refine Jm_ret1 rfl rfl ?_
        exact ⟨_, rfl, rfl, hs.tail⟩
      · skip
        refine St_seq ?_
        refine St_region ?_
        refine Ls_run (run_eql rfl rfl) rfl ?_
        refine Ls_run (run_assign rfl) rfl ?_
        refine Ls_nil ?_
        refine Jm_seq ?_
        refine St_ifP rfl (fun h36 => ?_) (fun h36 => ?_)
        · skip
          refine St_seq ?_
          refine St_region ?_
          refine Ls_run (run_move rfl) rfl ?_
          refine Ls_call Try.func23 nm23 rfl rfl (Off_nil w1) rfl ?_
          rintro v37 w38 ⟨rfl, rfl⟩
          refine Ls_nil ?_
          refine Jm_seq ?_
          refine St_region ?_
          refine Ls_run (run_move rfl) rfl ?_
          refine Ls_call Try.func41 nm41 rfl rfl (rOff_nil w1) rfl ?_
          rintro v39 w40 ⟨rfl, rfl⟩
          refine Ls_nil ?_
          refine Jm_block_normal (Jm_seq ?_)
          refine St_seq ?_
          refine St_region ?_
          refine Ls_run (run_move rfl) rfl ?_
          refine Ls_call Try.func16 nm16 rfl rfl (Down_nil w1) rfl ?_
          rintro v41 w42 ⟨rfl, rfl⟩
          refine Ls_run (run_move rfl) rfl ?_
          refine Ls_call Try.func61 nm61 rfl rfl (rDown_nil w1) rfl ?_
          rintro v43 w44 ⟨rfl, rfl⟩
          refine Ls_run (run_asB (c := true) (run_eql_bool Try.underlying4 rfl rfl) rfl) rfl ?_
          refine Ls_run (run_move rfl) rfl ?_
          refine Ls_on rfl rfl ?_
          refine Ls_run (run_move rfl) rfl ?_
          refine Ls_on rfl rfl ?_
          refine Ls_call Try.func29 nm29 rfl rfl (Blocks_nil w1) rfl ?_
          rintro v45 w46 ⟨rfl, rfl⟩
          refine Ls_on rfl rfl ?_
          refine Ls_run (run_move rfl) rfl ?_
          refine Ls_on rfl rfl ?_
          refine Ls_call Try.func62 nm62 rfl rfl (rBlocks_nil w1) rfl ?_
          rintro v47 w48 ⟨rfl, rfl⟩
          refine Ls_on rfl rfl ?_
          refine Ls_run (run_asB (c := true) (run_eql rfl rfl) (by decide)) rfl ?_
          refine Ls_run (run_pick_t rfl rfl) rfl ?_
          refine Ls_run (run_move rfl) rfl ?_
          refine Ls_on rfl rfl ?_
          refine Ls_run (run_move rfl) rfl ?_
          refine Ls_on rfl rfl ?_
          refine Ls_call Try.func30 nm30 rfl rfl (Reads_nil w1) rfl ?_
          rintro v49 w50 ⟨rfl, rfl⟩
          refine Ls_on rfl rfl ?_
          refine Ls_run (run_move rfl) rfl ?_
          refine Ls_on rfl rfl ?_
          refine Ls_call Try.func63 nm63 rfl rfl (rReads_nil w1) rfl ?_
          rintro v51 w52 ⟨rfl, rfl⟩
          refine Ls_on rfl rfl ?_
          refine Ls_run (run_asB (c := true) (run_eql rfl rfl) (by decide)) rfl ?_
          refine Ls_run (run_pick_t rfl rfl) rfl ?_
          refine Ls_run (run_move rfl) rfl ?_
          refine Ls_on rfl rfl ?_
          refine Ls_run (run_move rfl) rfl ?_
          refine Ls_on rfl rfl ?_
          refine Ls_call Try.func19 nm19 rfl rfl (Writes_nil w1) rfl ?_
          rintro v53 w54 ⟨rfl, rfl⟩
          refine Ls_on rfl rfl ?_
          refine Ls_run (run_move rfl) rfl ?_
          refine Ls_on rfl rfl ?_
          refine Ls_call Try.func47 nm47 rfl rfl (rWrites_nil w1) rfl ?_
          rintro v55 w56 ⟨rfl, rfl⟩
          refine Ls_on rfl rfl ?_
          refine Ls_run (run_asB (c := true) (run_eql rfl rfl) (by decide)) rfl ?_
          refine Ls_run (run_pick_t rfl rfl) rfl ?_
          refine Ls_run (run_assign rfl) rfl ?_
          refine Ls_nil ?_
          refine Jm_seq ?_
          refine St_ret ?_
          refine Jm_ret1 rfl rfl ?_
          exact ⟨_, rfl, rfl, hs.tail⟩
        · skip
          refine St_seq ?_
          refine St_region ?_
          refine Ls_run (run_eql rfl rfl) rfl ?_
          refine Ls_run (run_assign rfl) rfl ?_
          refine Ls_nil ?_
          refine Jm_seq ?_
          refine St_ifP rfl (fun h57 => ?_) (fun h57 => ?_)
          · skip
            refine St_seq ?_
            refine St_region ?_
            refine Ls_run (run_move rfl) rfl ?_
            refine Ls_call Try.func22 nm22 rfl rfl (On_nil w1) rfl ?_
            rintro v58 w59 ⟨rfl, rfl⟩
            refine Ls_nil ?_
            refine Jm_seq ?_
            refine St_region ?_
            refine Ls_run (run_move rfl) rfl ?_
            refine Ls_call Try.func42 nm42 rfl rfl (rOn_nil w1) rfl ?_
            rintro v60 w61 ⟨rfl, rfl⟩
            refine Ls_nil ?_
            refine Jm_block_normal (Jm_seq ?_)
            refine St_seq ?_
            refine St_region ?_
            refine Ls_run (run_move rfl) rfl ?_
            refine Ls_call Try.func16 nm16 rfl rfl (Down_nil w1) rfl ?_
            rintro v62 w63 ⟨rfl, rfl⟩
            refine Ls_run (run_move rfl) rfl ?_
            refine Ls_call Try.func61 nm61 rfl rfl (rDown_nil w1) rfl ?_
            rintro v64 w65 ⟨rfl, rfl⟩
            refine Ls_run (run_asB (c := true) (run_eql_bool Try.underlying4 rfl rfl) rfl) rfl ?_
            refine Ls_run (run_move rfl) rfl ?_
            refine Ls_on rfl rfl ?_
            refine Ls_run (run_move rfl) rfl ?_
            refine Ls_on rfl rfl ?_
            refine Ls_call Try.func29 nm29 rfl rfl (Blocks_nil w1) rfl ?_
            rintro v66 w67 ⟨rfl, rfl⟩
            refine Ls_on rfl rfl ?_
            refine Ls_run (run_move rfl) rfl ?_
            refine Ls_on rfl rfl ?_
            refine Ls_call Try.func62 nm62 rfl rfl (rBlocks_nil w1) rfl ?_
            rintro v68 w69 ⟨rfl, rfl⟩
            refine Ls_on rfl rfl ?_
            refine Ls_run (run_asB (c := true) (run_eql rfl rfl) (by decide)) rfl ?_
            refine Ls_run (run_pick_t rfl rfl) rfl ?_
            refine Ls_run (run_move rfl) rfl ?_
            refine Ls_on rfl rfl ?_
            refine Ls_run (run_move rfl) rfl ?_
            refine Ls_on rfl rfl ?_
            refine Ls_call Try.func30 nm30 rfl rfl (Reads_nil w1) rfl ?_
            rintro v70 w71 ⟨rfl, rfl⟩
            refine Ls_on rfl rfl ?_
            refine Ls_run (run_move rfl) rfl ?_
            refine Ls_on rfl rfl ?_
            refine Ls_call Try.func63 nm63 rfl rfl (rReads_nil w1) rfl ?_
            rintro v72 w73 ⟨rfl, rfl⟩
            refine Ls_on rfl rfl ?_
            refine Ls_run (run_asB (c := true) (run_eql rfl rfl) (by decide)) rfl ?_
            refine Ls_run (run_pick_t rfl rfl) rfl ?_
            refine Ls_run (run_move rfl) rfl ?_
            refine Ls_on rfl rfl ?_
            refine Ls_run (run_move rfl) rfl ?_
            refine Ls_on rfl rfl ?_
            refine Ls_call Try.func19 nm19 rfl rfl (Writes_nil w1) rfl ?_
            rintro v74 w75 ⟨rfl, rfl⟩
            refine Ls_on rfl rfl ?_
            refine Ls_run (run_move rfl) rfl ?_
            refine Ls_on rfl rfl ?_
            refine Ls_call Try.func47 nm47 rfl rfl (rWrites_nil w1) rfl ?_
            rintro v76 w77 ⟨rfl, rfl⟩
            refine Ls_on rfl rfl ?_
            refine Ls_run (run_asB (c := true) (run_eql rfl rfl) (by decide)) rfl ?_
            refine Ls_run (run_pick_t rfl rfl) rfl ?_
            refine Ls_run (run_assign rfl) rfl ?_
            refine Ls_nil ?_
            refine Jm_seq ?_
            refine St_ret ?_
            refine Jm_ret1 rfl rfl ?_
            exact ⟨_, rfl, rfl, hs.tail⟩
          · skip
            refine St_skip ?_
            refine Jm_block_normal (Jm_seq ?_)
            refine St_seq ?_
            refine St_region ?_
            refine Ls_run (run_move rfl) rfl ?_
            refine Ls_call Try.func16 nm16 rfl rfl (Down_nil w1) rfl ?_
            rintro v78 w79 ⟨rfl, rfl⟩
            refine Ls_run (run_move rfl) rfl ?_
            refine Ls_call Try.func61 nm61 rfl rfl (rDown_nil w1) rfl ?_
            rintro v80 w81 ⟨rfl, rfl⟩
            refine Ls_run (run_asB (c := true) (run_eql_bool Try.underlying4 rfl rfl) rfl) rfl ?_
            refine Ls_run (run_move rfl) rfl ?_
            refine Ls_on rfl rfl ?_
            refine Ls_run (run_move rfl) rfl ?_
            refine Ls_on rfl rfl ?_
            refine Ls_call Try.func29 nm29 rfl rfl (Blocks_nil w1) rfl ?_
            rintro v82 w83 ⟨rfl, rfl⟩
            refine Ls_on rfl rfl ?_
            refine Ls_run (run_move rfl) rfl ?_
            refine Ls_on rfl rfl ?_
            refine Ls_call Try.func62 nm62 rfl rfl (rBlocks_nil w1) rfl ?_
            rintro v84 w85 ⟨rfl, rfl⟩
            refine Ls_on rfl rfl ?_
            refine Ls_run (run_asB (c := true) (run_eql rfl rfl) (by decide)) rfl ?_
            refine Ls_run (run_pick_t rfl rfl) rfl ?_
            refine Ls_run (run_move rfl) rfl ?_
            refine Ls_on rfl rfl ?_
            refine Ls_run (run_move rfl) rfl ?_
            refine Ls_on rfl rfl ?_
            refine Ls_call Try.func30 nm30 rfl rfl (Reads_nil w1) rfl ?_
            rintro v86 w87 ⟨rfl, rfl⟩
            refine Ls_on rfl rfl ?_
            refine Ls_run (run_move rfl) rfl ?_
            refine Ls_on rfl rfl ?_
            refine Ls_call Try.func63 nm63 rfl rfl (rReads_nil w1) rfl ?_
            rintro v88 w89 ⟨rfl, rfl⟩
            refine Ls_on rfl rfl ?_
            refine Ls_run (run_asB (c := true) (run_eql rfl rfl) (by decide)) rfl ?_
            refine Ls_run (run_pick_t rfl rfl) rfl ?_
            refine Ls_run (run_move rfl) rfl ?_
            refine Ls_on rfl rfl ?_
            refine Ls_run (run_move rfl) rfl ?_
            refine Ls_on rfl rfl ?_
            refine Ls_call Try.func19 nm19 rfl rfl (Writes_nil w1) rfl ?_
            rintro v90 w91 ⟨rfl, rfl⟩
            refine Ls_on rfl rfl ?_
            refine Ls_run (run_move rfl) rfl ?_
            refine Ls_on rfl rfl ?_
            refine Ls_call Try.func47 nm47 rfl rfl (rWrites_nil w1) rfl ?_
            rintro v92 w93 ⟨rfl, rfl⟩
            refine Ls_on rfl rfl ?_
            refine Ls_run (run_asB (c := true) (run_eql rfl rfl) (by decide)) rfl ?_
            refine Ls_run (run_pick_t rfl rfl) rfl ?_
            refine Ls_run (run_assign rfl) rfl ?_
            refine Ls_nil ?_
            refine Jm_seq ?_
            refine St_ret ?_
            refine Jm_ret1 rfl rfl ?_
            exact ⟨_, rfl, rfl, hs.tail⟩

theorem rightO_c (B w : World) (L : List Assn) (p q : Option Addr) (sd : Option DSt) (sr : Option RSt) (hs : Sat B w (DO 85 31 5 p sd :: RO 92 31 5 q sr :: L)) (hdr : DRo sd sr) (kd on pi : Int) (A : Option Addr) (n c : Nat) (l : List Int) (hr : Rd B A n c 1 (bytesV l)) (hbs : IsBytes l) (hn : n ≤ 4194304) (hpi : pi ≤ 9223372036854775807) :
    Calls Try.prog 27 [.pointer p, .pointer q, .agg #[.int .i64 kd, .int .i64 on, .int .i64 pi, .slice A n c]].toArray w (Ret (fun v' w' => v' = .bool true ∧ ∃ sd' sr', Sat B w' (DO 85 31 5 p sd' :: RO 92 31 5 q sr' :: L) ∧ DRo sd' sr')) := by
  cases sd with
  | none =>
    cases sr with
    | some r => cases hdr
    | none =>
      obtain ⟨rfl, h8⟩ := hs.doNone
      obtain ⟨rfl, h9⟩ := h8.roNone
      refine (right_nil B w L h9 kd on pi A n c l hr hbs hn hpi).mono fun e w' ⟨v, he, hv, h1⟩ => ⟨v, he, hv, none, none, h1.toRoNone.toDoNone, trivial⟩
  | some d =>
    cases sr with
    | none => cases hdr
    | some r =>
      obtain ⟨b, rfl, h8⟩ := hs.doSome
      obtain ⟨b2, rfl, h9⟩ := h8.swap2.roSome
      refine (right_c B w L b b2 d r h9.swap2 hdr kd on pi A n c l hr hbs hn hpi).mono fun e w' ⟨v, he, hv, d', r', h1, h2⟩ => ⟨v, he, hv, some d', some r', h1.toDoSome.swap2.toRoSome.swap2, h2⟩
theorem right3_c (B w : World) (L : List Assn) (j : Nat) (hj : j < 3) (pa pb qa qb : Option Addr) (sa sb : Option DSt) (ra rb : Option RSt) (hs : Sat B w (DO 85 31 5 pa sa :: DO 85 31 5 pb sb :: RO 92 31 5 qa ra :: RO 92 31 5 qb rb :: L)) (ha : DRo sa ra) (hb : DRo sb rb) (kd on pi : Int) (A : Option Addr) (n c : Nat) (l : List Int) (hr : Rd B A n c 1 (bytesV l)) (hbs : IsBytes l) (hn : n ≤ 4194304) (hpi : pi ≤ 9223372036854775807) :
    Calls Try.prog 27 [.pointer (sel3 j pa pb none), .pointer (sel3 j qa qb none), .agg #[.int .i64 kd, .int .i64 on, .int .i64 pi, .slice A n c]].toArray w (Ret (fun v' w' => v' = .bool true ∧ ∃ sa' sb' ra' rb', Sat B w' (DO 85 31 5 pa sa' :: DO 85 31 5 pb sb' :: RO 92 31 5 qa ra' :: RO 92 31 5 qb rb' :: L) ∧ DRo sa' ra' ∧ DRo sb' rb')) := by
  rcases (show j = 0 ∨ j = 1 ∨ j = 2 by omega) with rfl | rfl | rfl
  · have h1 : Sat B w (DO 85 31 5 pa sa :: RO 92 31 5 qa ra :: DO 85 31 5 pb sb :: RO 92 31 5 qb rb :: L) := (hs.front 2 rfl).front 1 rfl
    refine (rightO_c B w _ pa qa sa ra h1 ha kd on pi A n c l hr hbs hn hpi).mono fun e w' ⟨v, he, hv, sa', ra', h2, h3⟩ => ⟨v, he, hv, sa', sb, ra', rb, (h2.front 2 rfl).front 1 rfl, h3, hb⟩
  · have h1 : Sat B w (DO 85 31 5 pb sb :: RO 92 31 5 qb rb :: DO 85 31 5 pa sa :: RO 92 31 5 qa ra :: L) := (hs.front 3 rfl).front 2 rfl
    refine (rightO_c B w _ pb qb sb rb h1 hb kd on pi A n c l hr hbs hn hpi).mono fun e w' ⟨v, he, hv, sb', rb', h2, h3⟩ => ⟨v, he, hv, sa, sb', ra, rb', ?_, ha, h3⟩
    have h4 : Sat B w' (RO 92 31 5 qa ra :: DO 85 31 5 pb sb' :: RO 92 31 5 qb rb' :: DO 85 31 5 pa sa :: L) := h2.front 3 rfl
    have h5 : Sat B w' (DO 85 31 5 pb sb' :: RO 92 31 5 qa ra :: RO 92 31 5 qb rb' :: DO 85 31 5 pa sa :: L) := h4.front 1 rfl
    exact h5.front 3 rfl
  · refine (right_nil B w _ hs kd on pi A n c l hr hbs hn hpi).mono fun e w' ⟨v, he, hv, h1⟩ => ⟨v, he, hv, sa, sb, ra, rb, h1, ha, hb⟩
theorem ImageO_c (B w : World) (L : List Assn) (p : Option Addr) (sd : Option DSt) (hs : Sat B w (DO 85 31 5 p sd :: L)) (hok : (∀ x ∈ obl sd, IsBytes x ∧ x.length ≤ 1024) ∧ (obl sd).length ≤ 64) :
    Calls Try.prog 21 [.pointer p].toArray w (Ret (fun v' w' => ∃ A c vs, v' = .slice A (obl sd).length c ∧ vs.length = (obl sd).length ∧ Sat B w' ((Own 31 1 (.slice A (obl sd).length c) (obl sd).length (El.val.flat vs) :: rowsA 5 (El.int .u8) vs (obl sd)) ++ (DO 85 31 5 p sd :: L)))) := by
  cases sd with
  | none =>
    obtain ⟨rfl, h⟩ := hs.doNone
    refine (Image_nil w).mono fun e w' ⟨v, he, hw, hv⟩ => ⟨v, he, none, 0, [], hv, rfl, ?_⟩
    subst hw
    exact hs.own_nil 31 1
  | some s =>
    obtain ⟨b, rfl, h9⟩ := hs.doSome
    refine (Image_c B w L b s h9 (fun x hx => (hok.1 x hx).2) hok.2).mono fun e w' ⟨v, he, A, c, vs, hv, hl, h1⟩ => ⟨v, he, A, c, vs, hv, hl, ?_⟩
    have h2 := Sat.toDoSome (h1.perm (List.perm_middle))
    exact h2.perm (List.perm_middle.symm)
theorem rImageO_c (B w : World) (L : List Assn) (p : Option Addr) (sr : Option RSt) (hs : Sat B w (RO 92 31 5 p sr :: L)) (hok : (∀ x ∈ orbl sr, IsBytes x ∧ x.length ≤ 1024) ∧ (orbl sr).length ≤ 64) :
    Calls Try.prog 28 [.pointer p].toArray w (Ret (fun v' w' => ∃ A c vs, v' = .slice A (orbl sr).length c ∧ vs.length = (orbl sr).length ∧ Sat B w' ((Own 31 1 (.slice A (orbl sr).length c) (orbl sr).length (El.val.flat vs) :: rowsA 5 (El.int .u8) vs (orbl sr)) ++ (RO 92 31 5 p sr :: L)))) := by
  cases sr with
  | none =>
    obtain ⟨rfl, h⟩ := hs.roNone
    refine (rImage_nil w).mono fun e w' ⟨v, he, hw, hv⟩ => ⟨v, he, none, 0, [], hv, rfl, ?_⟩
    subst hw
    exact hs.own_nil 31 1
  | some s =>
    obtain ⟨b, rfl, h9⟩ := hs.roSome
    refine (rImage_c B w L b s h9 (fun x hx => (hok.1 x hx).2) hok.2).mono fun e w' ⟨v, he, A, c, vs, hv, hl, h1⟩ => ⟨v, he, A, c, vs, hv, hl, ?_⟩
    have h2 := Sat.toRoSome (h1.perm (List.perm_middle))
    exact h2.perm (List.perm_middle.symm)
theorem Image3_c (B w : World) (L : List Assn) (j : Nat) (hj : j < 3) (pa pb : Option Addr) (sa sb : Option DSt) (hs : Sat B w (DO 85 31 5 pa sa :: DO 85 31 5 pb sb :: L)) (ha : (∀ x ∈ obl sa, IsBytes x ∧ x.length ≤ 1024) ∧ (obl sa).length ≤ 64) (hb : (∀ x ∈ obl sb, IsBytes x ∧ x.length ≤ 1024) ∧ (obl sb).length ≤ 64) :
    Calls Try.prog 21 [.pointer (sel3 j pa pb none)].toArray w (Ret (fun v' w' => ∃ A c vs, v' = .slice A (sel3 j (obl sa) (obl sb) []).length c ∧ vs.length = (sel3 j (obl sa) (obl sb) []).length ∧ Sat B w' ((Own 31 1 (.slice A (sel3 j (obl sa) (obl sb) []).length c) (sel3 j (obl sa) (obl sb) []).length (El.val.flat vs) :: rowsA 5 (El.int .u8) vs (sel3 j (obl sa) (obl sb) [])) ++ (DO 85 31 5 pa sa :: DO 85 31 5 pb sb :: L)))) := by
  rcases (show j = 0 ∨ j = 1 ∨ j = 2 by omega) with rfl | rfl | rfl
  · exact ImageO_c B w _ pa sa hs ha
  · exact (ImageO_c B w _ pb sb hs.swap2 hb).mono fun e w' ⟨v, he, A, c, vs, hv, hl, h1⟩ => ⟨v, he, A, c, vs, hv, hl, h1.perm (List.Perm.append_left _ (List.Perm.swap _ _ _))⟩
  · refine (Image_nil w).mono fun e w' ⟨v, he, hw, hv⟩ => ⟨v, he, none, 0, [], hv, rfl, ?_⟩
    subst hw
    exact hs.own_nil 31 1
theorem rImage3_c (B w : World) (L : List Assn) (j : Nat) (hj : j < 3) (pa pb : Option Addr) (sa sb : Option RSt) (hs : Sat B w (RO 92 31 5 pa sa :: RO 92 31 5 pb sb :: L)) (ha : (∀ x ∈ orbl sa, IsBytes x ∧ x.length ≤ 1024) ∧ (orbl sa).length ≤ 64) (hb : (∀ x ∈ orbl sb, IsBytes x ∧ x.length ≤ 1024) ∧ (orbl sb).length ≤ 64) :
    Calls Try.prog 28 [.pointer (sel3 j pa pb none)].toArray w (Ret (fun v' w' => ∃ A c vs, v' = .slice A (sel3 j (orbl sa) (orbl sb) []).length c ∧ vs.length = (sel3 j (orbl sa) (orbl sb) []).length ∧ Sat B w' ((Own 31 1 (.slice A (sel3 j (orbl sa) (orbl sb) []).length c) (sel3 j (orbl sa) (orbl sb) []).length (El.val.flat vs) :: rowsA 5 (El.int .u8) vs (sel3 j (orbl sa) (orbl sb) [])) ++ (RO 92 31 5 pa sa :: RO 92 31 5 pb sb :: L)))) := by
  rcases (show j = 0 ∨ j = 1 ∨ j = 2 by omega) with rfl | rfl | rfl
  · exact rImageO_c B w _ pa sa hs ha
  · exact (rImageO_c B w _ pb sb hs.swap2 hb).mono fun e w' ⟨v, he, A, c, vs, hv, hl, h1⟩ => ⟨v, he, A, c, vs, hv, hl, h1.perm (List.Perm.append_left _ (List.Perm.swap _ _ _))⟩
  · refine (rImage_nil w).mono fun e w' ⟨v, he, hw, hv⟩ => ⟨v, he, none, 0, [], hv, rfl, ?_⟩
    subst hw
    exact hs.own_nil 31 1
/-- New and Load, with what they refuse. -/
def newO (m : Int) : Option DSt := if m < 1 ∨ 64 < m then none else some (dnew m.toNat)
def rnewO (m : Int) : Option RSt := if m < 1 ∨ 64 < m then none else some (rnew m.toNat)
def newE (m : Int) : Int := if m < 1 ∨ 64 < m then 1 else 0
def loadO (bl : List (List Int)) : Option DSt := if bl.length < 1 ∨ 64 < bl.length then none else if dlong bl then none else some (dload bl)
def rloadO (bl : List (List Int)) : Option RSt := if bl.length < 1 ∨ 64 < bl.length then none else if dlong bl then none else some (rload bl)
def loadE (bl : List (List Int)) : Int := if bl.length < 1 ∨ 64 < bl.length then 1 else if dlong bl then 6 else 0
theorem newO_alike (m : Int) : DRo (newO m) (rnewO m) := by
  unfold newO rnewO
  split
  · trivial
  · rename_i h
    refine ⟨alike_new _, fun x hx => ?_, by simp [dnew]; omega, by simp [rnew]⟩
    simp [dnew] at hx
    obtain ⟨_, rfl⟩ := hx
    exact ⟨by simp [IsBytes], by simp⟩
theorem loadO_alike (bl : List (List Int)) (hb : ∀ x ∈ bl, IsBytes x) : DRo (loadO bl) (rloadO bl) := by
  unfold loadO rloadO
  split
  · trivial
  · rename_i h
    cases hl : dlong bl with
    | true => trivial
    | false => exact ⟨alike_load bl, fun x hx => ⟨hb x hx, dlong_ok hl x hx⟩, by show bl.length ≤ 64; omega, by simp [rload]⟩
theorem NewO_c (w : World) (m : Int) : Calls Try.prog 13 [.int .i64 m].toArray w (Ret (fun v' w' => ∃ p, v' = .tuple #[.pointer p, .int .i64 (newE m)] ∧ p.isNone = (newO m).isNone ∧ Sat w w' [DO 85 31 5 p (newO m)])) := by
  unfold newE newO
  by_cases h : m < 1 ∨ 64 < m
  · rw [if_pos h, if_pos h]
    exact (New_bad w m h).mono fun e w' ⟨v, he, hw, hv⟩ => ⟨v, he, none, hv, rfl, by subst hw; exact (Sat.start w).toDoNone⟩
  · rw [if_neg h, if_neg h]
    obtain ⟨k, rfl⟩ : ∃ k : Nat, m = (k : Int) := ⟨m.toNat, by omega⟩
    exact (New_c w k (by omega) (by omega)).mono fun e w' ⟨v, he, b, hv, h1⟩ => ⟨v, he, _, hv, rfl, h1.toDoSome⟩
theorem rNewO_c (w : World) (m : Int) : Calls Try.prog 25 [.int .i64 m].toArray w (Ret (fun v' w' => ∃ p, v' = .tuple #[.pointer p, .int .i64 (newE m)] ∧ p.isNone = (rnewO m).isNone ∧ Sat w w' [RO 92 31 5 p (rnewO m)])) := by
  unfold newE rnewO
  by_cases h : m < 1 ∨ 64 < m
  · rw [if_pos h, if_pos h]
    exact (rNew_bad w m h).mono fun e w' ⟨v, he, hw, hv⟩ => ⟨v, he, none, hv, rfl, by subst hw; exact (Sat.start w).toRoNone⟩
  · rw [if_neg h, if_neg h]
    obtain ⟨k, rfl⟩ : ∃ k : Nat, m = (k : Int) := ⟨m.toNat, by omega⟩
    exact (rNew_c w k (by omega) (by omega)).mono fun e w' ⟨v, he, b, hv, h1⟩ => ⟨v, he, _, hv, rfl, h1.toRoSome⟩
theorem LoadO_c (w : World) (A : Option Addr) (n c : Nat) (vs : List Value) (bl : List (List Int)) (hr : Rd w A n c 1 (El.val.flat vs)) (hp : PartsK (El.int .u8) w vs bl) (hn : n ≤ 9223372036854775807) :
    Calls Try.prog 24 [.slice A n c].toArray w (Ret (fun v' w' => ∃ p, v' = .tuple #[.pointer p, .int .i64 (loadE bl)] ∧ p.isNone = (loadO bl).isNone ∧ Sat w w' [DO 85 31 5 p (loadO bl)])) := by
  have hvl : vs.length = n := by have := hr.len; rw [El.flat_length] at this; simpa [El.val] using this
  have hbl : bl.length = n := by have := hp.1; omega
  unfold loadE loadO
  rw [hbl]
  by_cases h : n < 1 ∨ 64 < n
  · rw [if_pos h, if_pos h]
    exact (Load_arg w A n c h hn).mono fun e w' ⟨v, he, hw, hv⟩ => ⟨v, he, none, hv, rfl, by subst hw; exact (Sat.start w).toDoNone⟩
  · rw [if_neg h, if_neg h]
    cases hlo : dlong bl with
    | true => exact (Load_long w A n c vs bl hr hp (by omega) (by omega) hlo).mono fun e w' ⟨v, he, hv, h1⟩ => ⟨v, he, none, hv, rfl, h1.toDoNone⟩
    | false => exact (Load_c w A n c vs bl hr hp (by omega) (by omega) hlo).mono fun e w' ⟨v, he, b, hv, h1⟩ => ⟨v, he, _, hv, rfl, h1.toDoSome⟩
theorem rLoadO_c (w : World) (A : Option Addr) (n c : Nat) (vs : List Value) (bl : List (List Int)) (hr : Rd w A n c 1 (El.val.flat vs)) (hp : PartsK (El.int .u8) w vs bl) (hn : n ≤ 9223372036854775807) :
    Calls Try.prog 26 [.slice A n c].toArray w (Ret (fun v' w' => ∃ p, v' = .tuple #[.pointer p, .int .i64 (loadE bl)] ∧ p.isNone = (rloadO bl).isNone ∧ Sat w w' [RO 92 31 5 p (rloadO bl)])) := by
  have hvl : vs.length = n := by have := hr.len; rw [El.flat_length] at this; simpa [El.val] using this
  have hbl : bl.length = n := by have := hp.1; omega
  unfold loadE rloadO
  rw [hbl]
  by_cases h : n < 1 ∨ 64 < n
  · rw [if_pos h, if_pos h]
    exact (rLoad_arg w A n c h hn).mono fun e w' ⟨v, he, hw, hv⟩ => ⟨v, he, none, hv, rfl, by subst hw; exact (Sat.start w).toRoNone⟩
  · rw [if_neg h, if_neg h]
    cases hlo : dlong bl with
    | true => exact (rLoad_long w A n c vs bl hr hp (by omega) (by omega) hlo).mono fun e w' ⟨v, he, hv, h1⟩ => ⟨v, he, none, hv, rfl, h1.toRoNone⟩
    | false => exact (rLoad_c w A n c vs bl hr hp (by omega) (by omega) hlo).mono fun e w' ⟨v, he, b, hv, h1⟩ => ⟨v, he, _, hv, rfl, h1.toRoSome⟩
end Go.Proofs.Ytpmkedgennnekaa.Lg
