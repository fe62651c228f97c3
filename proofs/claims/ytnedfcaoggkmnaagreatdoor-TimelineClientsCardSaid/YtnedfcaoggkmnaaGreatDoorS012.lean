/-
  Packed out of the texts: CT2, TM3, TM4.
-/
import Derived.Test.YtnedfcaoggkmnaaGreatDoorS011
/-
  The document's contract: entries, batches, ledgers.
-/
set_option maxRecDepth 100000
set_option linter.unusedSimpArgs false
set_option linter.unusedVariables false
namespace Go.Proofs.YtnedfcaoggkmnaaGreatDoor.A
open Go.RowKit

section
variable {l : Lg} {x : Ltr} {k n : Int} {s : ByteArray} {c : Core} {e : Ent} {es : List Ent} {h : List (List Ent)} {e1 e2 : Value}
theorem rstale_s  : Spec Tryz.prog 35 [.agg l.abs, coreA c] [] (fun _ : Unit => []) (fun _ => boo (l.stale c)) := by
  refine spec_of Tryz.func35 rfl Tryz.ntmps35 rfl fun G w => ?_
  refine SC.seq (SC.region ?_)
  refine SL.eff (Eff.boxA (cs := l.abs) rfl) rfl rfl ?_
  rintro _ _ ⟨b2, rfl, rfl⟩
  refine SL.eff (Eff.boxA (cs := c.cells.map .v) rfl) rfl rfl ?_
  rintro _ _ ⟨b3, rfl, rfl⟩
  refine SL.val (Val.assign rfl) rfl rfl ?_
  refine SL.nil (SE.seq ?_)
  refine SC.seq (SC.region ?_)
  refine SL.val (Val.to (C := .agg l.abs) (Val.loadP tabOk rfl rfl rfl (by first|(apply Or.inl;(repeat first|assumption|exact m0|apply m1);done)|(apply Or.inr;(repeat first|assumption|exact m0|apply m1);done)) List.not_mem_nil (Nat.le_of_ble_eq_true (by rfl))) rfl) rfl rfl ?_
  refine SL.val (Val.fieldAddr tabOk rfl rfl rfl rfl rfl) rfl rfl ?_
  refine SL.val (Val.load1 tabOk rfl rfl (by first|(apply Or.inl;(repeat first|assumption|exact m0|apply m1);done)|(apply Or.inr;(repeat first|assumption|exact m0|apply m1);done)) List.not_mem_nil (by rfl)) rfl rfl ?_
  refine SL.call (rlast_s (l := l) (k := c.client)) Casts.refl (by kernel_rfl) rfl rfl rfl ?_
  refine After.pure (by repeat (first | exact Reads.nil | (refine Reads.blk ?_ ?_; focus ((repeat first|assumption|exact m0|apply m1); done)) | (refine Reads.rd ?_ ?_; focus ((repeat first|assumption|exact m0|apply m1); done)) | (refine Reads.pc ?_ ?_; focus ((repeat first|assumption|exact m0|apply m1); done)) | (refine Reads.rdpc ?_ ?_; focus ((repeat first|assumption|exact m0|apply m1); done)))) (fun _ => rfl) ?_
  intro _
  refine SL.val (Val.move rfl) rfl rfl ?_
  refine SL.val (Val.extract rfl rfl) rfl rfl ?_
  refine SL.val (Val.extract rfl rfl) rfl rfl ?_
  refine SL.eff (Eff.alloc tabOk rfl) rfl rfl ?_
  rintro _ _ ⟨b5, rfl, rfl⟩
  refine SL.eff (Eff.store (L' := ((l.last c.client).getD Oc.zero).abs) tabOk rfl rfl rfl (by repeat first|assumption|exact Upd.here|apply Upd.there) rfl (Nat.le_of_ble_eq_true (by rfl)) rfl (by exact putL_whole rfl)) rfl rfl ?_
  rintro _ _ ⟨rfl, rfl⟩
  refine SL.val (Val.assign rfl) rfl rfl ?_
  refine SL.nil (SE.seq ?_)
  refine SC.seq (SC.region ?_)
  refine SL.val (Val.move rfl) rfl rfl ?_
  refine SL.val (Val.move rfl) rfl rfl ?_
  refine SL.both (t := 15) rfl ?_ ?_
  · intro hc15
    refine SL.val (Val.fieldAddr tabOk rfl rfl rfl rfl rfl) rfl rfl ?_
    refine SL.val (Val.load1 tabOk rfl rfl (by first|(apply Or.inl;(repeat first|assumption|exact m0|apply m1);done)|(apply Or.inr;(repeat first|assumption|exact m0|apply m1);done)) List.not_mem_nil (by rfl)) rfl rfl ?_
    refine SL.val (Val.fieldAddr tabOk rfl rfl rfl rfl rfl) rfl rfl ?_
    refine SL.val (Val.load1 tabOk rfl rfl (by first|(apply Or.inl;(repeat first|assumption|exact m0|apply m1);done)|(apply Or.inr;(repeat first|assumption|exact m0|apply m1);done)) List.not_mem_nil (by rfl)) rfl rfl ?_
    refine SL.val (Val.geI rfl rfl) rfl rfl ?_
    refine SL.val (Val.pickT rfl rfl) rfl rfl ?_
    refine SL.val (Val.assign rfl) rfl rfl ?_
    refine SL.nil (SE.seq ?_)
    refine SC.ret ?_
    refine SE.fin (rs := [.tmp 4]) rfl (RV.tmp rfl RV.nil) (()) (by repeat first|exact s0 _|exact s1 _|apply s2|apply s3) (by simp [It.rids]) ?_
    unfold Lg.stale
    cases hl : l.last c.client with
    | none => rw [hl] at hc15; first | rfl | cases hc15
    | some o9 => rw [hl] at hc15; first | rfl | cases hc15
  intro hc15
  iterate 5 refine SL.skip rfl rfl ?_
  refine SL.val (Val.pickF rfl rfl) rfl rfl ?_
  refine SL.val (Val.assign rfl) rfl rfl ?_
  refine SL.nil (SE.seq ?_)
  refine SC.ret ?_
  refine SE.fin (rs := [.tmp 4]) rfl (RV.tmp rfl RV.nil) (()) (by repeat first|exact s0 _|exact s1 _|apply s2|apply s3) (by simp [It.rids]) ?_
  unfold Lg.stale
  cases hl : l.last c.client with
  | none => rw [hl] at hc15; first | rfl | cases hc15
  | some o9 => rw [hl] at hc15; first | rfl | cases hc15
set_option maxHeartbeats 4000000 in
theorem rresult_s (hf : l.Few) (hl : l.Wf) (ha : i64ok e.core.a) (ht : e.core.text.size ≤ 9223372036854775807) (hm : e.mask < 4294967296) (hs : e.core.letter.size ≤ lots) : Spec Tryz.prog 37 [.agg l.abs, .agg (entA e), int n] [] (fun _ : Unit => []) (fun _ => .tup [.agg (l.res e n).1.abs, int (l.res e n).2]) := by
  have hox := Lg.old_wf hl e.core.letter
  have hsw := step_wf (op := e.core.op) (a := e.core.a) (b := e.core.b) (t := e.core.text) hox
  refine spec_of Tryz.func37 rfl Tryz.ntmps37 rfl fun G w => ?_
  refine SC.seq (SC.region ?_)
  refine SL.eff (Eff.boxA (cs := l.abs) rfl) rfl rfl ?_
  rintro _ _ ⟨b3, rfl, rfl⟩
  refine SL.eff (Eff.boxA (cs := entA e) rfl) rfl rfl ?_
  rintro _ _ ⟨b4, rfl, rfl⟩
  refine SL.eff (Eff.alloc tabOk rfl) rfl rfl ?_
  rintro _ _ ⟨b6, rfl, rfl⟩
  refine SL.val (Val.assign rfl) rfl rfl ?_
  refine SL.nil (SE.seq ?_)
  refine SC.seq (SC.region ?_)
  refine SL.val (Val.fieldAddr tabOk rfl rfl rfl rfl rfl) rfl rfl ?_
  refine SL.val (Val.to (C := coreA e.core) (Val.loadP tabOk rfl rfl rfl (by first|(apply Or.inl;(repeat first|assumption|exact m0|apply m1);done)|(apply Or.inr;(repeat first|assumption|exact m0|apply m1);done)) List.not_mem_nil (Nat.le_of_ble_eq_true (by rfl))) rfl) rfl rfl ?_
  refine SL.eff (Eff.alloc tabOk rfl) rfl rfl ?_
  rintro _ _ ⟨b8, rfl, rfl⟩
  refine SL.eff (Eff.store (L' := e.core.cells.map .v) tabOk rfl rfl rfl (by repeat first|assumption|exact Upd.here|apply Upd.there) rfl (Nat.le_of_ble_eq_true (by rfl)) rfl (by exact putL_whole rfl)) rfl rfl ?_
  rintro _ _ ⟨rfl, rfl⟩
  refine SL.nil (SE.seq ?_)
  refine SC.seq (SC.region ?_)
  refine SL.val (Val.to (C := .agg l.abs) (Val.loadP tabOk rfl rfl rfl (by first|(apply Or.inl;(repeat first|assumption|exact m0|apply m1);done)|(apply Or.inr;(repeat first|assumption|exact m0|apply m1);done)) List.not_mem_nil (Nat.le_of_ble_eq_true (by rfl))) rfl) rfl rfl ?_
  refine SL.val (Val.fieldAddr tabOk rfl rfl rfl rfl rfl) rfl rfl ?_
  refine SL.val (Val.to (C := st e.core.letter) (Val.load1 tabOk rfl rfl (by first|(apply Or.inl;(repeat first|assumption|exact m0|apply m1);done)|(apply Or.inr;(repeat first|assumption|exact m0|apply m1);done)) List.not_mem_nil (by rfl)) rfl) rfl rfl ?_
  refine SL.call (rfind_s (l := l) (s := e.core.letter)) Casts.refl (by kernel_rfl) rfl rfl rfl ?_
  refine After.pure (by repeat (first | exact Reads.nil | (refine Reads.blk ?_ ?_; focus ((repeat first|assumption|exact m0|apply m1); done)) | (refine Reads.rd ?_ ?_; focus ((repeat first|assumption|exact m0|apply m1); done)) | (refine Reads.pc ?_ ?_; focus ((repeat first|assumption|exact m0|apply m1); done)) | (refine Reads.rdpc ?_ ?_; focus ((repeat first|assumption|exact m0|apply m1); done)))) (fun _ => rfl) ?_
  intro _
  rw [show (l.find e.core.letter).getD Ltr.none = (l.old e.core.letter) from rfl]
  refine SL.val (Val.move rfl) rfl rfl ?_
  refine SL.val (Val.extract rfl rfl) rfl rfl ?_
  refine SL.val (Val.extract rfl rfl) rfl rfl ?_
  refine SL.eff (Eff.alloc tabOk rfl) rfl rfl ?_
  rintro _ _ ⟨b9, rfl, rfl⟩
  refine SL.eff (Eff.store (L' := ltrA (l.old e.core.letter)) tabOk rfl rfl rfl (by repeat first|assumption|exact Upd.here|apply Upd.there) rfl (Nat.le_of_ble_eq_true (by rfl)) rfl (by exact putL_whole rfl)) rfl rfl ?_
  rintro _ _ ⟨rfl, rfl⟩
  refine SL.val (Val.assign rfl) rfl rfl ?_
  refine SL.nil (SE.seq ?_)
  refine SC.cutS (ι := Unit) (fun z => (.blk b9 47 (ltrA (l.old e.core.letter)) :: .blk b8 55 (e.core.cells.map .v) :: .blk b6 44 (zabs [.int .i64 0, .int .i64 0, .slice none 0 0, .slice none 0 0]) :: .blk b4 58 (entA e) :: .blk b3 44 l.abs :: [])) (fun z => [(2, int n), (3, ptr b3), (4, ptr b4), (6, ptr b6), (8, ptr b8), (9, ptr b9)]) (fun z => ¬ l.known e.core ≠ 0) ?_ ?_
  · skip
    refine SC.seq (SC.region ?_)
    refine SL.val (Val.fieldAddr tabOk rfl rfl rfl rfl rfl) rfl rfl ?_
    refine SL.val (Val.to (C := int e.core.op) (Val.load1 tabOk rfl rfl (by first|(apply Or.inl;(repeat first|assumption|exact m0|apply m1);done)|(apply Or.inr;(repeat first|assumption|exact m0|apply m1);done)) List.not_mem_nil (by rfl)) rfl) rfl rfl ?_
    refine SL.val (Val.neI rfl rfl) rfl rfl ?_
    refine SL.val (Val.move rfl) rfl rfl ?_
    refine SL.bothP (t := 30) rfl ?_ ?_
    rotate_left
    · intro hc30
      iterate 2 refine SL.skip rfl rfl ?_
      refine SL.val (Val.pickF rfl rfl) rfl rfl ?_
      refine SL.nil (SE.seq ?_)
      refine SC.condF rfl ?_
      refine SC.skip ?_
      have hkn : ¬ l.known e.core ≠ 0 := by
        intro h9
        unfold Lg.known at h9
        split at h9
        · next h8 =>
          have h7 := Option.isNone_iff_eq_none.1 h8.1
          first
            | exact hc30 h8.2
            | (rw [h7] at hc33; cases hc33)
        · exact h9 rfl
      refine SE.meet (()) (hkn) (by exact ⟨rfl, rfl, rfl, rfl, rfl, rfl, trivial⟩) (by repeat first|exact s0 _|exact s1 _|apply s2|apply s3)
    intro hc30
    refine SL.val (Val.move rfl) rfl rfl ?_
    refine SL.val (Val.notB rfl) rfl rfl ?_
    refine SL.val (Val.pickT rfl rfl) rfl rfl ?_
    refine SL.nil (SE.seq ?_)
    refine SC.cond rfl ?_ ?_
    rotate_left
    · intro hc33
      refine SC.skip ?_
      have hkn : ¬ l.known e.core ≠ 0 := by
        intro h9
        unfold Lg.known at h9
        split at h9
        · next h8 =>
          have h7 := Option.isNone_iff_eq_none.1 h8.1
          first
            | exact hc30 h8.2
            | (rw [h7] at hc33; cases hc33)
        · exact h9 rfl
      refine SE.meet (()) (hkn) (by exact ⟨rfl, rfl, rfl, rfl, rfl, rfl, trivial⟩) (by repeat first|exact s0 _|exact s1 _|apply s2|apply s3)
    intro hc33
    refine SC.seq (SC.region ?_)
    refine SL.val (Val.to (C := .agg l.abs) (Val.loadP tabOk rfl rfl rfl (by first|(apply Or.inl;(repeat first|assumption|exact m0|apply m1);done)|(apply Or.inr;(repeat first|assumption|exact m0|apply m1);done)) List.not_mem_nil (Nat.le_of_ble_eq_true (by rfl))) rfl) rfl rfl ?_
    refine SL.eff (Eff.store (L' := l.abs) tabOk rfl rfl rfl (by repeat first|assumption|exact Upd.here|apply Upd.there) rfl (Nat.le_of_ble_eq_true (by rfl)) rfl (by exact putL_whole rfl)) rfl rfl ?_
    rintro _ _ ⟨rfl, rfl⟩
    refine SL.val (Val.assign rfl) rfl rfl ?_
    refine SL.nil (SE.seq ?_)
    refine SC.ret ?_
    refine SE.then_ (by intro h; cases h) ?_
    have hk7 : l.known e.core = 7 := if_pos ⟨by simpa using hc33, hc30⟩
    have hst := res_a (l := l) (e := e) (n := n) (by rw [hk7]; decide)
    rw [hk7] at hst
    refine SE.fin (rs := [.cell 6 44, .tmp 7]) rfl (RV.cell rfl (RV.cellA tabOk rfl rfl (by first|(apply Or.inl;(repeat first|assumption|exact m0|apply m1);done)|(apply Or.inr;(repeat first|assumption|exact m0|apply m1);done)) (by rfl)) (RV.tmp rfl RV.nil)) (()) (by repeat first|exact s0 _|exact s1 _|apply s2|apply s3) (by simp [It.rids]) ?_
    rw [hst]
    rfl
  · intro z0 hkn
    refine SC.seq (SC.region ?_)
    refine SL.val (Val.fieldAddr tabOk rfl rfl rfl rfl rfl) rfl rfl ?_
    refine SL.val (Val.to (C := st (l.old e.core.letter).policy) (Val.load1 tabOk rfl rfl (by first|(apply Or.inl;(repeat first|assumption|exact m0|apply m1);done)|(apply Or.inr;(repeat first|assumption|exact m0|apply m1);done)) List.not_mem_nil (by rfl)) rfl) rfl rfl ?_
    refine SL.val (Val.assign rfl) rfl rfl ?_
    refine SL.nil (SE.seq ?_)
    refine SC.cutS (ι := Unit) (fun z => (.blk b9 47 (ltrA (l.old e.core.letter)) :: .blk b8 55 (e.core.cells.map .v) :: .blk b6 44 (zabs [.int .i64 0, .int .i64 0, .slice none 0 0, .slice none 0 0]) :: .blk b4 58 (entA e) :: .blk b3 44 l.abs :: [])) (fun z => [(2, int n), (3, ptr b3), (4, ptr b4), (6, ptr b6), (8, ptr b8), (9, ptr b9), (11, st (polB (l.old e.core.letter) e.core))]) (fun z => True) ?_ ?_
    · skip
      refine SC.seq (SC.region ?_)
      refine SL.val (Val.fieldAddr tabOk rfl rfl rfl rfl rfl) rfl rfl ?_
      refine SL.val (Val.to (C := int e.core.op) (Val.load1 tabOk rfl rfl (by first|(apply Or.inl;(repeat first|assumption|exact m0|apply m1);done)|(apply Or.inr;(repeat first|assumption|exact m0|apply m1);done)) List.not_mem_nil (by rfl)) rfl) rfl rfl ?_
      refine SL.val (Val.eqI rfl rfl) rfl rfl ?_
      refine SL.nil (SE.seq ?_)
      refine SC.condP rfl ?_ ?_
      rotate_left
      · intro hc39
        refine SC.skip ?_
        refine SE.meet (()) (trivial) (by first | exact ⟨rfl, rfl, rfl, rfl, rfl, rfl, congrArg (fun s => some (st s)) (show e.core.text = (polB (l.old e.core.letter) e.core) from (if_pos hc39).symm), trivial⟩ | exact ⟨rfl, rfl, rfl, rfl, rfl, rfl, congrArg (fun s => some (st s)) (show (l.old e.core.letter).policy = (polB (l.old e.core.letter) e.core) from (if_neg hc39).symm), trivial⟩) (by repeat first|exact s0 _|exact s1 _|apply s2|apply s3)
      intro hc39
      refine SC.region ?_
      refine SL.val (Val.fieldAddr tabOk rfl rfl rfl rfl rfl) rfl rfl ?_
      refine SL.val (Val.to (C := st e.core.text) (Val.load1 tabOk rfl rfl (by first|(apply Or.inl;(repeat first|assumption|exact m0|apply m1);done)|(apply Or.inr;(repeat first|assumption|exact m0|apply m1);done)) List.not_mem_nil (by rfl)) rfl) rfl rfl ?_
      refine SL.val (Val.assign rfl) rfl rfl ?_
      refine SL.nil ?_
      refine SE.meet (()) (trivial) (by first | exact ⟨rfl, rfl, rfl, rfl, rfl, rfl, congrArg (fun s => some (st s)) (show e.core.text = (polB (l.old e.core.letter) e.core) from (if_pos hc39).symm), trivial⟩ | exact ⟨rfl, rfl, rfl, rfl, rfl, rfl, congrArg (fun s => some (st s)) (show (l.old e.core.letter).policy = (polB (l.old e.core.letter) e.core) from (if_neg hc39).symm), trivial⟩) (by repeat first|exact s0 _|exact s1 _|apply s2|apply s3)
    · intro z1 hz1
      refine SC.seq (SC.region ?_)
      refine SL.val (Val.move rfl) rfl rfl ?_
      refine SL.val (Val.move rfl) rfl rfl ?_
      refine SL.call (rparse_s (l := tx (polB (l.old e.core.letter) e.core)) (n := n)) (Casts.of_eq (by rw [st_tx])) (by kernel_rfl) rfl rfl rfl ?_
      refine After.pure (by repeat (first | exact Reads.nil | (refine Reads.blk ?_ ?_; focus ((repeat first|assumption|exact m0|apply m1); done)) | (refine Reads.rd ?_ ?_; focus ((repeat first|assumption|exact m0|apply m1); done)) | (refine Reads.pc ?_ ?_; focus ((repeat first|assumption|exact m0|apply m1); done)) | (refine Reads.rdpc ?_ ?_; focus ((repeat first|assumption|exact m0|apply m1); done)))) (fun _ => rfl) ?_
      intro _
      refine SL.val (Val.move rfl) rfl rfl ?_
      refine SL.val (Val.extract rfl rfl) rfl rfl ?_
      refine SL.val (Val.extract rfl rfl) rfl rfl ?_
      refine SL.eff (Eff.alloc tabOk rfl) rfl rfl ?_
      rintro _ _ ⟨b12, rfl, rfl⟩
      refine SL.eff (Eff.store (L' := (parseF (tx (polB (l.old e.core.letter) e.core)) n).1.abs) tabOk rfl rfl rfl (by repeat first|assumption|exact Upd.here|apply Upd.there) (by exact Frm.abs_len _) (Nat.le_of_ble_eq_true (by rfl)) (by exact Frm.abs_ones _) (putL_whole (by exact Frm.abs_len _))) rfl rfl ?_
      rintro _ _ ⟨rfl, rfl⟩
      refine SL.val (Val.assign rfl) rfl rfl ?_
      refine SL.nil (SE.seq ?_)
      refine SC.seq ?_
      refine SC.seq (SC.region ?_)
      refine SL.val (Val.move rfl) rfl rfl ?_
      refine SL.val (Val.neI rfl rfl) rfl rfl ?_
      refine SL.nil (SE.seq ?_)
      refine SC.condP rfl ?_ ?_
      · intro hc49
        refine SC.seq (SC.region ?_)
        refine SL.val (Val.to (C := .agg l.abs) (Val.loadP tabOk rfl rfl rfl (by first|(apply Or.inl;(repeat first|assumption|exact m0|apply m1);done)|(apply Or.inr;(repeat first|assumption|exact m0|apply m1);done)) List.not_mem_nil (Nat.le_of_ble_eq_true (by rfl))) rfl) rfl rfl ?_
        refine SL.eff (Eff.store (L' := l.abs) tabOk rfl rfl rfl (by repeat first|assumption|exact Upd.here|apply Upd.there) rfl (Nat.le_of_ble_eq_true (by rfl)) rfl (by exact putL_whole rfl)) rfl rfl ?_
        rintro _ _ ⟨rfl, rfl⟩
        refine SL.val (Val.assign rfl) rfl rfl ?_
        refine SL.nil (SE.seq ?_)
        refine SC.ret ?_
        refine SE.then_ (by intro h; cases h) ?_
        have he9 : endorsedF (l.old e.core.letter) e n = 2 := if_pos hc49
        have hst := res_b (n := n) hkn (by rw [he9]; decide)
        rw [he9] at hst
        refine SE.fin (rs := [.cell 6 44, .tmp 7]) rfl (RV.cell rfl (RV.cellA tabOk rfl rfl (by first|(apply Or.inl;(repeat first|assumption|exact m0|apply m1);done)|(apply Or.inr;(repeat first|assumption|exact m0|apply m1);done)) (by rfl)) (RV.tmp rfl RV.nil)) (()) (by repeat first|exact s0 _|exact s1 _|apply s2|apply s3) (by simp [It.rids]) ?_
        rw [hst]
        rfl
      intro hc49
      have hpz : (parseF (tx (polB (l.old e.core.letter) e.core)) n).2 = 0 := Classical.byContradiction hc49
      have hck := parseF_ok hpz
      refine SC.skip ?_
      refine SE.seq ?_
      refine SC.seq ?_
      refine SC.seq (SC.region ?_)
      refine SL.val (Val.loadA tabOk rfl rfl rfl (by first|(apply Or.inl;(repeat first|assumption|exact m0|apply m1);done)|(apply Or.inr;(repeat first|assumption|exact m0|apply m1);done)) List.not_mem_nil (Frm.abs_len _)) rfl rfl ?_
      refine SL.val (Val.fieldAddr tabOk rfl rfl rfl rfl rfl) rfl rfl ?_
      refine SL.val (Val.to (C := .v (.int .u32 (e.mask : Nat))) (Val.load1 tabOk rfl rfl (by first|(apply Or.inl;(repeat first|assumption|exact m0|apply m1);done)|(apply Or.inr;(repeat first|assumption|exact m0|apply m1);done)) List.not_mem_nil (by rfl)) rfl) rfl rfl ?_
      refine SL.call (rholds_s (BitVec.ofNat 32 e.mask) (parseF (tx (polB (l.old e.core.letter) e.core)) n).1 (by have h9 := (Frm.check_ok.1 hck).2.1; omega) (Frm.ranges_mono (by have h9 := (Frm.check_ok.1 hck).1; omega) _ (Frm.check_ok.1 hck).2.2.2)) (Casts.of_eq (by rw [mask_u32 hm])) (by kernel_rfl) rfl rfl rfl ?_
      refine After.pure (by repeat (first | exact Reads.nil | (refine Reads.blk ?_ ?_; focus ((repeat first|assumption|exact m0|apply m1); done)) | (refine Reads.rd ?_ ?_; focus ((repeat first|assumption|exact m0|apply m1); done)) | (refine Reads.pc ?_ ?_; focus ((repeat first|assumption|exact m0|apply m1); done)) | (refine Reads.rdpc ?_ ?_; focus ((repeat first|assumption|exact m0|apply m1); done)))) (fun _ => rfl) ?_
      intro _
      refine SL.val (Val.notB rfl) rfl rfl ?_
      refine SL.nil (SE.seq ?_)
      refine SC.cond rfl ?_ ?_
      · intro hc55
        refine SC.seq (SC.region ?_)
        refine SL.val (Val.to (C := .agg l.abs) (Val.loadP tabOk rfl rfl rfl (by first|(apply Or.inl;(repeat first|assumption|exact m0|apply m1);done)|(apply Or.inr;(repeat first|assumption|exact m0|apply m1);done)) List.not_mem_nil (Nat.le_of_ble_eq_true (by rfl))) rfl) rfl rfl ?_
        refine SL.eff (Eff.store (L' := l.abs) tabOk rfl rfl rfl (by repeat first|assumption|exact Upd.here|apply Upd.there) rfl (Nat.le_of_ble_eq_true (by rfl)) rfl (by exact putL_whole rfl)) rfl rfl ?_
        rintro _ _ ⟨rfl, rfl⟩
        refine SL.val (Val.assign rfl) rfl rfl ?_
        refine SL.nil (SE.seq ?_)
        refine SC.ret ?_
        refine SE.then_ (by intro h; cases h) ?_
        have he9 : endorsedF (l.old e.core.letter) e n = 9 := (if_neg hc49).trans (if_pos (by simpa using hc55))
        have hst := res_b (n := n) hkn (by rw [he9]; decide)
        rw [he9] at hst
        refine SE.fin (rs := [.cell 6 44, .tmp 7]) rfl (RV.cell rfl (RV.cellA tabOk rfl rfl (by first|(apply Or.inl;(repeat first|assumption|exact m0|apply m1);done)|(apply Or.inr;(repeat first|assumption|exact m0|apply m1);done)) (by rfl)) (RV.tmp rfl RV.nil)) (()) (by repeat first|exact s0 _|exact s1 _|apply s2|apply s3) (by simp [It.rids]) ?_
        rw [hst]
        rfl
      intro hc55
      refine SC.skip ?_
      refine SE.seq ?_
      refine SC.seq (SC.region ?_)
      refine SL.val (Val.to (C := .agg (ltrA (l.old e.core.letter))) (Val.loadP tabOk rfl rfl rfl (by first|(apply Or.inl;(repeat first|assumption|exact m0|apply m1);done)|(apply Or.inr;(repeat first|assumption|exact m0|apply m1);done)) List.not_mem_nil (Nat.le_of_ble_eq_true (by rfl))) rfl) rfl rfl ?_
      refine SL.val (Val.fieldAddr tabOk rfl rfl rfl rfl rfl) rfl rfl ?_
      refine SL.val (Val.to (C := int e.core.op) (Val.load1 tabOk rfl rfl (by first|(apply Or.inl;(repeat first|assumption|exact m0|apply m1);done)|(apply Or.inr;(repeat first|assumption|exact m0|apply m1);done)) List.not_mem_nil (by rfl)) rfl) rfl rfl ?_
      refine SL.val (Val.fieldAddr tabOk rfl rfl rfl rfl rfl) rfl rfl ?_
      refine SL.val (Val.to (C := int e.core.a) (Val.load1 tabOk rfl rfl (by first|(apply Or.inl;(repeat first|assumption|exact m0|apply m1);done)|(apply Or.inr;(repeat first|assumption|exact m0|apply m1);done)) List.not_mem_nil (by rfl)) rfl) rfl rfl ?_
      refine SL.val (Val.fieldAddr tabOk rfl rfl rfl rfl rfl) rfl rfl ?_
      refine SL.val (Val.to (C := int e.core.b) (Val.load1 tabOk rfl rfl (by first|(apply Or.inl;(repeat first|assumption|exact m0|apply m1);done)|(apply Or.inr;(repeat first|assumption|exact m0|apply m1);done)) List.not_mem_nil (by rfl)) rfl) rfl rfl ?_
      refine SL.val (Val.fieldAddr tabOk rfl rfl rfl rfl rfl) rfl rfl ?_
      refine SL.val (Val.to (C := st e.core.text) (Val.load1 tabOk rfl rfl (by first|(apply Or.inl;(repeat first|assumption|exact m0|apply m1);done)|(apply Or.inr;(repeat first|assumption|exact m0|apply m1);done)) List.not_mem_nil (by rfl)) rfl) rfl rfl ?_
      refine SL.call (rstep_s (x := (l.old e.core.letter)) (op := e.core.op) (a := e.core.a) (b := e.core.b) (t := e.core.text) hox ha ht) Casts.refl (by kernel_rfl) rfl rfl rfl ?_
      refine After.pure (by repeat (first | exact Reads.nil | (refine Reads.blk ?_ ?_; focus ((repeat first|assumption|exact m0|apply m1); done)) | (refine Reads.rd ?_ ?_; focus ((repeat first|assumption|exact m0|apply m1); done)) | (refine Reads.pc ?_ ?_; focus ((repeat first|assumption|exact m0|apply m1); done)) | (refine Reads.rdpc ?_ ?_; focus ((repeat first|assumption|exact m0|apply m1); done)))) (fun _ => rfl) ?_
      intro _
      refine SL.val (Val.move rfl) rfl rfl ?_
      refine SL.val (Val.extract rfl rfl) rfl rfl ?_
      refine SL.val (Val.extract rfl rfl) rfl rfl ?_
      refine SL.eff (Eff.alloc tabOk rfl) rfl rfl ?_
      rintro _ _ ⟨b14, rfl, rfl⟩
      refine SL.eff (Eff.store (L' := ltrA ((l.old e.core.letter).step e.core.op e.core.a e.core.b e.core.text).1) tabOk rfl rfl rfl (by repeat first|assumption|exact Upd.here|apply Upd.there) rfl (Nat.le_of_ble_eq_true (by rfl)) rfl (by exact putL_whole rfl)) rfl rfl ?_
      rintro _ _ ⟨rfl, rfl⟩
      refine SL.val (Val.assign rfl) rfl rfl ?_
      refine SL.nil (SE.seq ?_)
      refine SC.seq ?_
      refine SC.seq (SC.region ?_)
      refine SL.val (Val.move rfl) rfl rfl ?_
      refine SL.val (Val.neI rfl rfl) rfl rfl ?_
      refine SL.nil (SE.seq ?_)
      refine SC.condP rfl ?_ ?_
      · intro hc71
        refine SC.seq (SC.region ?_)
        refine SL.val (Val.to (C := .agg l.abs) (Val.loadP tabOk rfl rfl rfl (by first|(apply Or.inl;(repeat first|assumption|exact m0|apply m1);done)|(apply Or.inr;(repeat first|assumption|exact m0|apply m1);done)) List.not_mem_nil (Nat.le_of_ble_eq_true (by rfl))) rfl) rfl rfl ?_
        refine SL.val (Val.move rfl) rfl rfl ?_
        refine SL.eff (Eff.store (L' := l.abs) tabOk rfl rfl rfl (by repeat first|assumption|exact Upd.here|apply Upd.there) rfl (Nat.le_of_ble_eq_true (by rfl)) rfl (by exact putL_whole rfl)) rfl rfl ?_
        rintro _ _ ⟨rfl, rfl⟩
        refine SL.val (Val.assign rfl) rfl rfl ?_
        refine SL.nil (SE.seq ?_)
        refine SC.ret ?_
        refine SE.then_ (by intro h; cases h) ?_
        have he9 : endorsedF (l.old e.core.letter) e n = 0 := (if_neg hc49).trans (if_neg (by simpa using hc55))
        have hst := (res_c (n := n) hkn (by rw [he9]; decide)).trans (stepped_a hc71)
        refine SE.fin (rs := [.cell 6 44, .tmp 7]) rfl (RV.cell rfl (RV.cellA tabOk rfl rfl (by first|(apply Or.inl;(repeat first|assumption|exact m0|apply m1);done)|(apply Or.inr;(repeat first|assumption|exact m0|apply m1);done)) (by rfl)) (RV.tmp rfl RV.nil)) (()) (by repeat first|exact s0 _|exact s1 _|apply s2|apply s3) (by simp [It.rids]) ?_
        rw [hst]
        rfl
      intro hc71
      refine SC.skip ?_
      refine SE.seq ?_
      refine SC.seq (SC.region ?_)
      refine SL.val (Val.fieldAddr tabOk rfl rfl rfl rfl rfl) rfl rfl ?_
      refine SL.val (Val.to (C := st e.core.letter) (Val.load1 tabOk rfl rfl (by first|(apply Or.inl;(repeat first|assumption|exact m0|apply m1);done)|(apply Or.inr;(repeat first|assumption|exact m0|apply m1);done)) List.not_mem_nil (by rfl)) rfl) rfl rfl ?_
      refine SL.val (Val.fieldAddr tabOk rfl rfl rfl rfl rfl) rfl rfl ?_
      refine SL.eff (Eff.store (L' := ltrA (nextL (l.old e.core.letter) e.core)) tabOk rfl rfl rfl (by repeat first|assumption|exact Upd.here|apply Upd.there) rfl (Nat.le_of_ble_eq_true (by rfl)) rfl (by rfl)) rfl rfl ?_
      rintro _ _ ⟨rfl, rfl⟩
      refine SL.nil (SE.seq ?_)
      refine SC.seq (SC.region ?_)
      refine SL.val (Val.to (C := .agg l.abs) (Val.loadP tabOk rfl rfl rfl (by first|(apply Or.inl;(repeat first|assumption|exact m0|apply m1);done)|(apply Or.inr;(repeat first|assumption|exact m0|apply m1);done)) List.not_mem_nil (Nat.le_of_ble_eq_true (by rfl))) rfl) rfl rfl ?_
      refine SL.val (Val.to (C := .agg (ltrA (nextL (l.old e.core.letter) e.core))) (Val.loadP tabOk rfl rfl rfl (by first|(apply Or.inl;(repeat first|assumption|exact m0|apply m1);done)|(apply Or.inr;(repeat first|assumption|exact m0|apply m1);done)) List.not_mem_nil (Nat.le_of_ble_eq_true (by rfl))) rfl) rfl rfl ?_
      refine SL.call (rwith_s (x := (nextL (l.old e.core.letter) e.core)) hf hs) Casts.refl (by kernel_rfl) rfl rfl rfl ?_
      refine After.pure (by repeat (first | exact Reads.nil | (refine Reads.blk ?_ ?_; focus ((repeat first|assumption|exact m0|apply m1); done)) | (refine Reads.rd ?_ ?_; focus ((repeat first|assumption|exact m0|apply m1); done)) | (refine Reads.pc ?_ ?_; focus ((repeat first|assumption|exact m0|apply m1); done)) | (refine Reads.rdpc ?_ ?_; focus ((repeat first|assumption|exact m0|apply m1); done)))) (fun _ => rfl) ?_
      intro _
      refine SL.val (Val.move rfl) rfl rfl ?_
      refine SL.val (Val.extract rfl rfl) rfl rfl ?_
      refine SL.val (Val.extract rfl rfl) rfl rfl ?_
      refine SL.eff (Eff.alloc tabOk rfl) rfl rfl ?_
      rintro _ _ ⟨b15, rfl, rfl⟩
      refine SL.eff (Eff.store (L' := (l.with_ (nextL (l.old e.core.letter) e.core)).1.abs) tabOk rfl rfl rfl (by repeat first|assumption|exact Upd.here|apply Upd.there) rfl (Nat.le_of_ble_eq_true (by rfl)) rfl (by exact putL_whole rfl)) rfl rfl ?_
      rintro _ _ ⟨rfl, rfl⟩
      refine SL.val (Val.assign rfl) rfl rfl ?_
      refine SL.nil (SE.seq ?_)
      refine SC.seq ?_
      refine SC.seq (SC.region ?_)
      refine SL.val (Val.move rfl) rfl rfl ?_
      refine SL.val (Val.neI rfl rfl) rfl rfl ?_
      refine SL.nil (SE.seq ?_)
      refine SC.condP rfl ?_ ?_
      · intro hc84
        refine SC.seq (SC.region ?_)
        refine SL.val (Val.to (C := .agg l.abs) (Val.loadP tabOk rfl rfl rfl (by first|(apply Or.inl;(repeat first|assumption|exact m0|apply m1);done)|(apply Or.inr;(repeat first|assumption|exact m0|apply m1);done)) List.not_mem_nil (Nat.le_of_ble_eq_true (by rfl))) rfl) rfl rfl ?_
        refine SL.val (Val.move rfl) rfl rfl ?_
        refine SL.eff (Eff.store (L' := l.abs) tabOk rfl rfl rfl (by repeat first|assumption|exact Upd.here|apply Upd.there) rfl (Nat.le_of_ble_eq_true (by rfl)) rfl (by exact putL_whole rfl)) rfl rfl ?_
        rintro _ _ ⟨rfl, rfl⟩
        refine SL.val (Val.assign rfl) rfl rfl ?_
        refine SL.nil (SE.seq ?_)
        refine SC.ret ?_
        refine SE.then_ (by intro h; cases h) ?_
        have he9 : endorsedF (l.old e.core.letter) e n = 0 := (if_neg hc49).trans (if_neg (by simpa using hc55))
        have hst := (res_c (n := n) hkn (by rw [he9]; decide)).trans (stepped_b hc71 hc84)
        refine SE.fin (rs := [.cell 6 44, .tmp 7]) rfl (RV.cell rfl (RV.cellA tabOk rfl rfl (by first|(apply Or.inl;(repeat first|assumption|exact m0|apply m1);done)|(apply Or.inr;(repeat first|assumption|exact m0|apply m1);done)) (by rfl)) (RV.tmp rfl RV.nil)) (()) (by repeat first|exact s0 _|exact s1 _|apply s2|apply s3) (by simp [It.rids]) ?_
        rw [hst]
        rfl
      intro hc84
      refine SC.skip ?_
      refine SE.seq ?_
      refine SC.seq ?_
      refine SC.seq (SC.region ?_)
      refine SL.val (Val.fieldAddr tabOk rfl rfl rfl rfl rfl) rfl rfl ?_
      refine SL.val (Val.to (C := int e.core.op) (Val.load1 tabOk rfl rfl (by first|(apply Or.inl;(repeat first|assumption|exact m0|apply m1);done)|(apply Or.inr;(repeat first|assumption|exact m0|apply m1);done)) List.not_mem_nil (by rfl)) rfl) rfl rfl ?_
      refine SL.val (Val.eqI rfl rfl) rfl rfl ?_
      refine SL.nil (SE.seq ?_)
      refine SC.condP rfl ?_ ?_
      rotate_left
      · intro hc89
        refine SC.skip ?_
        refine SE.seq ?_
        refine SC.seq (SC.region ?_)
        refine SL.val (Val.to (C := .agg (Lg.abs (l.with_ (nextL (l.old e.core.letter) e.core)).1)) (Val.loadP tabOk rfl rfl rfl (by first|(apply Or.inl;(repeat first|assumption|exact m0|apply m1);done)|(apply Or.inr;(repeat first|assumption|exact m0|apply m1);done)) List.not_mem_nil (Nat.le_of_ble_eq_true (by rfl))) rfl) rfl rfl ?_
        refine SL.eff (Eff.store (L' := Lg.abs (l.with_ (nextL (l.old e.core.letter) e.core)).1) tabOk rfl rfl rfl (by repeat first|assumption|exact Upd.here|apply Upd.there) rfl (Nat.le_of_ble_eq_true (by rfl)) rfl (by exact putL_whole rfl)) rfl rfl ?_
        rintro _ _ ⟨rfl, rfl⟩
        refine SL.val (Val.assign rfl) rfl rfl ?_
        refine SL.nil (SE.seq ?_)
        refine SC.ret ?_
        have he9 : endorsedF (l.old e.core.letter) e n = 0 := (if_neg hc49).trans (if_neg (by simpa using hc55))
        first
          | have hst := (res_c (n := n) hkn (by rw [he9]; decide)).trans (stepped_e hc71 hc84 hc89 hc99)
          | have hst := (res_c (n := n) hkn (by rw [he9]; decide)).trans (stepped_c hc71 hc84 hc89)
        refine SE.fin (rs := [.cell 6 44, .tmp 7]) rfl (RV.cell rfl (RV.cellA tabOk rfl rfl (by first|(apply Or.inl;(repeat first|assumption|exact m0|apply m1);done)|(apply Or.inr;(repeat first|assumption|exact m0|apply m1);done)) (by rfl)) (RV.tmp rfl RV.nil)) (()) (by repeat first|exact s0 _|exact s1 _|apply s2|apply s3) (by simp [It.rids]) ?_
        rw [hst]
        rfl
      intro hc89
      refine SC.seq (SC.region ?_)
      refine SL.val (Val.fieldAddr tabOk rfl rfl rfl rfl rfl) rfl rfl ?_
      refine SL.val (Val.to (C := int l.total) (Val.load1 tabOk rfl rfl (by first|(apply Or.inl;(repeat first|assumption|exact m0|apply m1);done)|(apply Or.inr;(repeat first|assumption|exact m0|apply m1);done)) List.not_mem_nil (by rfl)) rfl) rfl rfl ?_
      refine SL.val (Val.fieldAddr tabOk rfl rfl rfl rfl rfl) rfl rfl ?_
      refine SL.val (Val.to (C := int (nextL (l.old e.core.letter) e.core).amount) (Val.load1 tabOk rfl rfl (by first|(apply Or.inl;(repeat first|assumption|exact m0|apply m1);done)|(apply Or.inr;(repeat first|assumption|exact m0|apply m1);done)) List.not_mem_nil (by rfl)) rfl) rfl rfl ?_
      refine SL.call (rmadd_s (a := l.total) (b := (nextL (l.old e.core.letter) e.core).amount) hl.total hsw.amount) Casts.refl (by kernel_rfl) rfl rfl rfl ?_
      refine After.pure (by repeat (first | exact Reads.nil | (refine Reads.blk ?_ ?_; focus ((repeat first|assumption|exact m0|apply m1); done)) | (refine Reads.rd ?_ ?_; focus ((repeat first|assumption|exact m0|apply m1); done)) | (refine Reads.pc ?_ ?_; focus ((repeat first|assumption|exact m0|apply m1); done)) | (refine Reads.rdpc ?_ ?_; focus ((repeat first|assumption|exact m0|apply m1); done)))) (fun _ => rfl) ?_
      intro _
      refine SL.val (Val.move rfl) rfl rfl ?_
      refine SL.val (Val.extract rfl rfl) rfl rfl ?_
      refine SL.val (Val.extract rfl rfl) rfl rfl ?_
      refine SL.val (Val.assign rfl) rfl rfl ?_
      refine SL.val (Val.assign rfl) rfl rfl ?_
      refine SL.nil (SE.seq ?_)
      refine SC.seq ?_
      refine SC.seq (SC.region ?_)
      refine SL.val (Val.move rfl) rfl rfl ?_
      refine SL.val (Val.neI rfl rfl) rfl rfl ?_
      refine SL.nil (SE.seq ?_)
      refine SC.condP rfl ?_ ?_
      · intro hc99
        refine SC.seq (SC.region ?_)
        refine SL.val (Val.to (C := .agg l.abs) (Val.loadP tabOk rfl rfl rfl (by first|(apply Or.inl;(repeat first|assumption|exact m0|apply m1);done)|(apply Or.inr;(repeat first|assumption|exact m0|apply m1);done)) List.not_mem_nil (Nat.le_of_ble_eq_true (by rfl))) rfl) rfl rfl ?_
        refine SL.eff (Eff.store (L' := l.abs) tabOk rfl rfl rfl (by repeat first|assumption|exact Upd.here|apply Upd.there) rfl (Nat.le_of_ble_eq_true (by rfl)) rfl (by exact putL_whole rfl)) rfl rfl ?_
        rintro _ _ ⟨rfl, rfl⟩
        refine SL.val (Val.assign rfl) rfl rfl ?_
        refine SL.nil (SE.seq ?_)
        refine SC.ret ?_
        refine SE.then_ (by intro h; cases h) ?_
        refine SE.then_ (by intro h; cases h) ?_
        have he9 : endorsedF (l.old e.core.letter) e n = 0 := (if_neg hc49).trans (if_neg (by simpa using hc55))
        have hst := (res_c (n := n) hkn (by rw [he9]; decide)).trans (stepped_d hc71 hc84 hc89 hc99)
        refine SE.fin (rs := [.cell 6 44, .tmp 7]) rfl (RV.cell rfl (RV.cellA tabOk rfl rfl (by first|(apply Or.inl;(repeat first|assumption|exact m0|apply m1);done)|(apply Or.inr;(repeat first|assumption|exact m0|apply m1);done)) (by rfl)) (RV.tmp rfl RV.nil)) (()) (by repeat first|exact s0 _|exact s1 _|apply s2|apply s3) (by simp [It.rids]) ?_
        rw [hst]
        rfl
      intro hc99
      refine SC.skip ?_
      refine SE.seq ?_
      refine SC.region ?_
      refine SL.val (Val.move rfl) rfl rfl ?_
      refine SL.val (Val.fieldAddr tabOk rfl rfl rfl rfl rfl) rfl rfl ?_
      refine SL.eff (Eff.store (L' := Lg.abs { (l.with_ (nextL (l.old e.core.letter) e.core)).1 with total := (amtAdd l.total (nextL (l.old e.core.letter) e.core).amount).1 }) tabOk rfl rfl rfl (by repeat first|assumption|exact Upd.here|apply Upd.there) rfl (Nat.le_of_ble_eq_true (by rfl)) rfl (by rfl)) rfl rfl ?_
      rintro _ _ ⟨rfl, rfl⟩
      refine SL.nil (SE.seq ?_)
      refine SC.seq (SC.region ?_)
      refine SL.val (Val.to (C := .agg (Lg.abs { (l.with_ (nextL (l.old e.core.letter) e.core)).1 with total := (amtAdd l.total (nextL (l.old e.core.letter) e.core).amount).1 })) (Val.loadP tabOk rfl rfl rfl (by first|(apply Or.inl;(repeat first|assumption|exact m0|apply m1);done)|(apply Or.inr;(repeat first|assumption|exact m0|apply m1);done)) List.not_mem_nil (Nat.le_of_ble_eq_true (by rfl))) rfl) rfl rfl ?_
      refine SL.eff (Eff.store (L' := Lg.abs { (l.with_ (nextL (l.old e.core.letter) e.core)).1 with total := (amtAdd l.total (nextL (l.old e.core.letter) e.core).amount).1 }) tabOk rfl rfl rfl (by repeat first|assumption|exact Upd.here|apply Upd.there) rfl (Nat.le_of_ble_eq_true (by rfl)) rfl (by exact putL_whole rfl)) rfl rfl ?_
      rintro _ _ ⟨rfl, rfl⟩
      refine SL.val (Val.assign rfl) rfl rfl ?_
      refine SL.nil (SE.seq ?_)
      refine SC.ret ?_
      have he9 : endorsedF (l.old e.core.letter) e n = 0 := (if_neg hc49).trans (if_neg (by simpa using hc55))
      first
        | have hst := (res_c (n := n) hkn (by rw [he9]; decide)).trans (stepped_e hc71 hc84 hc89 hc99)
        | have hst := (res_c (n := n) hkn (by rw [he9]; decide)).trans (stepped_c hc71 hc84 hc89)
      refine SE.fin (rs := [.cell 6 44, .tmp 7]) rfl (RV.cell rfl (RV.cellA tabOk rfl rfl (by first|(apply Or.inl;(repeat first|assumption|exact m0|apply m1);done)|(apply Or.inr;(repeat first|assumption|exact m0|apply m1);done)) (by rfl)) (RV.tmp rfl RV.nil)) (()) (by repeat first|exact s0 _|exact s1 _|apply s2|apply s3) (by simp [It.rids]) ?_
      rw [hst]
      rfl
set_option maxHeartbeats 2000000 in
theorem rdo_s (hq : l.ls.length ≤ 900 ∧ l.os.length ≤ 900) (hl : l.Wf) (he : EnIns e) (hs : e.core.letter.size ≤ lots) : Spec Tryz.prog 20 [.agg l.abs, .agg (entA e), int n] [] (fun _ : Unit => []) (fun _ => .tup [.agg (l.doF e n).1.abs, int (l.doF e n).2]) := by
  have hf : l.Few := ⟨by omega, by omega⟩
  have hrl := res_len (l := l) (e := e) (n := n)
  have hf2 : (l.res e n).1.Few := ⟨by omega, by rw [hrl.2]; omega⟩
  refine spec_of Tryz.func20 rfl Tryz.ntmps20 rfl fun G w => ?_
  refine SC.seq (SC.region ?_)
  refine SL.eff (Eff.boxA (cs := l.abs) rfl) rfl rfl ?_
  rintro _ _ ⟨b3, rfl, rfl⟩
  refine SL.eff (Eff.boxA (cs := entA e) rfl) rfl rfl ?_
  rintro _ _ ⟨b4, rfl, rfl⟩
  refine SL.eff (Eff.alloc tabOk rfl) rfl rfl ?_
  rintro _ _ ⟨b6, rfl, rfl⟩
  refine SL.val (Val.assign rfl) rfl rfl ?_
  refine SL.nil (SE.seq ?_)
  refine SC.seq ?_
  refine SC.seq (SC.region ?_)
  refine SL.val (Val.to (C := .agg l.abs) (Val.loadP tabOk rfl rfl rfl (by first|(apply Or.inl;(repeat first|assumption|exact m0|apply m1);done)|(apply Or.inr;(repeat first|assumption|exact m0|apply m1);done)) List.not_mem_nil (Nat.le_of_ble_eq_true (by rfl))) rfl) rfl rfl ?_
  refine SL.val (Val.fieldAddr tabOk rfl rfl rfl rfl rfl) rfl rfl ?_
  refine SL.val (Val.to (C := coreA e.core) (Val.loadP tabOk rfl rfl rfl (by first|(apply Or.inl;(repeat first|assumption|exact m0|apply m1);done)|(apply Or.inr;(repeat first|assumption|exact m0|apply m1);done)) List.not_mem_nil (Nat.le_of_ble_eq_true (by rfl))) rfl) rfl rfl ?_
  refine SL.call (rstale_s (l := l) (c := e.core)) Casts.refl (by kernel_rfl) rfl rfl rfl ?_
  refine After.pure (by repeat (first | exact Reads.nil | (refine Reads.blk ?_ ?_; focus ((repeat first|assumption|exact m0|apply m1); done)) | (refine Reads.rd ?_ ?_; focus ((repeat first|assumption|exact m0|apply m1); done)) | (refine Reads.pc ?_ ?_; focus ((repeat first|assumption|exact m0|apply m1); done)) | (refine Reads.rdpc ?_ ?_; focus ((repeat first|assumption|exact m0|apply m1); done)))) (fun _ => rfl) ?_
  intro _
  refine SL.nil (SE.seq ?_)
  refine SC.cond rfl ?_ ?_
  · intro hc13
    refine SC.seq (SC.region ?_)
    refine SL.val (Val.to (C := .agg l.abs) (Val.loadP tabOk rfl rfl rfl (by first|(apply Or.inl;(repeat first|assumption|exact m0|apply m1);done)|(apply Or.inr;(repeat first|assumption|exact m0|apply m1);done)) List.not_mem_nil (Nat.le_of_ble_eq_true (by rfl))) rfl) rfl rfl ?_
    refine SL.eff (Eff.store (L' := l.abs) tabOk rfl rfl rfl (by repeat first|assumption|exact Upd.here|apply Upd.there) rfl (Nat.le_of_ble_eq_true (by rfl)) rfl (by exact putL_whole rfl)) rfl rfl ?_
    rintro _ _ ⟨rfl, rfl⟩
    refine SL.val (Val.assign rfl) rfl rfl ?_
    refine SL.nil (SE.seq ?_)
    refine SC.ret ?_
    refine SE.then_ (by intro h; cases h) ?_
    refine SE.fin (rs := [.cell 6 44, .tmp 7]) rfl (RV.cell rfl (RV.cellA tabOk rfl rfl (by first|(apply Or.inl;(repeat first|assumption|exact m0|apply m1);done)|(apply Or.inr;(repeat first|assumption|exact m0|apply m1);done)) (by rfl)) (RV.tmp rfl RV.nil)) (()) (by repeat first|exact s0 _|exact s1 _|apply s2|apply s3) (by simp [It.rids]) ?_
    unfold Lg.doF
    rw [if_pos hc13]
    rfl
  intro hc13
  refine SC.skip ?_
  refine SE.seq ?_
  refine SC.seq (SC.region ?_)
  refine SL.val (Val.fieldAddr tabOk rfl rfl rfl rfl rfl) rfl rfl ?_
  refine SL.val (Val.to (C := coreA e.core) (Val.loadP tabOk rfl rfl rfl (by first|(apply Or.inl;(repeat first|assumption|exact m0|apply m1);done)|(apply Or.inr;(repeat first|assumption|exact m0|apply m1);done)) List.not_mem_nil (Nat.le_of_ble_eq_true (by rfl))) rfl) rfl rfl ?_
  refine SL.val (Val.move rfl) rfl rfl ?_
  refine SL.call (rccheck_s (c := e.core) (n := n) hs) Casts.refl (by kernel_rfl) rfl rfl rfl ?_
  refine After.pure (by repeat (first | exact Reads.nil | (refine Reads.blk ?_ ?_; focus ((repeat first|assumption|exact m0|apply m1); done)) | (refine Reads.rd ?_ ?_; focus ((repeat first|assumption|exact m0|apply m1); done)) | (refine Reads.pc ?_ ?_; focus ((repeat first|assumption|exact m0|apply m1); done)) | (refine Reads.rdpc ?_ ?_; focus ((repeat first|assumption|exact m0|apply m1); done)))) (fun _ => rfl) ?_
  intro _
  refine SL.val (Val.assign rfl) rfl rfl ?_
  refine SL.nil (SE.seq ?_)
  refine SC.seq ?_
  refine SC.seq (SC.region ?_)
  refine SL.val (Val.move rfl) rfl rfl ?_
  refine SL.val (Val.neI rfl rfl) rfl rfl ?_
  refine SL.nil (SE.seq ?_)
  refine SC.condP rfl ?_ ?_
  · intro hc20
    refine SC.seq (SC.region ?_)
    refine SL.val (Val.to (C := .agg l.abs) (Val.loadP tabOk rfl rfl rfl (by first|(apply Or.inl;(repeat first|assumption|exact m0|apply m1);done)|(apply Or.inr;(repeat first|assumption|exact m0|apply m1);done)) List.not_mem_nil (Nat.le_of_ble_eq_true (by rfl))) rfl) rfl rfl ?_
    refine SL.val (Val.move rfl) rfl rfl ?_
    refine SL.eff (Eff.store (L' := l.abs) tabOk rfl rfl rfl (by repeat first|assumption|exact Upd.here|apply Upd.there) rfl (Nat.le_of_ble_eq_true (by rfl)) rfl (by exact putL_whole rfl)) rfl rfl ?_
    rintro _ _ ⟨rfl, rfl⟩
    refine SL.val (Val.assign rfl) rfl rfl ?_
    refine SL.nil (SE.seq ?_)
    refine SC.ret ?_
    refine SE.then_ (by intro h; cases h) ?_
    refine SE.fin (rs := [.cell 6 44, .tmp 7]) rfl (RV.cell rfl (RV.cellA tabOk rfl rfl (by first|(apply Or.inl;(repeat first|assumption|exact m0|apply m1);done)|(apply Or.inr;(repeat first|assumption|exact m0|apply m1);done)) (by rfl)) (RV.tmp rfl RV.nil)) (()) (by repeat first|exact s0 _|exact s1 _|apply s2|apply s3) (by simp [It.rids]) ?_
    unfold Lg.doF
    rw [if_neg (by rw [hc13]; decide), if_pos hc20]
    rfl
  intro hc20
  refine SC.skip ?_
  refine SE.seq ?_
  refine SC.seq (SC.region ?_)
  refine SL.val (Val.to (C := .agg l.abs) (Val.loadP tabOk rfl rfl rfl (by first|(apply Or.inl;(repeat first|assumption|exact m0|apply m1);done)|(apply Or.inr;(repeat first|assumption|exact m0|apply m1);done)) List.not_mem_nil (Nat.le_of_ble_eq_true (by rfl))) rfl) rfl rfl ?_
  refine SL.val (Val.to (C := .agg (entA e)) (Val.loadP tabOk rfl rfl rfl (by first|(apply Or.inl;(repeat first|assumption|exact m0|apply m1);done)|(apply Or.inr;(repeat first|assumption|exact m0|apply m1);done)) List.not_mem_nil (Nat.le_of_ble_eq_true (by rfl))) rfl) rfl rfl ?_
  refine SL.val (Val.move rfl) rfl rfl ?_
  refine SL.call (rresult_s (n := n) hf hl he.a (by have := he.text; unfold maxLen at this; omega) he.mask hs) Casts.refl (by kernel_rfl) rfl rfl rfl ?_
  refine After.pure (by repeat (first | exact Reads.nil | (refine Reads.blk ?_ ?_; focus ((repeat first|assumption|exact m0|apply m1); done)) | (refine Reads.rd ?_ ?_; focus ((repeat first|assumption|exact m0|apply m1); done)) | (refine Reads.pc ?_ ?_; focus ((repeat first|assumption|exact m0|apply m1); done)) | (refine Reads.rdpc ?_ ?_; focus ((repeat first|assumption|exact m0|apply m1); done)))) (fun _ => rfl) ?_
  intro _
  refine SL.val (Val.move rfl) rfl rfl ?_
  refine SL.val (Val.extract rfl rfl) rfl rfl ?_
  refine SL.val (Val.extract rfl rfl) rfl rfl ?_
  refine SL.eff (Eff.alloc tabOk rfl) rfl rfl ?_
  rintro _ _ ⟨b9, rfl, rfl⟩
  refine SL.eff (Eff.store (L' := (l.res e n).1.abs) tabOk rfl rfl rfl (by repeat first|assumption|exact Upd.here|apply Upd.there) rfl (Nat.le_of_ble_eq_true (by rfl)) rfl (by exact putL_whole rfl)) rfl rfl ?_
  rintro _ _ ⟨rfl, rfl⟩
  refine SL.val (Val.assign rfl) rfl rfl ?_
  refine SL.nil (SE.seq ?_)
  refine SC.seq (SC.region ?_)
  refine SL.val (Val.to (C := .agg (l.res e n).1.abs) (Val.loadP tabOk rfl rfl rfl (by first|(apply Or.inl;(repeat first|assumption|exact m0|apply m1);done)|(apply Or.inr;(repeat first|assumption|exact m0|apply m1);done)) List.not_mem_nil (Nat.le_of_ble_eq_true (by rfl))) rfl) rfl rfl ?_
  refine SL.val (Val.fieldAddr tabOk rfl rfl rfl rfl rfl) rfl rfl ?_
  refine SL.val (Val.fieldAddr tabOk rfl rfl rfl rfl rfl) rfl rfl ?_
  refine SL.val (Val.to (C := int e.core.client) (Val.load1 tabOk rfl rfl (by first|(apply Or.inl;(repeat first|assumption|exact m0|apply m1);done)|(apply Or.inr;(repeat first|assumption|exact m0|apply m1);done)) List.not_mem_nil (by rfl)) rfl) rfl rfl ?_
  refine SL.val (Val.fieldAddr tabOk rfl rfl rfl rfl rfl) rfl rfl ?_
  refine SL.val (Val.fieldAddr tabOk rfl rfl rfl rfl rfl) rfl rfl ?_
  refine SL.val (Val.to (C := int e.core.stamp) (Val.load1 tabOk rfl rfl (by first|(apply Or.inl;(repeat first|assumption|exact m0|apply m1);done)|(apply Or.inr;(repeat first|assumption|exact m0|apply m1);done)) List.not_mem_nil (by rfl)) rfl) rfl rfl ?_
  refine SL.val (Val.move rfl) rfl rfl ?_
  refine SL.val (Val.buildS (L := Oc.abs ⟨e.core.client, e.core.stamp, (l.res e n).2⟩) tabOk rfl rfl rfl (by rfl)) rfl rfl ?_
  refine SL.call (rtold_s (l := (l.res e n).1) (x := ⟨e.core.client, e.core.stamp, (l.res e n).2⟩) hf2) Casts.refl (by kernel_rfl) rfl rfl rfl ?_
  refine After.pure (by repeat (first | exact Reads.nil | (refine Reads.blk ?_ ?_; focus ((repeat first|assumption|exact m0|apply m1); done)) | (refine Reads.rd ?_ ?_; focus ((repeat first|assumption|exact m0|apply m1); done)) | (refine Reads.pc ?_ ?_; focus ((repeat first|assumption|exact m0|apply m1); done)) | (refine Reads.rdpc ?_ ?_; focus ((repeat first|assumption|exact m0|apply m1); done)))) (fun _ => rfl) ?_
  intro _
  refine SL.val (Val.move rfl) rfl rfl ?_
  refine SL.eff (Eff.store (L' := ((l.res e n).1.told ⟨e.core.client, e.core.stamp, (l.res e n).2⟩).abs) tabOk rfl rfl rfl (by repeat first|assumption|exact Upd.here|apply Upd.there) rfl (Nat.le_of_ble_eq_true (by rfl)) rfl (by exact putL_whole rfl)) rfl rfl ?_
  rintro _ _ ⟨rfl, rfl⟩
  refine SL.val (Val.assign rfl) rfl rfl ?_
  refine SL.nil (SE.seq ?_)
  refine SC.ret ?_
  refine SE.fin (rs := [.cell 6 44, .tmp 7]) rfl (RV.cell rfl (RV.cellA tabOk rfl rfl (by first|(apply Or.inl;(repeat first|assumption|exact m0|apply m1);done)|(apply Or.inr;(repeat first|assumption|exact m0|apply m1);done)) (by rfl)) (RV.tmp rfl RV.nil)) (()) (by repeat first|exact s0 _|exact s1 _|apply s2|apply s3) (by simp [It.rids]) ?_
  unfold Lg.doF
  rw [if_neg (by rw [hc13]; decide), if_neg hc20]
  rfl
end
end Go.Proofs.YtnedfcaoggkmnaaGreatDoor.A
/-
  Policies' texts: rows and policies, read by the program.
-/
set_option maxRecDepth 100000
set_option linter.unusedSimpArgs false
set_option linter.unusedVariables false
namespace Go.Proofs.YtnedfcaoggkmnaaGreatDoor.A
open Go.RowKit

section
variable {l wd : Txt} {odd : Bool} {p : Nat} {es er : Value} {k : Nat} {d : Int}
theorem row_less {o o2 : Bool} {a b : Nat} (ho : o = false) (h : o2 = true ∨ a < b) : (if o2 = true then 0 else a + 1) < if o = true then 0 else b + 1 := by
  subst ho
  rcases h with rfl | h
  · simp
  · simp only [Bool.false_eq_true, if_false]
    split <;> omega
theorem pol0_s (hl : l.length ≤ 1000) : Spec Tryz.prog 89 [ptr p, int 11] (.blk p 128 (psA (l) odd) :: globs es er) (fun z : {z : Txt × Bool × Frm // PolR 0 l odd z} => [.blk p 128 (psA z.1.1 z.1.2.1)]) (fun z => .agg z.1.2.2.abs) := by
  refine spec_of Tryz.func89 rfl Tryz.ntmps89 rfl fun G w => ?_
  refine SC.seq (SC.region ?_)
  refine SL.eff (Eff.alloc tabOk rfl) rfl rfl ?_
  rintro _ _ ⟨b4, rfl, rfl⟩
  refine SL.nil (SE.seq ?_)
  refine SC.seq ?_
  refine SC.seq (SC.region ?_)
  refine SL.val (Val.move rfl) rfl rfl ?_
  refine SL.val (Val.gtI rfl rfl) rfl rfl ?_
  refine SL.nil (SE.seq ?_)
  refine SC.condP rfl ?_ (by intro hc8; exfalso; omega)
  intro hc8
  refine SC.region ?_
  refine SL.val (Val.move rfl) rfl rfl ?_
  refine SL.val (Val.nilCheck rfl) rfl rfl ?_
  refine SL.val (Val.fieldAddr tabOk rfl rfl rfl rfl rfl) rfl rfl ?_
  refine SL.eff (Eff.store (L' := psA l true) tabOk rfl rfl rfl (by repeat first|assumption|exact Upd.here|apply Upd.there) rfl (Nat.le_of_ble_eq_true (by rfl)) rfl (by rfl)) rfl rfl ?_
  rintro _ _ ⟨rfl, rfl⟩
  refine SL.nil (SE.seq ?_)
  refine SC.seq ?_
  refine SC.seq (SC.region ?_)
  refine SL.val (Val.move rfl) rfl rfl ?_
  refine SL.val (Val.nilCheck rfl) rfl rfl ?_
  refine SL.val (Val.fieldAddr tabOk rfl rfl rfl rfl rfl) rfl rfl ?_
  refine SL.val (Val.load1 tabOk rfl rfl (by first|(apply Or.inl;(repeat first|assumption|exact m0|apply m1);done)|(apply Or.inr;(repeat first|assumption|exact m0|apply m1);done)) List.not_mem_nil (by rfl)) rfl rfl ?_
  refine SL.nil (SE.seq ?_)
  refine SC.cond rfl ?_ (by intro hc15; exfalso; cases hc15)
  intro hc15
  refine SC.seq (SC.region ?_)
  refine SL.val (Val.buildS tabOk rfl rfl rfl rfl) rfl rfl ?_
  refine SL.eff (Eff.store tabOk rfl rfl rfl (by repeat first|assumption|exact Upd.here|apply Upd.there) (by rfl) (Nat.le_of_ble_eq_true (by rfl)) (by rfl) (by rfl)) rfl rfl ?_
  rintro _ _ ⟨rfl, rfl⟩
  refine SL.nil (SE.seq ?_)
  refine SC.ret ?_
  refine SE.then_ (by intro h; cases h) ?_
  refine SE.finC (rs := [.cell 4 83]) rfl (RV.cell rfl (RV.cellA tabOk rfl rfl (by first|(apply Or.inl;(repeat first|assumption|exact m0|apply m1);done)|(apply Or.inr;(repeat first|assumption|exact m0|apply m1);done)) (by rfl)) RV.nil) (Casts.cons (cast_agg (Casts.keep (Casts.keep (Casts.nils (s := 3) Casts.refl)))) Casts.refl) (⟨(l, true, .mk 0 0 []), PolR.deep⟩) (by repeat first|exact s0 _|exact s1 _|apply s2|apply s3) (by simp [It.rids]) ?_
  first
    | exact congrArg Abs.agg (Frm.abs_mk _ _ _).symm
    | rfl
set_option maxHeartbeats 1000000 in
theorem row_s (he : isIf es) (hr : isIf er) (hd : 0 ≤ d ∧ d ≤ 100) (hp : ∀ (l : Txt) (odd : Bool), l.length ≤ 1000 → Spec Tryz.prog 89 [ptr p, int (d + 1)] (.blk p 128 (psA (l) odd) :: globs es er) (fun z : {z : Txt × Bool × Frm // PolR k l odd z} => [.blk p 128 (psA z.1.1 z.1.2.1)]) (fun z => .agg z.1.2.2.abs)) (hl : l.length ≤ 1000) : Spec Tryz.prog 104 [ptr p, int d] (.blk p 128 (psA (l) odd) :: globs es er) (fun z : {z : Txt × Bool × List Frm // RowF k l odd z} => [.blk p 128 (psA z.1.1 z.1.2.1)]) (fun z => .sl 3 (z.1.2.2.map Frm.abs)) := by
  refine spec_of Tryz.func104 rfl Tryz.ntmps104 rfl fun G w => ?_
  refine SC.seq (SC.region ?_)
  refine SL.val (Val.assign rfl) rfl rfl ?_
  refine SL.nil (SE.seq ?_)
  refine SC.cutS (ι := Txt × Bool) (fun z => (.blk p 128 (psA (z.1) z.2) :: globs es er)) (fun z => [(0, ptr p), (1, int d)]) (fun z => RowI k l odd (z.1, z.2, [])) ?_ ?_
  · skip
    refine SC.seq (SC.region ?_)
    refine SL.val (Val.move rfl) rfl rfl ?_
    refine SL.call (take_s (p := p) (l := l) (odd := odd) (wd := [40])) Casts.refl (by kernel_rfl) rfl rfl rfl ?_
    refine After.one rfl (by repeat first|assumption|exact m0|apply m1) (fun _ => rfl) ?_
    intro _
    refine ⟨_, (by repeat first|assumption|exact Upd.here|apply Upd.there), ?_⟩
    refine SL.val (Val.notB rfl) rfl rfl ?_
    refine SL.nil (SE.seq ?_)
    refine SC.cond rfl ?_ ?_
    rotate_left
    · intro hc8
      refine SC.skip ?_
      refine SE.meet (takeT l [40], odd) (RowI.start (by simpa using hc8)) (by exact ⟨rfl, rfl, trivial⟩) (by repeat first|exact s0 _|exact s1 _|apply s2|apply s3)
    intro hc8
    refine SC.region ?_
    refine SL.val (Val.move rfl) rfl rfl ?_
    refine SL.val (Val.nilCheck rfl) rfl rfl ?_
    refine SL.val (Val.fieldAddr tabOk rfl rfl rfl rfl rfl) rfl rfl ?_
    refine SL.eff (Eff.store (L' := psA (takeT l [40]) true) tabOk rfl rfl rfl (by repeat first|assumption|exact Upd.here|apply Upd.there) rfl (Nat.le_of_ble_eq_true (by rfl)) rfl (by rfl)) rfl rfl ?_
    rintro _ _ ⟨rfl, rfl⟩
    refine SL.nil ?_
    refine SE.meet (takeT l [40], true) (RowI.odd_ (by simpa using hc8)) (by exact ⟨rfl, rfl, trivial⟩) (by repeat first|exact s0 _|exact s1 _|apply s2|apply s3)
  · intro z hz
    refine SC.seq (SC.region ?_)
    refine SL.val (Val.assign rfl) rfl rfl ?_
    refine SL.nil (SE.seq ?_)
    refine SC.seq ?_
    refine SC.block ?_
    refine SC.own0 83 3 ?_
    refine SC.loop (ι := Txt × Bool × List Frm × Value) (fun z => own 83 3 z.2.2.2 (z.2.2.1.map Frm.abs) :: (.blk p 128 (psA (z.1) z.2.1) :: globs es er)) (fun z => [(0, ptr p), (1, int d), (5, .v z.2.2.2)]) (fun z => RowI k l odd (z.1, z.2.1, z.2.2.1)) (fun z => if z.2.1 = true then 0 else z.1.length + 1) (z.1, z.2, [], .slice none 0 0) (hz) (by exact ⟨rfl, rfl, rfl, trivial⟩) (by repeat first|exact s0 _|exact s1 _|apply s2|apply s3) ?_
    intro z hz
    refine SC.seq ?_
    refine SC.seq (SC.region ?_)
    refine SL.val (Val.move rfl) rfl rfl ?_
    refine SL.val (Val.nilCheck rfl) rfl rfl ?_
    refine SL.val (Val.fieldAddr tabOk rfl rfl rfl rfl rfl) rfl rfl ?_
    refine SL.val (Val.load1 tabOk rfl rfl (by first|(apply Or.inl;(repeat first|assumption|exact m0|apply m1);done)|(apply Or.inr;(repeat first|assumption|exact m0|apply m1);done)) List.not_mem_nil (by rfl)) rfl rfl ?_
    refine SL.val (Val.notB rfl) rfl rfl ?_
    refine SL.nil (SE.seq ?_)
    refine SC.cond rfl ?_ ?_
    rotate_left
    · intro hc16
      have hod : z.2.1 = true := by simpa using hc16
      refine SC.exit ?_
      refine SE.then_ (by intro h; cases h) ?_
      refine SE.then_ (by intro h; cases h) ?_
      refine SE.exit ?_
      refine SE.seq ?_
      refine SC.seq (SC.region ?_)
      refine SL.val (Val.move rfl) rfl rfl ?_
      refine SL.val (Val.assign rfl) rfl rfl ?_
      refine SL.nil (SE.seq ?_)
      refine SC.ret ?_
      refine SE.freeze [] (t := 4) rfl rfl ?_
      refine SE.fin (rs := [.tmp 4]) rfl (RV.tmp rfl RV.nil) (⟨(z.1, z.2.1, z.2.2.1), hz.done hod⟩) (by repeat first|exact s0 _|exact s1 _|apply s2|apply s3) (by simp [It.rids]) ?_
      exact rfl
    intro hc16
    have hod : z.2.1 = false := by simpa using hc16
    have hzl : z.1.length ≤ l.length := hz.len
    have hzf : z.2.2.1.length ≤ l.length + 2 := Nat.le_trans (Nat.le_add_right _ _) hz.few
    refine SC.skip ?_
    refine SE.seq ?_
    refine SC.block ?_
    refine SC.seq (SC.region ?_)
    refine SL.val (Val.move rfl) rfl rfl ?_
    refine SL.val (Val.move rfl) rfl rfl ?_
    refine SL.val (Val.move rfl) rfl rfl ?_
    first
      | refine SL.val (Val.addI rfl rfl (by simp only [InR, lo, hi]; omega)) rfl rfl ?_
      | refine SL.val (Val.addW rfl rfl) rfl rfl ?_
    refine SL.call (hp z.1 z.2.1 (by omega)) Casts.refl (by kernel_rfl) rfl rfl rfl ?_
    refine After.oneR (ys := globs es er) rfl (by repeat first|assumption|exact m0|apply m1) (by intro y hy; simp only [globs, List.mem_cons, List.not_mem_nil, or_false] at hy; rcases hy with rfl | rfl | rfl <;> exact ⟨by repeat first|assumption|exact m0|apply m1, by intro h; cases h⟩) rfl (fun _ => rfl) ?_
    intro y
    refine ⟨_, (by repeat first|assumption|exact Upd.here|apply Upd.there), ?_⟩
    refine SL.eff (Eff.buildSl tabOk Tryz.underlying81 rfl rfl rfl (elems_one (Frm.abs_len _)) rfl rfl rfl) rfl rfl ?_
    rintro _ _ ⟨rfl, rfl⟩
    refine SL.eff (Eff.appendE (zs := (z.2.2.1 ++ [y.1.2.2]).map Frm.abs) tabOk [] (by rw [List.map_append]; rfl) Tryz.underlying81 rfl rfl rfl rfl rfl rfl (by intro c hc; rw [List.mem_singleton] at hc; subst hc; exact Frm.abs_ones _) (by unfold maxLen; simp only [List.length_map, List.length_cons, List.length_nil]; omega) (by rw [show Tryz.prog.bytesOf 83 = 40 by kernel_rfl]; simp only [List.length_map, List.length_cons, List.length_nil]; omega)) rfl rfl ?_
    rintro _ _ ⟨r23, rfl, rfl⟩
    refine SL.val (Val.assign rfl) rfl rfl ?_
    refine SL.nil (SE.seq ?_)
    refine SC.seq ?_
    refine SC.seq (SC.region ?_)
    refine SL.val (Val.move rfl) rfl rfl ?_
    refine SL.call (take_s (p := p) (l := y.1.1) (odd := y.1.2.1) (wd := [41])) Casts.refl (by kernel_rfl) rfl rfl rfl ?_
    refine After.one rfl (by repeat first|assumption|exact m0|apply m1) (fun _ => rfl) ?_
    intro _
    refine ⟨_, (by repeat first|assumption|exact Upd.here|apply Upd.there), ?_⟩
    refine SL.nil (SE.seq ?_)
    refine SC.cond rfl ?_ ?_
    · intro hc25
      refine SC.exit ?_
      refine SE.then_ (by intro h; cases h) ?_
      refine SE.exit_ rfl ?_
      refine SE.then_ (by intro h; cases h) ?_
      refine SE.exit ?_
      refine SE.seq ?_
      refine SC.seq (SC.region ?_)
      refine SL.val (Val.move rfl) rfl rfl ?_
      refine SL.val (Val.assign rfl) rfl rfl ?_
      refine SL.nil (SE.seq ?_)
      refine SC.ret ?_
      refine SE.freeze [] (t := 4) rfl rfl ?_
      refine SE.fin (rs := [.tmp 4]) rfl (RV.tmp rfl RV.nil) (⟨(takeT y.1.1 [41], y.1.2.1, z.2.2.1 ++ [y.1.2.2]), (hz.step hod y.2).1 hc25⟩) (by repeat first|exact s0 _|exact s1 _|apply s2|apply s3) (by simp [It.rids]) ?_
      exact rfl
    intro hc25
    refine SC.skip ?_
    refine SE.seq ?_
    refine SC.seq (SC.region ?_)
    refine SL.val (Val.move rfl) rfl rfl ?_
    refine SL.call (take_s (p := p) (l := takeT y.1.1 [41]) (odd := y.1.2.1) (wd := [44])) Casts.refl (by kernel_rfl) rfl rfl rfl ?_
    refine After.one rfl (by repeat first|assumption|exact m0|apply m1) (fun _ => rfl) ?_
    intro _
    refine ⟨_, (by repeat first|assumption|exact Upd.here|apply Upd.there), ?_⟩
    refine SL.val (Val.notB rfl) rfl rfl ?_
    refine SL.nil (SE.seq ?_)
    refine SC.cond rfl ?_ ?_
    rotate_left
    · intro hc28
      refine SC.skip ?_
      refine SE.inBlock ?_
      have hst := (hz.step hod y.2).2.1 (by rw [hc25]; decide) (by simpa using hc28)
      refine SE.round (takeT (takeT y.1.1 [41]) [44], y.1.2.1, z.2.2.1 ++ [y.1.2.2], r23) (row_less hod hst.2) (hst.1) (by exact ⟨rfl, rfl, rfl, trivial⟩) (by repeat first|exact s0 _|exact s1 _|apply s2|apply s3)
    intro hc28
    refine SC.region ?_
    refine SL.val (Val.move rfl) rfl rfl ?_
    refine SL.val (Val.nilCheck rfl) rfl rfl ?_
    refine SL.val (Val.fieldAddr tabOk rfl rfl rfl rfl rfl) rfl rfl ?_
    refine SL.eff (Eff.store (L' := psA (takeT (takeT y.1.1 [41]) [44]) true) tabOk rfl rfl rfl (by repeat first|assumption|exact Upd.here|apply Upd.there) rfl (Nat.le_of_ble_eq_true (by rfl)) rfl (by rfl)) rfl rfl ?_
    rintro _ _ ⟨rfl, rfl⟩
    refine SL.nil ?_
    refine SE.inBlock ?_
    refine SE.round (takeT (takeT y.1.1 [41]) [44], true, z.2.2.1 ++ [y.1.2.2], r23) (by simp [hod]) ((hz.step hod y.2).2.2 (by rw [hc25]; decide) (by simpa using hc28)) (by exact ⟨rfl, rfl, rfl, trivial⟩) (by repeat first|exact s0 _|exact s1 _|apply s2|apply s3)
set_option maxHeartbeats 2000000 in
theorem pol_step (he : isIf es) (hr : isIf er) (hd : 1 ≤ d ∧ d ≤ 10) (hp : ∀ (l : Txt) (odd : Bool), l.length ≤ 1000 → Spec Tryz.prog 89 [ptr p, int (d + 1)] (.blk p 128 (psA (l) odd) :: globs es er) (fun z : {z : Txt × Bool × Frm // PolR k l odd z} => [.blk p 128 (psA z.1.1 z.1.2.1)]) (fun z => .agg z.1.2.2.abs)) (hl : l.length ≤ 1000) : Spec Tryz.prog 89 [ptr p, int d] (.blk p 128 (psA (l) odd) :: globs es er) (fun z : {z : Txt × Bool × Frm // PolR (k + 1) l odd z} => [.blk p 128 (psA z.1.1 z.1.2.1)]) (fun z => .agg z.1.2.2.abs) := by
  have hbl := bare_len l
  have hl1 := takeT_len l [97, 108, 108]
  have hl2 := takeT_len (takeT l [97, 108, 108]) [97, 110, 121]
  have hl3 := numL_len l
  have hl4 := takeT_len (numL l) [111, 102]
  refine spec_of Tryz.func89 rfl Tryz.ntmps89 rfl fun G w => ?_
  refine SC.seq (SC.region ?_)
  refine SL.eff (Eff.alloc tabOk rfl) rfl rfl ?_
  rintro _ _ ⟨b4, rfl, rfl⟩
  refine SL.nil (SE.seq ?_)
  refine SC.seq ?_
  refine SC.seq (SC.region ?_)
  refine SL.val (Val.move rfl) rfl rfl ?_
  refine SL.val (Val.gtI rfl rfl) rfl rfl ?_
  refine SL.nil (SE.seq ?_)
  refine SC.condP rfl (by intro hc8; exfalso; omega) ?_
  intro hc8
  refine SC.skip ?_
  refine SE.seq ?_
  refine SC.seq ?_
  refine SC.seq (SC.region ?_)
  refine SL.val (Val.move rfl) rfl rfl ?_
  refine SL.val (Val.nilCheck rfl) rfl rfl ?_
  refine SL.val (Val.fieldAddr tabOk rfl rfl rfl rfl rfl) rfl rfl ?_
  refine SL.val (Val.load1 tabOk rfl rfl (by first|(apply Or.inl;(repeat first|assumption|exact m0|apply m1);done)|(apply Or.inr;(repeat first|assumption|exact m0|apply m1);done)) List.not_mem_nil (by rfl)) rfl rfl ?_
  refine SL.nil (SE.seq ?_)
  refine SC.cond rfl ?_ ?_
  · intro hc15
    refine SC.seq (SC.region ?_)
    refine SL.val (Val.buildS tabOk rfl rfl rfl rfl) rfl rfl ?_
    refine SL.eff (Eff.store tabOk rfl rfl rfl (by repeat first|assumption|exact Upd.here|apply Upd.there) (by rfl) (Nat.le_of_ble_eq_true (by rfl)) (by rfl) (by rfl)) rfl rfl ?_
    rintro _ _ ⟨rfl, rfl⟩
    refine SL.nil (SE.seq ?_)
    refine SC.ret ?_
    refine SE.then_ (by intro h; cases h) ?_
    refine SE.finC (rs := [.cell 4 83]) rfl (RV.cell rfl (RV.cellA tabOk rfl rfl (by first|(apply Or.inl;(repeat first|assumption|exact m0|apply m1);done)|(apply Or.inr;(repeat first|assumption|exact m0|apply m1);done)) (by rfl)) RV.nil) (Casts.cons (cast_agg (Casts.keep (Casts.keep (Casts.nils (s := 3) Casts.refl)))) Casts.refl) (⟨(l, odd, .mk 0 0 []), PolR.was hc15 _⟩) (by repeat first|exact s0 _|exact s1 _|apply s2|apply s3) (by simp [It.rids]) ?_
    first
      | exact congrArg Abs.agg (Frm.abs_mk _ _ _).symm
      | rfl
  intro hc15
  refine SC.skip ?_
  refine SE.seq ?_
  refine SC.seq ?_
  refine SC.block ?_
  refine SC.seq (SC.region ?_)
  refine SL.val (Val.move rfl) rfl rfl ?_
  refine SL.call (take_s (p := p) (l := l) (odd := odd) (wd := [97, 108, 108])) Casts.refl (by kernel_rfl) rfl rfl rfl ?_
  refine After.one rfl (by repeat first|assumption|exact m0|apply m1) (fun _ => rfl) ?_
  intro _
  refine ⟨_, (by repeat first|assumption|exact Upd.here|apply Upd.there), ?_⟩
  refine SL.val (Val.assign rfl) rfl rfl ?_
  refine SL.nil (SE.seq ?_)
  refine SC.cond rfl ?_ ?_
  · intro hc17
    refine SC.seq (SC.region ?_)
    refine SL.val (Val.move rfl) rfl rfl ?_
    refine SL.val (Val.move rfl) rfl rfl ?_
    refine SL.call (row_s (p := p) (l := takeT l [97, 108, 108]) (odd := odd) he hr (by omega) hp (by omega)) Casts.refl (by kernel_rfl) rfl rfl rfl ?_
    refine After.oneR (ys := globs es er) rfl (by repeat first|assumption|exact m0|apply m1) (by intro y hy; simp only [globs, List.mem_cons, List.not_mem_nil, or_false] at hy; rcases hy with rfl | rfl | rfl <;> exact ⟨by repeat first|assumption|exact m0|apply m1, by intro h; cases h⟩) rfl (fun _ => rfl) ?_
    intro y
    refine ⟨_, (by repeat first|assumption|exact Upd.here|apply Upd.there), ?_⟩
    refine SL.val (Val.assign rfl) rfl rfl ?_
    refine SL.nil (SE.seq ?_)
    refine SC.seq (SC.region ?_)
    refine SL.val (Val.move rfl) rfl rfl ?_
    first
      | refine SL.val (Val.lenSl rfl Tryz.underlying81 (List.length_map _)) rfl rfl ?_
      | refine SL.val (Val.lenOwn rfl (by repeat first|assumption|exact m0|apply m1) Tryz.underlying81 (List.length_map _)) rfl rfl ?_
      | refine SL.val (Val.lenNil rfl Tryz.underlying81) rfl rfl ?_
    refine SL.val (Val.move rfl) rfl rfl ?_
    refine SL.val (Val.buildS tabOk rfl rfl rfl rfl) rfl rfl ?_
    refine SL.eff (Eff.store tabOk rfl rfl rfl (by repeat first|assumption|exact Upd.here|apply Upd.there) (by rfl) (Nat.le_of_ble_eq_true (by rfl)) (by rfl) (by rfl)) rfl rfl ?_
    rintro _ _ ⟨rfl, rfl⟩
    refine SL.nil (SE.seq ?_)
    refine SC.ret ?_
    refine SE.ret ?_
    refine SE.then_ (by intro h; cases h) ?_
    refine SE.fin (rs := [.cell 4 83]) rfl (RV.cell rfl (RV.cellA tabOk rfl rfl (by first|(apply Or.inl;(repeat first|assumption|exact m0|apply m1);done)|(apply Or.inr;(repeat first|assumption|exact m0|apply m1);done)) (by rfl)) RV.nil) (⟨(y.1.1, y.1.2.1, .mk 0 y.1.2.2.length y.1.2.2), PolR.all hc15 hc17 y.2⟩) (by repeat first|exact s0 _|exact s1 _|apply s2|apply s3) (by simp [It.rids]) ?_
    first
      | exact congrArg Abs.agg (Frm.abs_mk _ _ _).symm
      | rfl
  intro hc17
  have ha : ¬ begins (bare l) [97, 108, 108] = true := by rw [hc17]; decide
  refine SC.seq (SC.region ?_)
  refine SL.val (Val.move rfl) rfl rfl ?_
  refine SL.call (take_s (p := p) (l := takeT l [97, 108, 108]) (odd := odd) (wd := [97, 110, 121])) Casts.refl (by kernel_rfl) rfl rfl rfl ?_
  refine After.one rfl (by repeat first|assumption|exact m0|apply m1) (fun _ => rfl) ?_
  intro _
  refine ⟨_, (by repeat first|assumption|exact Upd.here|apply Upd.there), ?_⟩
  refine SL.val (Val.assign rfl) rfl rfl ?_
  refine SL.nil (SE.seq ?_)
  refine SC.cond rfl ?_ ?_
  · intro hc27
    have hb : begins (bare l) [97, 110, 121] = true := by
      have h9 := hc27
      rw [takeT_no ha, bare_bare] at h9
      exact h9
    refine SC.seq (SC.region ?_)
    refine SL.val (Val.move rfl) rfl rfl ?_
    refine SL.val (Val.move rfl) rfl rfl ?_
    refine SL.call (row_s (p := p) (l := takeT (takeT l [97, 108, 108]) [97, 110, 121]) (odd := odd) he hr (by omega) hp (by omega)) Casts.refl (by kernel_rfl) rfl rfl rfl ?_
    refine After.oneR (ys := globs es er) rfl (by repeat first|assumption|exact m0|apply m1) (by intro y hy; simp only [globs, List.mem_cons, List.not_mem_nil, or_false] at hy; rcases hy with rfl | rfl | rfl <;> exact ⟨by repeat first|assumption|exact m0|apply m1, by intro h; cases h⟩) rfl (fun _ => rfl) ?_
    intro y
    refine ⟨_, (by repeat first|assumption|exact Upd.here|apply Upd.there), ?_⟩
    refine SL.val (Val.buildS tabOk rfl rfl rfl rfl) rfl rfl ?_
    refine SL.eff (Eff.store tabOk rfl rfl rfl (by repeat first|assumption|exact Upd.here|apply Upd.there) (by rfl) (Nat.le_of_ble_eq_true (by rfl)) (by rfl) (by rfl)) rfl rfl ?_
    rintro _ _ ⟨rfl, rfl⟩
    refine SL.nil (SE.seq ?_)
    refine SC.ret ?_
    refine SE.ret ?_
    refine SE.then_ (by intro h; cases h) ?_
    refine SE.fin (rs := [.cell 4 83]) rfl (RV.cell rfl (RV.cellA tabOk rfl rfl (by first|(apply Or.inl;(repeat first|assumption|exact m0|apply m1);done)|(apply Or.inr;(repeat first|assumption|exact m0|apply m1);done)) (by rfl)) RV.nil) (⟨(y.1.1, y.1.2.1, .mk 0 1 y.1.2.2), PolR.any hc15 ha hb y.2⟩) (by repeat first|exact s0 _|exact s1 _|apply s2|apply s3) (by simp [It.rids]) ?_
    first
      | exact congrArg Abs.agg (Frm.abs_mk _ _ _).symm
      | rfl
  intro hc27
  have hb2 : ¬ begins (bare (takeT l [97, 108, 108])) [97, 110, 121] = true := by rw [hc27]; decide
  have hb : ¬ begins (bare l) [97, 110, 121] = true := by
    have h9 := hb2
    rw [takeT_no ha, bare_bare] at h9
    exact h9
  rw [two_no ha hb2]
  refine SC.skip ?_
  refine SE.inBlock ?_
  refine SE.seq ?_
  refine SC.seq (SC.region ?_)
  refine SL.val (Val.move rfl) rfl rfl ?_
  refine SL.call (number_s (p := p) (l := bare l) (odd := odd) he hr (by omega)) Casts.refl (by kernel_rfl) rfl rfl rfl ?_
  refine After.oneR (ys := globs es er) rfl (by repeat first|assumption|exact m0|apply m1) (by intro y hy; simp only [globs, List.mem_cons, List.not_mem_nil, or_false] at hy; rcases hy with rfl | rfl | rfl <;> exact ⟨by repeat first|assumption|exact m0|apply m1, by intro h; cases h⟩) rfl (fun _ => rfl) ?_
  intro _
  refine ⟨_, (by repeat first|assumption|exact Upd.here|apply Upd.there), ?_⟩
  rw [(numL_bare l odd).1, (numL_bare l odd).2.1, (numL_bare l odd).2.2]
  refine SL.val (Val.assign rfl) rfl rfl ?_
  refine SL.nil (SE.seq ?_)
  refine SC.seq ?_
  refine SC.seq (SC.region ?_)
  refine SL.val (Val.move rfl) rfl rfl ?_
  refine SL.val (Val.nilCheck rfl) rfl rfl ?_
  refine SL.val (Val.fieldAddr tabOk rfl rfl rfl rfl rfl) rfl rfl ?_
  refine SL.val (Val.load1 tabOk rfl rfl (by first|(apply Or.inl;(repeat first|assumption|exact m0|apply m1);done)|(apply Or.inr;(repeat first|assumption|exact m0|apply m1);done)) List.not_mem_nil (by rfl)) rfl rfl ?_
  refine SL.val (Val.move rfl) rfl rfl ?_
  refine SL.both (t := 40) rfl ?_ ?_
  · intro hc40
    iterate 3 refine SL.skip rfl rfl ?_
    refine SL.val (Val.pickT rfl rfl) rfl rfl ?_
    refine SL.nil (SE.seq ?_)
    refine SC.condT rfl ?_
    refine SC.seq (SC.region ?_)
    refine SL.val (Val.move rfl) rfl rfl ?_
    refine SL.val (Val.buildS tabOk rfl rfl rfl rfl) rfl rfl ?_
    refine SL.eff (Eff.store tabOk rfl rfl rfl (by repeat first|assumption|exact Upd.here|apply Upd.there) (by rfl) (Nat.le_of_ble_eq_true (by rfl)) (by rfl) (by rfl)) rfl rfl ?_
    rintro _ _ ⟨rfl, rfl⟩
    refine SL.nil (SE.seq ?_)
    refine SC.ret ?_
    refine SE.then_ (by intro h; cases h) ?_
    refine SE.finC (rs := [.cell 4 83]) rfl (RV.cell rfl (RV.cellA tabOk rfl rfl (by first|(apply Or.inl;(repeat first|assumption|exact m0|apply m1);done)|(apply Or.inr;(repeat first|assumption|exact m0|apply m1);done)) (by rfl)) RV.nil) (Casts.cons (cast_agg (Casts.keep (Casts.keep (Casts.nils (s := 3) Casts.refl)))) Casts.refl) (⟨(numL l, numO l odd, .mk (numV l) 0 []), PolR.org hc15 ha hb (fun h => by rw [hc40] at h; cases h.1) _ (.inl rfl)⟩) (by repeat first|exact s0 _|exact s1 _|apply s2|apply s3) (by simp [It.rids]) ?_
    first
      | exact congrArg Abs.agg (Frm.abs_mk _ _ _).symm
      | rfl
  intro hc40
  refine SL.val (Val.move rfl) rfl rfl ?_
  refine SL.call (take_s (p := p) (l := numL l) (odd := numO l odd) (wd := [111, 102])) Casts.refl (by kernel_rfl) rfl rfl rfl ?_
  refine After.one rfl (by repeat first|assumption|exact m0|apply m1) (fun _ => rfl) ?_
  intro _
  refine ⟨_, (by repeat first|assumption|exact Upd.here|apply Upd.there), ?_⟩
  refine SL.val (Val.notB rfl) rfl rfl ?_
  refine SL.val (Val.pickF rfl rfl) rfl rfl ?_
  refine SL.nil (SE.seq ?_)
  refine SC.cond rfl ?_ ?_
  · intro hc44
    have hof : ¬ begins (bare (numL l)) [111, 102] = true := by simpa using hc44
    refine SC.seq (SC.region ?_)
    refine SL.val (Val.move rfl) rfl rfl ?_
    refine SL.val (Val.buildS tabOk rfl rfl rfl rfl) rfl rfl ?_
    refine SL.eff (Eff.store tabOk rfl rfl rfl (by repeat first|assumption|exact Upd.here|apply Upd.there) (by rfl) (Nat.le_of_ble_eq_true (by rfl)) (by rfl) (by rfl)) rfl rfl ?_
    rintro _ _ ⟨rfl, rfl⟩
    refine SL.nil (SE.seq ?_)
    refine SC.ret ?_
    refine SE.then_ (by intro h; cases h) ?_
    refine SE.finC (rs := [.cell 4 83]) rfl (RV.cell rfl (RV.cellA tabOk rfl rfl (by first|(apply Or.inl;(repeat first|assumption|exact m0|apply m1);done)|(apply Or.inr;(repeat first|assumption|exact m0|apply m1);done)) (by rfl)) RV.nil) (Casts.cons (cast_agg (Casts.keep (Casts.keep (Casts.nils (s := 3) Casts.refl)))) Casts.refl) (⟨(takeT (numL l) [111, 102], numO l odd, .mk (numV l) 0 []), PolR.org hc15 ha hb (fun h => hof h.2) _ (.inr (takeT_no hof))⟩) (by repeat first|exact s0 _|exact s1 _|apply s2|apply s3) (by simp [It.rids]) ?_
    first
      | exact congrArg Abs.agg (Frm.abs_mk _ _ _).symm
      | rfl
  intro hc44
  have hof : begins (bare (numL l)) [111, 102] = true := by simpa using hc44
  refine SC.skip ?_
  refine SE.seq ?_
  refine SC.cutS (ι := Bool) (fun z => (.blk b4 83 (zabs [.int .i64 0, .int .i64 0, .slice none 0 0]) :: (.blk p 128 (psA (takeT (numL l) [111, 102]) z) :: globs es er))) (fun z => [(0, ptr p), (1, int d), (4, ptr b4), (6, int (numV l))]) (fun z => z = (numO l odd || decide (numV l < 1 ∨ 99 < numV l))) ?_ ?_
  · skip
    refine SC.seq (SC.region ?_)
    refine SL.val (Val.move rfl) rfl rfl ?_
    refine SL.val (Val.ltI rfl rfl) rfl rfl ?_
    refine SL.val (Val.move rfl) rfl rfl ?_
    refine SL.bothP (t := 49) rfl ?_ ?_
    · intro hc49
      iterate 2 refine SL.skip rfl rfl ?_
      refine SL.val (Val.pickT rfl rfl) rfl rfl ?_
      refine SL.nil (SE.seq ?_)
      refine SC.condT rfl ?_
      refine SC.region ?_
      refine SL.val (Val.move rfl) rfl rfl ?_
      refine SL.val (Val.nilCheck rfl) rfl rfl ?_
      refine SL.val (Val.fieldAddr tabOk rfl rfl rfl rfl rfl) rfl rfl ?_
      refine SL.eff (Eff.store (L' := psA (takeT (numL l) [111, 102]) true) tabOk rfl rfl rfl (by repeat first|assumption|exact Upd.here|apply Upd.there) rfl (Nat.le_of_ble_eq_true (by rfl)) rfl (by rfl)) rfl rfl ?_
      rintro _ _ ⟨rfl, rfl⟩
      refine SL.nil ?_
      refine SE.meet (true) (by rw [decide_eq_true (show numV l < 1 ∨ 99 < numV l by omega), Bool.or_true]) (by exact ⟨rfl, rfl, rfl, rfl, trivial⟩) (by repeat first|exact s0 _|exact s1 _|apply s2|apply s3)
    intro hc49
    refine SL.val (Val.move rfl) rfl rfl ?_
    refine SL.val (Val.gtI rfl rfl) rfl rfl ?_
    refine SL.val (Val.pickF rfl rfl) rfl rfl ?_
    refine SL.nil (SE.seq ?_)
    refine SC.condP rfl ?_ ?_
    rotate_left
    · intro hc52
      refine SC.skip ?_
      refine SE.meet (numO l odd) (by rw [decide_eq_false (show ¬ (numV l < 1 ∨ 99 < numV l) by omega), Bool.or_false]) (by exact ⟨rfl, rfl, rfl, rfl, trivial⟩) (by repeat first|exact s0 _|exact s1 _|apply s2|apply s3)
    intro hc52
    refine SC.region ?_
    refine SL.val (Val.move rfl) rfl rfl ?_
    refine SL.val (Val.nilCheck rfl) rfl rfl ?_
    refine SL.val (Val.fieldAddr tabOk rfl rfl rfl rfl rfl) rfl rfl ?_
    refine SL.eff (Eff.store (L' := psA (takeT (numL l) [111, 102]) true) tabOk rfl rfl rfl (by repeat first|assumption|exact Upd.here|apply Upd.there) rfl (Nat.le_of_ble_eq_true (by rfl)) rfl (by rfl)) rfl rfl ?_
    rintro _ _ ⟨rfl, rfl⟩
    refine SL.nil ?_
    refine SE.meet (true) (by rw [decide_eq_true (show numV l < 1 ∨ 99 < numV l by omega), Bool.or_true]) (by exact ⟨rfl, rfl, rfl, rfl, trivial⟩) (by repeat first|exact s0 _|exact s1 _|apply s2|apply s3)
  · intro z hz
    refine SC.seq (SC.region ?_)
    refine SL.val (Val.move rfl) rfl rfl ?_
    refine SL.val (Val.move rfl) rfl rfl ?_
    refine SL.val (Val.move rfl) rfl rfl ?_
    refine SL.call (row_s (p := p) (l := takeT (numL l) [111, 102]) (odd := z) he hr (by omega) hp (by omega)) Casts.refl (by kernel_rfl) rfl rfl rfl ?_
    refine After.oneR (ys := globs es er) rfl (by repeat first|assumption|exact m0|apply m1) (by intro y hy; simp only [globs, List.mem_cons, List.not_mem_nil, or_false] at hy; rcases hy with rfl | rfl | rfl <;> exact ⟨by repeat first|assumption|exact m0|apply m1, by intro h; cases h⟩) rfl (fun _ => rfl) ?_
    intro y
    refine ⟨_, (by repeat first|assumption|exact Upd.here|apply Upd.there), ?_⟩
    refine SL.val (Val.buildS tabOk rfl rfl rfl rfl) rfl rfl ?_
    refine SL.eff (Eff.store tabOk rfl rfl rfl (by repeat first|assumption|exact Upd.here|apply Upd.there) (by rfl) (Nat.le_of_ble_eq_true (by rfl)) (by rfl) (by rfl)) rfl rfl ?_
    rintro _ _ ⟨rfl, rfl⟩
    refine SL.nil (SE.seq ?_)
    refine SC.ret ?_
    refine SE.fin (rs := [.cell 4 83]) rfl (RV.cell rfl (RV.cellA tabOk rfl rfl (by first|(apply Or.inl;(repeat first|assumption|exact m0|apply m1);done)|(apply Or.inr;(repeat first|assumption|exact m0|apply m1);done)) (by rfl)) RV.nil) (⟨(y.1.1, y.1.2.1, .mk 0 (numV l) y.1.2.2), PolR.of hc15 ha hb hc40 hof hz y.2⟩) (by repeat first|exact s0 _|exact s1 _|apply s2|apply s3) (by simp [It.rids]) ?_
    first
      | exact congrArg Abs.agg (Frm.abs_mk _ _ _).symm
      | rfl
theorem pol_s (he : isIf es) (hr : isIf er) : ∀ k : Nat, k ≤ 10 → ∀ (l : Txt) (odd : Bool), l.length ≤ 1000 → Spec Tryz.prog 89 [ptr p, int (11 - (k : Int))] (.blk p 128 (psA (l) odd) :: globs es er) (fun z : {z : Txt × Bool × Frm // PolR k l odd z} => [.blk p 128 (psA z.1.1 z.1.2.1)]) (fun z => .agg z.1.2.2.abs)
  | 0, _, l, odd, hl => pol0_s (p := p) (es := es) (er := er) (odd := odd) hl
  | k + 1, hk, l, odd, hl => pol_step he hr (by omega) (by
      rw [show (11 - ((k + 1 : Nat) : Int)) + 1 = 11 - (k : Int) by omega]
      exact pol_s he hr k (by omega)) hl
end
end Go.Proofs.YtnedfcaoggkmnaaGreatDoor.A
/-
  Policies' texts: the program's Parse.
-/
set_option maxRecDepth 100000
set_option linter.unusedSimpArgs false
set_option linter.unusedVariables false
namespace Go.Proofs.YtnedfcaoggkmnaaGreatDoor.A
open Go.RowKit

section
variable {l wd : Txt} {odd : Bool} {p : Nat} {es er : Value} {n : Int}
theorem pol1_s (he : isIf es) (hr : isIf er) (hl : l.length ≤ 1000) : Spec Tryz.prog 89 [ptr p, int 1] (.blk p 128 (psA (l) odd) :: globs es er) (fun z : {z : Txt × Bool × Frm // PolR 10 l odd z} => [.blk p 128 (psA z.1.1 z.1.2.1)]) (fun z => .agg z.1.2.2.abs) := pol_s he hr 10 (Nat.le_refl _) l odd hl
set_option maxHeartbeats 2000000 in
theorem parse_s (he : isIf es) (hr : isIf er) : Spec Tryz.prog 70 [stA l, int n] (globs es er) (fun _ : Unit => []) (fun _ => .tup [.agg (parseF l n).1.abs, int (parseF l n).2]) := by
  refine spec_of Tryz.func70 rfl Tryz.ntmps70 rfl fun G w => ?_
  refine SC.seq (SC.region ?_)
  refine SL.eff (Eff.alloc tabOk rfl) rfl rfl ?_
  rintro _ _ ⟨b4, rfl, rfl⟩
  refine SL.val (Val.assign rfl) rfl rfl ?_
  refine SL.nil (SE.seq ?_)
  refine SC.seq ?_
  refine SC.seq (SC.region ?_)
  refine SL.val (Val.move rfl) rfl rfl ?_
  refine SL.val (Val.to (C := int ((l.length : Nat) : Int)) (Val.lenSt rfl Tryz.underlying9) rfl) rfl rfl ?_
  refine SL.val (Val.gtI rfl rfl) rfl rfl ?_
  refine SL.nil (SE.seq ?_)
  refine SC.condP rfl ?_ ?_
  · intro hc11
    have hl2 : 200 < l.length := by omega
    refine SC.seq (SC.region ?_)
    refine SL.val (Val.buildS tabOk rfl rfl rfl rfl) rfl rfl ?_
    refine SL.eff (Eff.store tabOk rfl rfl rfl (by repeat first|assumption|exact Upd.here|apply Upd.there) (by rfl) (Nat.le_of_ble_eq_true (by rfl)) (by rfl) (by rfl)) rfl rfl ?_
    rintro _ _ ⟨rfl, rfl⟩
    refine SL.val (Val.assign rfl) rfl rfl ?_
    refine SL.nil (SE.seq ?_)
    refine SC.ret ?_
    refine SE.then_ (by intro h; cases h) ?_
    refine SE.finC (rs := [.cell 4 83, .tmp 5]) rfl (RV.cell rfl (RV.cellA tabOk rfl rfl (by first|(apply Or.inl;(repeat first|assumption|exact m0|apply m1);done)|(apply Or.inr;(repeat first|assumption|exact m0|apply m1);done)) (by rfl)) (RV.tmp rfl RV.nil)) (Casts.cons (cast_agg (Casts.keep (Casts.keep (Casts.nils (s := 3) Casts.refl)))) Casts.refl) (()) (by repeat first|exact s0 _|exact s1 _|apply s2|apply s3) (by simp [It.rids]) ?_
    rw [parse_long hl2]
    rw [Frm.abs_mk]
    rfl
  intro hc11
  have hl2 : ¬ 200 < l.length := by omega
  refine SC.skip ?_
  refine SE.seq ?_
  refine SC.seq (SC.region ?_)
  refine SL.val (Val.move rfl) rfl rfl ?_
  refine SL.val (Val.buildS tabOk rfl rfl rfl rfl) rfl rfl ?_
  refine SL.eff (Eff.boxA (cs := psA l false) rfl) rfl rfl ?_
  rintro _ _ ⟨b15, rfl, rfl⟩
  refine SL.val (Val.assign rfl) rfl rfl ?_
  refine SL.nil (SE.seq ?_)
  refine SC.seq (SC.region ?_)
  refine SL.val (Val.move rfl) rfl rfl ?_
  refine SL.call (pol1_s (p := b15) (l := l) (odd := false) he hr (by omega)) Casts.refl (by kernel_rfl) rfl rfl rfl ?_
  refine After.oneR (ys := globs es er) rfl (by repeat first|assumption|exact m0|apply m1) (by intro y hy; simp only [globs, List.mem_cons, List.not_mem_nil, or_false] at hy; rcases hy with rfl | rfl | rfl <;> exact ⟨by repeat first|assumption|exact m0|apply m1, by intro h; cases h⟩) rfl (fun _ => rfl) ?_
  intro y
  refine ⟨_, (by repeat first|assumption|exact Upd.here|apply Upd.there), ?_⟩
  refine SL.eff (Eff.alloc tabOk rfl) rfl rfl ?_
  rintro _ _ ⟨b7, rfl, rfl⟩
  refine SL.eff (Eff.store (L' := y.1.2.2.abs) tabOk rfl rfl rfl (by repeat first|assumption|exact Upd.here|apply Upd.there) (by exact Frm.abs_len _) (Nat.le_of_ble_eq_true (by rfl)) (by exact Frm.abs_ones _) (putL_whole (by exact Frm.abs_len _))) rfl rfl ?_
  rintro _ _ ⟨rfl, rfl⟩
  refine SL.nil (SE.seq ?_)
  refine SC.seq ?_
  refine SC.seq (SC.region ?_)
  refine SL.val (Val.move rfl) rfl rfl ?_
  refine SL.call (blanks_s (p := b15) (l := y.1.1) (odd := y.1.2.1)) Casts.refl (by kernel_rfl) rfl rfl rfl ?_
  refine After.one rfl (by repeat first|assumption|exact m0|apply m1) (fun _ => rfl) ?_
  intro _
  refine ⟨_, (by repeat first|assumption|exact Upd.here|apply Upd.there), ?_⟩
  refine SL.nil (SE.seq ?_)
  refine SC.seq (SC.region ?_)
  refine SL.val (Val.move rfl) rfl rfl ?_
  refine SL.val (Val.nilCheck rfl) rfl rfl ?_
  refine SL.val (Val.fieldAddr tabOk rfl rfl rfl rfl rfl) rfl rfl ?_
  refine SL.val (Val.load1 tabOk rfl rfl (by first|(apply Or.inl;(repeat first|assumption|exact m0|apply m1);done)|(apply Or.inr;(repeat first|assumption|exact m0|apply m1);done)) List.not_mem_nil (by rfl)) rfl rfl ?_
  refine SL.val (Val.move rfl) rfl rfl ?_
  refine SL.both (t := 24) rfl ?_ ?_
  · intro hc24
    iterate 5 refine SL.skip rfl rfl ?_
    refine SL.val (Val.pickT rfl rfl) rfl rfl ?_
    refine SL.nil (SE.seq ?_)
    refine SC.condT rfl ?_
    refine SC.seq (SC.region ?_)
    refine SL.val (Val.buildS tabOk rfl rfl rfl rfl) rfl rfl ?_
    refine SL.eff (Eff.store tabOk rfl rfl rfl (by repeat first|assumption|exact Upd.here|apply Upd.there) (by rfl) (Nat.le_of_ble_eq_true (by rfl)) (by rfl) (by rfl)) rfl rfl ?_
    rintro _ _ ⟨rfl, rfl⟩
    refine SL.val (Val.assign rfl) rfl rfl ?_
    refine SL.nil (SE.seq ?_)
    refine SC.ret ?_
    refine SE.then_ (by intro h; cases h) ?_
    refine SE.finC (rs := [.cell 4 83, .tmp 5]) rfl (RV.cell rfl (RV.cellA tabOk rfl rfl (by first|(apply Or.inl;(repeat first|assumption|exact m0|apply m1);done)|(apply Or.inr;(repeat first|assumption|exact m0|apply m1);done)) (by rfl)) (RV.tmp rfl RV.nil)) (Casts.cons (cast_agg (Casts.keep (Casts.keep (Casts.nils (s := 3) Casts.refl)))) Casts.refl) (()) (by repeat first|exact s0 _|exact s1 _|apply s2|apply s3) (by simp [It.rids]) ?_
    rw [parse_odd hl2 y.2 (.inl hc24)]
    rw [Frm.abs_mk]
    rfl
  intro hc24
  refine SL.val (Val.move rfl) rfl rfl ?_
  refine SL.val (Val.nilCheck rfl) rfl rfl ?_
  refine SL.val (Val.fieldAddr tabOk rfl rfl rfl rfl rfl) rfl rfl ?_
  refine SL.val (Val.load1 tabOk rfl rfl (by first|(apply Or.inl;(repeat first|assumption|exact m0|apply m1);done)|(apply Or.inr;(repeat first|assumption|exact m0|apply m1);done)) List.not_mem_nil (by rfl)) rfl rfl ?_
  refine SL.val (Val.to (C := boo (decide (¬ bare y.1.1 = []))) (Val.neS rfl rfl) (congrArg (fun b => Abs.v (Value.bool b)) (decide_eq_decide.2 (not_congr st_eq)))) rfl rfl ?_
  refine SL.val (Val.pickF rfl rfl) rfl rfl ?_
  refine SL.nil (SE.seq ?_)
  refine SC.condP rfl ?_ ?_
  · intro hc30
    refine SC.seq (SC.region ?_)
    refine SL.val (Val.buildS tabOk rfl rfl rfl rfl) rfl rfl ?_
    refine SL.eff (Eff.store tabOk rfl rfl rfl (by repeat first|assumption|exact Upd.here|apply Upd.there) (by rfl) (Nat.le_of_ble_eq_true (by rfl)) (by rfl) (by rfl)) rfl rfl ?_
    rintro _ _ ⟨rfl, rfl⟩
    refine SL.val (Val.assign rfl) rfl rfl ?_
    refine SL.nil (SE.seq ?_)
    refine SC.ret ?_
    refine SE.then_ (by intro h; cases h) ?_
    refine SE.finC (rs := [.cell 4 83, .tmp 5]) rfl (RV.cell rfl (RV.cellA tabOk rfl rfl (by first|(apply Or.inl;(repeat first|assumption|exact m0|apply m1);done)|(apply Or.inr;(repeat first|assumption|exact m0|apply m1);done)) (by rfl)) (RV.tmp rfl RV.nil)) (Casts.cons (cast_agg (Casts.keep (Casts.keep (Casts.nils (s := 3) Casts.refl)))) Casts.refl) (()) (by repeat first|exact s0 _|exact s1 _|apply s2|apply s3) (by simp [It.rids]) ?_
    rw [parse_odd hl2 y.2 (.inr hc30)]
    rw [Frm.abs_mk]
    rfl
  intro hc30
  have hpe := parse_end (n := n) hl2 y.2 hc24 (Classical.byContradiction hc30)
  refine SC.skip ?_
  refine SE.seq ?_
  refine SC.seq ?_
  refine SC.seq (SC.region ?_)
  refine SL.val (Val.loadA tabOk rfl rfl rfl (by first|(apply Or.inl;(repeat first|assumption|exact m0|apply m1);done)|(apply Or.inr;(repeat first|assumption|exact m0|apply m1);done)) List.not_mem_nil (Frm.abs_len _)) rfl rfl ?_
  refine SL.val (Val.move rfl) rfl rfl ?_
  refine SL.call (fcheck_s (f := y.1.2.2) (n := n) (by have := hpe.1; omega)) Casts.refl (by kernel_rfl) rfl rfl rfl ?_
  refine After.pure (by repeat first|exact .nil|refine .blk (by repeat first|assumption|exact m0|apply m1) ?_|refine .rd (by repeat first|assumption|exact m0|apply m1) ?_|refine .pc (by repeat first|assumption|exact m0|apply m1) ?_|refine .rdpc (by repeat first|assumption|exact m0|apply m1) ?_) (fun _ => rfl) ?_
  intro _
  refine SL.val (Val.assign rfl) rfl rfl ?_
  refine SL.nil (SE.seq ?_)
  refine SC.seq (SC.region ?_)
  refine SL.val (Val.move rfl) rfl rfl ?_
  refine SL.val (Val.neI rfl rfl) rfl rfl ?_
  refine SL.nil (SE.seq ?_)
  refine SC.condP rfl ?_ ?_
  rotate_left
  · intro hc36
    refine SC.skip ?_
    refine SE.seq ?_
    refine SC.seq (SC.region ?_)
    refine SL.val (Val.loadA tabOk rfl rfl rfl (by first|(apply Or.inl;(repeat first|assumption|exact m0|apply m1);done)|(apply Or.inr;(repeat first|assumption|exact m0|apply m1);done)) List.not_mem_nil (Frm.abs_len _)) rfl rfl ?_
    refine SL.eff (Eff.store (L' := y.1.2.2.abs) tabOk rfl rfl rfl (by repeat first|assumption|exact Upd.here|apply Upd.there) (by exact Frm.abs_len _) (Nat.le_of_ble_eq_true (by rfl)) (by exact Frm.abs_ones _) (putL_whole (by exact Frm.abs_len _))) rfl rfl ?_
    rintro _ _ ⟨rfl, rfl⟩
    refine SL.val (Val.assign rfl) rfl rfl ?_
    refine SL.nil (SE.seq ?_)
    refine SC.ret ?_
    refine SE.fin (rs := [.cell 4 83, .tmp 5]) rfl (RV.cell rfl (RV.cellA tabOk rfl rfl (by first|(apply Or.inl;(repeat first|assumption|exact m0|apply m1);done)|(apply Or.inr;(repeat first|assumption|exact m0|apply m1);done)) (by exact Frm.abs_len _)) (RV.tmp rfl RV.nil)) (()) (by repeat first|exact s0 _|exact s1 _|apply s2|apply s3) (by simp [It.rids]) ?_
    rw [hpe.2, if_neg hc36]
    rfl
  intro hc36
  refine SC.seq (SC.region ?_)
  refine SL.val (Val.buildS tabOk rfl rfl rfl rfl) rfl rfl ?_
  refine SL.val (Val.move rfl) rfl rfl ?_
  refine SL.eff (Eff.store tabOk rfl rfl rfl (by repeat first|assumption|exact Upd.here|apply Upd.there) (by rfl) (Nat.le_of_ble_eq_true (by rfl)) (by rfl) (by rfl)) rfl rfl ?_
  rintro _ _ ⟨rfl, rfl⟩
  refine SL.val (Val.assign rfl) rfl rfl ?_
  refine SL.nil (SE.seq ?_)
  refine SC.ret ?_
  refine SE.then_ (by intro h; cases h) ?_
  refine SE.finC (rs := [.cell 4 83, .tmp 5]) rfl (RV.cell rfl (RV.cellA tabOk rfl rfl (by first|(apply Or.inl;(repeat first|assumption|exact m0|apply m1);done)|(apply Or.inr;(repeat first|assumption|exact m0|apply m1);done)) (by rfl)) (RV.tmp rfl RV.nil)) (Casts.cons (cast_agg (Casts.keep (Casts.keep (Casts.nils (s := 3) Casts.refl)))) Casts.refl) (()) (by repeat first|exact s0 _|exact s1 _|apply s2|apply s3) (by simp [It.rids]) ?_
  rw [hpe.2, if_pos hc36]
  rw [Frm.abs_mk]
  rfl
end
end Go.Proofs.YtnedfcaoggkmnaaGreatDoor.A
