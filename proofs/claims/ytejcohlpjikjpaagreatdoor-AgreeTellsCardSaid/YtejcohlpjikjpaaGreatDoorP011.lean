/-
  Packed out of the texts: CO3, CO4, CO7, AG7.
-/
import Derived.Test.YtejcohlpjikjpaaGreatDoorP010
/-
  What an entry does: the letter, the policy, the step.
-/
set_option maxRecDepth 100000
set_option linter.unusedSimpArgs false
set_option linter.unusedVariables false
namespace Go.Proofs.YtejcohlpjikjpaaGreatDoor.A
open Go.RowKit

/-- An entry that is done: the ledger, the entry, how many, the letter. -/
def dgA (l : Lg) (e : Ent) (n : Int) (x : Ltr) : List Abs := l.abs ++ entA e ++ [int n] ++ ltrA x
section
variable {l : Lg} {x : Ltr} {n : Int} {e : Ent} {d : Nat} {es er : Value}
set_option maxHeartbeats 1000000 in
theorem known_s (hf : l.Few) : Spec Tryz.prog 48 [ptr d] (.blk d 84 (dgA l e n x) :: (globs es er)) (fun _ : Unit => [.blk d 84 (dgA l e n (l.old e.core.letter))]) (fun _ => int (l.known e.core)) := by
  refine spec_of Tryz.func48 rfl Tryz.ntmps48 rfl fun G w => ?_
  refine SC.seq (SC.region ?_)
  refine SL.val (Val.assign rfl) rfl rfl ?_
  refine SL.nil (SE.seq ?_)
  refine SC.seq (SC.region ?_)
  refine SL.val (Val.assign rfl) rfl rfl ?_
  refine SL.nil (SE.seq ?_)
  refine SC.seq ?_
  refine SC.seq ?_
  refine SC.draw [d] (.q 0 (.q 1 (.q 2 (.q 3 (.q 5 (.q 6 (.q 7 (.q 8 (.q 9 (.two 4 10 (.e 10 (.e 11 (.q 12 (.q 13 (.q 14 (.q 15 (.q 16 (.e 17 (.q 18 .nil))))))))) (.e 4 (.e 11 (.q 12 (.q 13 (.q 14 (.q 15 (.q 16 (.e 17 (.q 18 .nil))))))))))))))))))) (by kernel_rfl) (by kernel_rfl) ?_
  refine SX.hx (by first|(simp[mids,It.mids,ownPc];done)|(intro k hk;simp[mids,It.mids,ownPc] at hk ⊢;grind)) fun hx9 => ?_
  refine SX.val rfl (Val.move rfl) hx9 rfl rfl ?_
  refine SX.val rfl (Val.move rfl) hx9 rfl rfl ?_
  refine SX.val rfl (Val.nilCheck rfl) hx9 rfl rfl ?_
  refine SX.val rfl (Val.fieldAddr tabOk rfl rfl rfl rfl rfl) hx9 rfl rfl ?_
  refine SX.val rfl (Val.move rfl) hx9 rfl rfl ?_
  refine SX.val rfl (Val.nilCheck rfl) hx9 rfl rfl ?_
  refine SX.val rfl (Val.fieldAddr tabOk rfl rfl rfl rfl rfl) hx9 rfl rfl ?_
  refine SX.val rfl (Val.fieldAddr tabOk rfl rfl rfl rfl rfl) hx9 rfl rfl ?_
  refine SX.val rfl (Val.fieldAddr tabOk rfl rfl rfl rfl rfl) hx9 rfl rfl ?_
  refine SX.two ?_ ?_
  · skip
    refine SX.valE rfl (Val.to (C := .agg l.abs) (Val.loadP tabOk rfl rfl rfl (by first|(apply Or.inl;(repeat first|assumption|exact m0|apply m1);done)|(apply Or.inr;(repeat first|assumption|exact m0|apply m1);done)) List.not_mem_nil (Nat.le_of_ble_eq_true (by rfl))) rfl) rfl rfl ?_
    refine SX.valE rfl (Val.to (C := st e.core.letter) (Val.load1 tabOk rfl rfl (by first|(apply Or.inl;(repeat first|assumption|exact m0|apply m1);done)|(apply Or.inr;(repeat first|assumption|exact m0|apply m1);done)) List.not_mem_nil (by rfl)) rfl) rfl rfl ?_
    refine SX.call rfl (lfind_s (s := e.core.letter) hf) (by simp [mids, It.mids]) Casts.refl (by kernel_rfl) rfl rfl rfl ?_
    refine After.pure (by repeat first|exact .nil|refine .blk (by repeat first|assumption|exact m0|apply m1) ?_|refine .rd (by repeat first|assumption|exact m0|apply m1) ?_|refine .pc (by repeat first|assumption|exact m0|apply m1) ?_|refine .rdpc (by repeat first|assumption|exact m0|apply m1) ?_) (fun _ => rfl) ?_
    intro _
    refine SX.hx (by first|(simp[mids,It.mids,ownPc];done)|(intro k hk;simp[mids,It.mids,ownPc] at hk ⊢;grind)) fun hx9 => ?_
    refine SX.val rfl (Val.move rfl) hx9 rfl rfl ?_
    refine SX.val rfl (Val.extract rfl rfl) hx9 rfl rfl ?_
    refine SX.val rfl (Val.extract rfl rfl) hx9 rfl rfl ?_
    refine SX.val rfl (Val.nilCheck rfl) hx9 rfl rfl ?_
    refine SX.val rfl (Val.fieldAddr tabOk rfl rfl rfl rfl rfl) hx9 rfl rfl ?_
    refine SX.eff rfl (Eff.store (L' := dgA l e n (l.old e.core.letter)) tabOk rfl rfl rfl (by repeat first|assumption|exact Upd.here|apply Upd.there) rfl (Nat.le_of_ble_eq_true (by rfl)) rfl (by rfl)) (by simp) rfl rfl ?_
    rintro _ _ ⟨rfl, rfl⟩
    refine SX.hx (by first|(simp[mids,It.mids,ownPc];done)|(intro k hk;simp[mids,It.mids,ownPc] at hk ⊢;grind)) fun hx9 => ?_
    refine SX.val rfl (Val.assign rfl) hx9 rfl rfl ?_
    refine SX.nil (SE.seq ?_)
    refine SC.seq (SC.region ?_)
    refine SL.val (Val.move rfl) rfl rfl ?_
    refine SL.val (Val.notB rfl) rfl rfl ?_
    refine SL.val (Val.move rfl) rfl rfl ?_
    refine SL.both (t := 23) rfl ?_ ?_
    rotate_left
    · intro hc23
      iterate 7 refine SL.skip rfl rfl ?_
      refine SL.val (Val.pickF rfl rfl) rfl rfl ?_
      refine SL.nil (SE.seq ?_)
      refine SC.condF rfl ?_
      refine SC.skip ?_
      refine SE.seq ?_
      refine SC.seq (SC.region ?_)
      refine SL.val (Val.assign rfl) rfl rfl ?_
      refine SL.nil (SE.seq ?_)
      refine SC.ret ?_
      refine SE.fin (rs := [.tmp 2]) rfl (RV.tmp rfl RV.nil) (()) (by repeat first|exact s0 _|exact s1 _|apply s2|apply s3) (by simp [It.rids]) ?_
      refine congrArg int ?_
      unfold Lg.known
      split <;> simp_all
    intro hc23
    refine SL.val (Val.move rfl) rfl rfl ?_
    refine SL.val (Val.nilCheck rfl) rfl rfl ?_
    refine SL.val (Val.fieldAddr tabOk rfl rfl rfl rfl rfl) rfl rfl ?_
    refine SL.val (Val.fieldAddr tabOk rfl rfl rfl rfl rfl) rfl rfl ?_
    refine SL.val (Val.fieldAddr tabOk rfl rfl rfl rfl rfl) rfl rfl ?_
    refine SL.val (Val.to (C := int e.core.op) (Val.load1 tabOk rfl rfl (by first|(apply Or.inl;(repeat first|assumption|exact m0|apply m1);done)|(apply Or.inr;(repeat first|assumption|exact m0|apply m1);done)) List.not_mem_nil (by rfl)) rfl) rfl rfl ?_
    refine SL.val (Val.neI rfl rfl) rfl rfl ?_
    refine SL.val (Val.pickT rfl rfl) rfl rfl ?_
    refine SL.nil (SE.seq ?_)
    refine SC.condP rfl ?_ ?_
    · intro hc31
      refine SC.seq (SC.region ?_)
      refine SL.val (Val.assign rfl) rfl rfl ?_
      refine SL.nil (SE.seq ?_)
      refine SC.ret ?_
      refine SE.then_ (by intro h; cases h) ?_
      refine SE.fin (rs := [.tmp 2]) rfl (RV.tmp rfl RV.nil) (()) (by repeat first|exact s0 _|exact s1 _|apply s2|apply s3) (by simp [It.rids]) ?_
      refine congrArg int ?_
      unfold Lg.known
      split <;> simp_all
    intro hc31
    refine SC.skip ?_
    refine SE.seq ?_
    refine SC.seq (SC.region ?_)
    refine SL.val (Val.assign rfl) rfl rfl ?_
    refine SL.nil (SE.seq ?_)
    refine SC.ret ?_
    refine SE.fin (rs := [.tmp 2]) rfl (RV.tmp rfl RV.nil) (()) (by repeat first|exact s0 _|exact s1 _|apply s2|apply s3) (by simp [It.rids]) ?_
    refine congrArg int ?_
    unfold Lg.known
    split <;> simp_all
  · skip
    refine SX.valE rfl (Val.to (C := st e.core.letter) (Val.load1 tabOk rfl rfl (by first|(apply Or.inl;(repeat first|assumption|exact m0|apply m1);done)|(apply Or.inr;(repeat first|assumption|exact m0|apply m1);done)) List.not_mem_nil (by rfl)) rfl) rfl rfl ?_
    refine SX.valE rfl (Val.to (C := .agg l.abs) (Val.loadP tabOk rfl rfl rfl (by first|(apply Or.inl;(repeat first|assumption|exact m0|apply m1);done)|(apply Or.inr;(repeat first|assumption|exact m0|apply m1);done)) List.not_mem_nil (Nat.le_of_ble_eq_true (by rfl))) rfl) rfl rfl ?_
    refine SX.call rfl (lfind_s (s := e.core.letter) hf) (by simp [mids, It.mids]) Casts.refl (by kernel_rfl) rfl rfl rfl ?_
    refine After.pure (by repeat first|exact .nil|refine .blk (by repeat first|assumption|exact m0|apply m1) ?_|refine .rd (by repeat first|assumption|exact m0|apply m1) ?_|refine .pc (by repeat first|assumption|exact m0|apply m1) ?_|refine .rdpc (by repeat first|assumption|exact m0|apply m1) ?_) (fun _ => rfl) ?_
    intro _
    refine SX.hx (by first|(simp[mids,It.mids,ownPc];done)|(intro k hk;simp[mids,It.mids,ownPc] at hk ⊢;grind)) fun hx9 => ?_
    refine SX.val rfl (Val.move rfl) hx9 rfl rfl ?_
    refine SX.val rfl (Val.extract rfl rfl) hx9 rfl rfl ?_
    refine SX.val rfl (Val.extract rfl rfl) hx9 rfl rfl ?_
    refine SX.val rfl (Val.nilCheck rfl) hx9 rfl rfl ?_
    refine SX.val rfl (Val.fieldAddr tabOk rfl rfl rfl rfl rfl) hx9 rfl rfl ?_
    refine SX.eff rfl (Eff.store (L' := dgA l e n (l.old e.core.letter)) tabOk rfl rfl rfl (by repeat first|assumption|exact Upd.here|apply Upd.there) rfl (Nat.le_of_ble_eq_true (by rfl)) rfl (by rfl)) (by simp) rfl rfl ?_
    rintro _ _ ⟨rfl, rfl⟩
    refine SX.hx (by first|(simp[mids,It.mids,ownPc];done)|(intro k hk;simp[mids,It.mids,ownPc] at hk ⊢;grind)) fun hx9 => ?_
    refine SX.val rfl (Val.assign rfl) hx9 rfl rfl ?_
    refine SX.nil (SE.seq ?_)
    refine SC.seq (SC.region ?_)
    refine SL.val (Val.move rfl) rfl rfl ?_
    refine SL.val (Val.notB rfl) rfl rfl ?_
    refine SL.val (Val.move rfl) rfl rfl ?_
    refine SL.both (t := 23) rfl ?_ ?_
    rotate_left
    · intro hc23
      iterate 7 refine SL.skip rfl rfl ?_
      refine SL.val (Val.pickF rfl rfl) rfl rfl ?_
      refine SL.nil (SE.seq ?_)
      refine SC.condF rfl ?_
      refine SC.skip ?_
      refine SE.seq ?_
      refine SC.seq (SC.region ?_)
      refine SL.val (Val.assign rfl) rfl rfl ?_
      refine SL.nil (SE.seq ?_)
      refine SC.ret ?_
      refine SE.fin (rs := [.tmp 2]) rfl (RV.tmp rfl RV.nil) (()) (by repeat first|exact s0 _|exact s1 _|apply s2|apply s3) (by simp [It.rids]) ?_
      refine congrArg int ?_
      unfold Lg.known
      split <;> simp_all
    intro hc23
    refine SL.val (Val.move rfl) rfl rfl ?_
    refine SL.val (Val.nilCheck rfl) rfl rfl ?_
    refine SL.val (Val.fieldAddr tabOk rfl rfl rfl rfl rfl) rfl rfl ?_
    refine SL.val (Val.fieldAddr tabOk rfl rfl rfl rfl rfl) rfl rfl ?_
    refine SL.val (Val.fieldAddr tabOk rfl rfl rfl rfl rfl) rfl rfl ?_
    refine SL.val (Val.to (C := int e.core.op) (Val.load1 tabOk rfl rfl (by first|(apply Or.inl;(repeat first|assumption|exact m0|apply m1);done)|(apply Or.inr;(repeat first|assumption|exact m0|apply m1);done)) List.not_mem_nil (by rfl)) rfl) rfl rfl ?_
    refine SL.val (Val.neI rfl rfl) rfl rfl ?_
    refine SL.val (Val.pickT rfl rfl) rfl rfl ?_
    refine SL.nil (SE.seq ?_)
    refine SC.condP rfl ?_ ?_
    · intro hc31
      refine SC.seq (SC.region ?_)
      refine SL.val (Val.assign rfl) rfl rfl ?_
      refine SL.nil (SE.seq ?_)
      refine SC.ret ?_
      refine SE.then_ (by intro h; cases h) ?_
      refine SE.fin (rs := [.tmp 2]) rfl (RV.tmp rfl RV.nil) (()) (by repeat first|exact s0 _|exact s1 _|apply s2|apply s3) (by simp [It.rids]) ?_
      refine congrArg int ?_
      unfold Lg.known
      split <;> simp_all
    intro hc31
    refine SC.skip ?_
    refine SE.seq ?_
    refine SC.seq (SC.region ?_)
    refine SL.val (Val.assign rfl) rfl rfl ?_
    refine SL.nil (SE.seq ?_)
    refine SC.ret ?_
    refine SE.fin (rs := [.tmp 2]) rfl (RV.tmp rfl RV.nil) (()) (by repeat first|exact s0 _|exact s1 _|apply s2|apply s3) (by simp [It.rids]) ?_
    refine congrArg int ?_
    unfold Lg.known
    split <;> simp_all
set_option maxHeartbeats 1000000 in
theorem endorsed_s (he : isIf es) (hr : isIf er) (hm : e.mask < 4294967296) : Spec Tryz.prog 49 [ptr d] (.blk d 84 (dgA l e n x) :: (globs es er)) (fun _ : Unit => [.blk d 84 (dgA l e n x)]) (fun _ => int (endorsedF x e n)) := by
  refine spec_of Tryz.func49 rfl Tryz.ntmps49 rfl fun G w => ?_
  refine SC.seq (SC.region ?_)
  refine SL.val (Val.assign rfl) rfl rfl ?_
  refine SL.nil (SE.seq ?_)
  refine SC.seq (SC.region ?_)
  refine SL.val (Val.move rfl) rfl rfl ?_
  refine SL.val (Val.nilCheck rfl) rfl rfl ?_
  refine SL.val (Val.fieldAddr tabOk rfl rfl rfl rfl rfl) rfl rfl ?_
  refine SL.val (Val.fieldAddr tabOk rfl rfl rfl rfl rfl) rfl rfl ?_
  refine SL.val (Val.to (C := st x.policy) (Val.load1 tabOk rfl rfl (by first|(apply Or.inl;(repeat first|assumption|exact m0|apply m1);done)|(apply Or.inr;(repeat first|assumption|exact m0|apply m1);done)) List.not_mem_nil (by rfl)) rfl) rfl rfl ?_
  refine SL.val (Val.assign rfl) rfl rfl ?_
  refine SL.nil (SE.seq ?_)
  refine SC.cutS (ι := Unit) (fun z => (.blk d 84 (dgA l e n x) :: (globs es er))) (fun z => [(0, ptr d), (3, st (polB x e.core))]) (fun z => True) ?_ ?_
  · skip
    refine SC.seq (SC.region ?_)
    refine SL.val (Val.move rfl) rfl rfl ?_
    refine SL.val (Val.nilCheck rfl) rfl rfl ?_
    refine SL.val (Val.fieldAddr tabOk rfl rfl rfl rfl rfl) rfl rfl ?_
    refine SL.val (Val.fieldAddr tabOk rfl rfl rfl rfl rfl) rfl rfl ?_
    refine SL.val (Val.fieldAddr tabOk rfl rfl rfl rfl rfl) rfl rfl ?_
    refine SL.val (Val.to (C := int e.core.op) (Val.load1 tabOk rfl rfl (by first|(apply Or.inl;(repeat first|assumption|exact m0|apply m1);done)|(apply Or.inr;(repeat first|assumption|exact m0|apply m1);done)) List.not_mem_nil (by rfl)) rfl) rfl rfl ?_
    refine SL.val (Val.eqI rfl rfl) rfl rfl ?_
    refine SL.nil (SE.seq ?_)
    refine SC.condP rfl ?_ ?_
    rotate_left
    · intro hc17
      refine SC.skip ?_
      refine SE.meet (()) (trivial) (by exact ⟨rfl, congrArg (fun s => some (st s)) (show x.policy = (polB x e.core) from (if_neg hc17).symm), trivial⟩) (by repeat first|exact s0 _|exact s1 _|apply s2|apply s3)
    intro hc17
    refine SC.region ?_
    refine SL.val (Val.move rfl) rfl rfl ?_
    refine SL.val (Val.nilCheck rfl) rfl rfl ?_
    refine SL.val (Val.fieldAddr tabOk rfl rfl rfl rfl rfl) rfl rfl ?_
    refine SL.val (Val.fieldAddr tabOk rfl rfl rfl rfl rfl) rfl rfl ?_
    refine SL.val (Val.fieldAddr tabOk rfl rfl rfl rfl rfl) rfl rfl ?_
    refine SL.val (Val.to (C := st e.core.text) (Val.load1 tabOk rfl rfl (by first|(apply Or.inl;(repeat first|assumption|exact m0|apply m1);done)|(apply Or.inr;(repeat first|assumption|exact m0|apply m1);done)) List.not_mem_nil (by rfl)) rfl) rfl rfl ?_
    refine SL.val (Val.assign rfl) rfl rfl ?_
    refine SL.nil ?_
    refine SE.meet (()) (trivial) (by exact ⟨rfl, congrArg (fun s => some (st s)) (show e.core.text = (polB x e.core) from (if_pos hc17).symm), trivial⟩) (by repeat first|exact s0 _|exact s1 _|apply s2|apply s3)
  · intro z hz
    refine SC.seq (SC.region ?_)
    refine SL.val (Val.move rfl) rfl rfl ?_
    refine SL.val (Val.move rfl) rfl rfl ?_
    refine SL.val (Val.nilCheck rfl) rfl rfl ?_
    refine SL.val (Val.fieldAddr tabOk rfl rfl rfl rfl rfl) rfl rfl ?_
    refine SL.val (Val.to (C := int n) (Val.load1 tabOk rfl rfl (by first|(apply Or.inl;(repeat first|assumption|exact m0|apply m1);done)|(apply Or.inr;(repeat first|assumption|exact m0|apply m1);done)) List.not_mem_nil (by rfl)) rfl) rfl rfl ?_
    refine SL.call (parse_s (l := tx (polB x e.core)) (n := n) he hr) (Casts.of_eq (by rw [st_tx])) (by kernel_rfl) rfl rfl rfl ?_
    refine After.pure (by repeat (first | exact Reads.nil | (refine Reads.blk ?_ ?_; focus ((repeat first|assumption|exact m0|apply m1); done)) | (refine Reads.rd ?_ ?_; focus ((repeat first|assumption|exact m0|apply m1); done)) | (refine Reads.pc ?_ ?_; focus ((repeat first|assumption|exact m0|apply m1); done)) | (refine Reads.rdpc ?_ ?_; focus ((repeat first|assumption|exact m0|apply m1); done)))) (fun _ => rfl) ?_
    intro _
    refine SL.val (Val.move rfl) rfl rfl ?_
    refine SL.val (Val.extract rfl rfl) rfl rfl ?_
    refine SL.val (Val.extract rfl rfl) rfl rfl ?_
    refine SL.eff (Eff.alloc tabOk rfl) rfl rfl ?_
    rintro _ _ ⟨b4, rfl, rfl⟩
    refine SL.eff (Eff.store (L' := (parseF (tx (polB x e.core)) n).1.abs) tabOk rfl rfl rfl (by repeat first|assumption|exact Upd.here|apply Upd.there) (by exact Frm.abs_len _) (Nat.le_of_ble_eq_true (by rfl)) (by exact Frm.abs_ones _) (putL_whole (by exact Frm.abs_len _))) rfl rfl ?_
    rintro _ _ ⟨rfl, rfl⟩
    refine SL.val (Val.assign rfl) rfl rfl ?_
    refine SL.nil (SE.seq ?_)
    refine SC.seq ?_
    refine SC.block ?_
    refine SC.seq (SC.region ?_)
    refine SL.val (Val.move rfl) rfl rfl ?_
    refine SL.val (Val.neI rfl rfl) rfl rfl ?_
    refine SL.val (Val.assign rfl) rfl rfl ?_
    refine SL.nil (SE.seq ?_)
    refine SC.condP rfl ?_ ?_
    · intro hc33
      refine SC.seq (SC.region ?_)
      refine SL.val (Val.assign rfl) rfl rfl ?_
      refine SL.nil (SE.seq ?_)
      refine SC.ret ?_
      refine SE.ret ?_
      refine SE.then_ (by intro h; cases h) ?_
      refine SE.fin (rs := [.tmp 2]) rfl (RV.tmp rfl RV.nil) (()) (by repeat first|exact s0 _|exact s1 _|apply s2|apply s3) (by simp [It.rids]) ?_
      first
        | (refine congrArg int ?_; unfold endorsedF; rw [if_pos hc33])
        | (refine congrArg int ?_; unfold endorsedF; rw [if_neg hc33, if_pos (by rw [hck] at hc36; simpa using hc36)])
        | (refine congrArg int ?_; unfold endorsedF; rw [if_neg hc33, if_neg (by rw [hck] at hc36; simpa using hc36)])
    intro hc33
    have hpz : (parseF (tx (polB x e.core)) n).2 = 0 := Classical.byContradiction hc33
    have hck := parseF_ok hpz
    refine SC.seq ?_
    refine SC.draw [] (.q 0 (.q 1 (.q 2 (.q 3 (.q 4 (.q 5 (.q 6 (.q 7 (.q 8 (.q 9 (.e 10 (.q 11 (.q 12 .nil))))))))))))) (by kernel_rfl) (by kernel_rfl) ?_
    refine SX.hx (by first|(simp[mids,It.mids,ownPc];done)|(intro k hk;simp[mids,It.mids,ownPc] at hk ⊢;grind)) fun hx9 => ?_
    refine SX.val rfl (Val.loadA tabOk rfl rfl rfl (by first|(apply Or.inl;(repeat first|assumption|exact m0|apply m1);done)|(apply Or.inr;(repeat first|assumption|exact m0|apply m1);done)) List.not_mem_nil (Frm.abs_len _)) hx9 rfl rfl ?_
    refine SX.val rfl (Val.move rfl) (by simp) rfl rfl ?_
    refine SX.val rfl (Val.nilCheck rfl) (by simp) rfl rfl ?_
    refine SX.val rfl (Val.fieldAddr tabOk rfl rfl rfl rfl rfl) (by simp) rfl rfl ?_
    refine SX.val rfl (Val.fieldAddr tabOk rfl rfl rfl rfl rfl) (by simp) rfl rfl ?_
    refine SX.val rfl (Val.to (C := .v (.int .u32 (e.mask : Nat))) (Val.load1 tabOk rfl rfl (by first|(apply Or.inl;(repeat first|assumption|exact m0|apply m1);done)|(apply Or.inr;(repeat first|assumption|exact m0|apply m1);done)) List.not_mem_nil (by rfl)) rfl) hx9 rfl rfl ?_
    refine SX.val rfl (Val.move rfl) (by simp) rfl rfl ?_
    refine SX.val rfl (Val.nilCheck rfl) (by simp) rfl rfl ?_
    refine SX.val rfl (Val.fieldAddr tabOk rfl rfl rfl rfl rfl) (by simp) rfl rfl ?_
    refine SX.val rfl (Val.to (C := int n) (Val.load1 tabOk rfl rfl (by first|(apply Or.inl;(repeat first|assumption|exact m0|apply m1);done)|(apply Or.inr;(repeat first|assumption|exact m0|apply m1);done)) List.not_mem_nil (by rfl)) rfl) hx9 rfl rfl ?_
    refine SX.call rfl (enough_s (f := (parseF (tx (polB x e.core)) n).1) (s := BitVec.ofNat 32 e.mask) (n := n) (by have h9 := (Frm.check_ok.1 hck).2.1; omega)) (by simp [mids, It.mids]) (Casts.of_eq (by rw [mask_u32 hm])) (by kernel_rfl) rfl rfl rfl ?_
    refine After.pure (by repeat (first | exact Reads.nil | (refine Reads.blk ?_ ?_; focus ((repeat first|assumption|exact m0|apply m1); done)) | (refine Reads.rd ?_ ?_; focus ((repeat first|assumption|exact m0|apply m1); done)) | (refine Reads.pc ?_ ?_; focus ((repeat first|assumption|exact m0|apply m1); done)) | (refine Reads.rdpc ?_ ?_; focus ((repeat first|assumption|exact m0|apply m1); done)))) (fun _ => rfl) ?_
    intro _
    refine SX.val rfl (Val.notB rfl) (by simp) rfl rfl ?_
    refine SX.val rfl (Val.assign rfl) (by simp) rfl rfl ?_
    refine SX.nil (SE.seq ?_)
    refine SC.cond rfl ?_ ?_
    · intro hc36
      refine SC.seq (SC.region ?_)
      refine SL.val (Val.assign rfl) rfl rfl ?_
      refine SL.nil (SE.seq ?_)
      refine SC.ret ?_
      refine SE.ret ?_
      refine SE.then_ (by intro h; cases h) ?_
      refine SE.fin (rs := [.tmp 2]) rfl (RV.tmp rfl RV.nil) (()) (by repeat first|exact s0 _|exact s1 _|apply s2|apply s3) (by simp [It.rids]) ?_
      first
        | (refine congrArg int ?_; unfold endorsedF; rw [if_pos hc33])
        | (refine congrArg int ?_; unfold endorsedF; rw [if_neg hc33, if_pos (by rw [hck] at hc36; simpa using hc36)])
        | (refine congrArg int ?_; unfold endorsedF; rw [if_neg hc33, if_neg (by rw [hck] at hc36; simpa using hc36)])
    intro hc36
    refine SC.skip ?_
    refine SE.inBlock ?_
    refine SE.seq ?_
    refine SC.seq (SC.region ?_)
    refine SL.val (Val.assign rfl) rfl rfl ?_
    refine SL.nil (SE.seq ?_)
    refine SC.ret ?_
    refine SE.fin (rs := [.tmp 2]) rfl (RV.tmp rfl RV.nil) (()) (by repeat first|exact s0 _|exact s1 _|apply s2|apply s3) (by simp [It.rids]) ?_
    first
      | (refine congrArg int ?_; unfold endorsedF; rw [if_pos hc33])
      | (refine congrArg int ?_; unfold endorsedF; rw [if_neg hc33, if_pos (by rw [hck] at hc36; simpa using hc36)])
      | (refine congrArg int ?_; unfold endorsedF; rw [if_neg hc33, if_neg (by rw [hck] at hc36; simpa using hc36)])
set_option maxHeartbeats 1000000 in
theorem stepped_s (hf : l.Few) (hl : l.Wf) (hx : x.Wf) (ha : i64ok e.core.a) (ht : e.core.text.size ≤ 9223372036854775807) : Spec Tryz.prog 50 [ptr d] (.blk d 84 (dgA l e n x) :: (globs es er)) (fun _ : Unit => [.blk d 84 (dgA (l.stepped x e.core).1 e n x)]) (fun _ => int (l.stepped x e.core).2) := by
  have hsw := step_wf (op := e.core.op) (a := e.core.a) (b := e.core.b) (t := e.core.text) hx
  refine spec_of Tryz.func50 rfl Tryz.ntmps50 rfl fun G w => ?_
  refine SC.seq (SC.region ?_)
  refine SL.val (Val.assign rfl) rfl rfl ?_
  refine SL.nil (SE.seq ?_)
  refine SC.seq (SC.region ?_)
  refine SL.val (Val.move rfl) rfl rfl ?_
  refine SL.val (Val.nilCheck rfl) rfl rfl ?_
  refine SL.val (Val.fieldAddr tabOk rfl rfl rfl rfl rfl) rfl rfl ?_
  refine SL.val (Val.fieldAddr tabOk rfl rfl rfl rfl rfl) rfl rfl ?_
  refine SL.val (Val.to (C := coreA e.core) (Val.loadP tabOk rfl rfl rfl (by first|(apply Or.inl;(repeat first|assumption|exact m0|apply m1);done)|(apply Or.inr;(repeat first|assumption|exact m0|apply m1);done)) List.not_mem_nil (Nat.le_of_ble_eq_true (by rfl))) rfl) rfl rfl ?_
  refine SL.eff (Eff.alloc tabOk rfl) rfl rfl ?_
  rintro _ _ ⟨b3, rfl, rfl⟩
  refine SL.eff (Eff.store (L' := e.core.cells.map .v) tabOk rfl rfl rfl (by repeat first|assumption|exact Upd.here|apply Upd.there) rfl (Nat.le_of_ble_eq_true (by rfl)) rfl (by exact putL_whole rfl)) rfl rfl ?_
  rintro _ _ ⟨rfl, rfl⟩
  refine SL.nil (SE.seq ?_)
  refine SC.seq ?_
  refine SC.draw [] (.q 0 (.q 1 (.q 2 (.q 3 (.q 4 (.q 5 (.q 6 (.q 7 (.q 8 (.q 9 (.q 10 (.q 11 (.two 12 16 (.q 13 (.q 14 (.q 15 (.e 16 (.e 17 (.q 18 .nil)))))) (.e 12 (.q 13 (.q 14 (.q 15 (.e 17 (.q 18 .nil))))))))))))))))))) (by kernel_rfl) (by kernel_rfl) ?_
  refine SX.val rfl (Val.move rfl) (by simp) rfl rfl ?_
  refine SX.val rfl (Val.nilCheck rfl) (by simp) rfl rfl ?_
  refine SX.val rfl (Val.fieldAddr tabOk rfl rfl rfl rfl rfl) (by simp) rfl rfl ?_
  refine SX.hx (by first|(simp[mids,It.mids,ownPc];done)|(intro k hk;simp[mids,It.mids,ownPc] at hk ⊢;grind)) fun hx9 => ?_
  refine SX.val rfl (Val.to (C := .agg (ltrA x)) (Val.loadP tabOk rfl rfl rfl (by first|(apply Or.inl;(repeat first|assumption|exact m0|apply m1);done)|(apply Or.inr;(repeat first|assumption|exact m0|apply m1);done)) List.not_mem_nil (Nat.le_of_ble_eq_true (by rfl))) rfl) hx9 rfl rfl ?_
  refine SX.val rfl (Val.fieldAddr tabOk rfl rfl rfl rfl rfl) (by simp) rfl rfl ?_
  refine SX.val rfl (Val.to (C := int e.core.op) (Val.load1 tabOk rfl rfl (by first|(apply Or.inl;(repeat first|assumption|exact m0|apply m1);done)|(apply Or.inr;(repeat first|assumption|exact m0|apply m1);done)) List.not_mem_nil (by rfl)) rfl) hx9 rfl rfl ?_
  refine SX.val rfl (Val.fieldAddr tabOk rfl rfl rfl rfl rfl) (by simp) rfl rfl ?_
  refine SX.val rfl (Val.to (C := int e.core.a) (Val.load1 tabOk rfl rfl (by first|(apply Or.inl;(repeat first|assumption|exact m0|apply m1);done)|(apply Or.inr;(repeat first|assumption|exact m0|apply m1);done)) List.not_mem_nil (by rfl)) rfl) hx9 rfl rfl ?_
  refine SX.val rfl (Val.fieldAddr tabOk rfl rfl rfl rfl rfl) (by simp) rfl rfl ?_
  refine SX.val rfl (Val.to (C := int e.core.b) (Val.load1 tabOk rfl rfl (by first|(apply Or.inl;(repeat first|assumption|exact m0|apply m1);done)|(apply Or.inr;(repeat first|assumption|exact m0|apply m1);done)) List.not_mem_nil (by rfl)) rfl) hx9 rfl rfl ?_
  refine SX.val rfl (Val.fieldAddr tabOk rfl rfl rfl rfl rfl) (by simp) rfl rfl ?_
  refine SX.val rfl (Val.to (C := st e.core.text) (Val.load1 tabOk rfl rfl (by first|(apply Or.inl;(repeat first|assumption|exact m0|apply m1);done)|(apply Or.inr;(repeat first|assumption|exact m0|apply m1);done)) List.not_mem_nil (by rfl)) rfl) hx9 rfl rfl ?_
  refine SX.two ?_ ?_
  · skip
    refine SX.call rfl (step_s (x := x) (op := e.core.op) (a := e.core.a) (b := e.core.b) (t := e.core.text) hx ha ht) (by simp [mids, It.mids]) Casts.refl (by kernel_rfl) rfl rfl rfl ?_
    refine After.pure (by repeat (first | exact Reads.nil | (refine Reads.blk ?_ ?_; focus ((repeat first|assumption|exact m0|apply m1); done)) | (refine Reads.rd ?_ ?_; focus ((repeat first|assumption|exact m0|apply m1); done)) | (refine Reads.pc ?_ ?_; focus ((repeat first|assumption|exact m0|apply m1); done)) | (refine Reads.rdpc ?_ ?_; focus ((repeat first|assumption|exact m0|apply m1); done)))) (fun _ => rfl) ?_
    intro _
    refine SX.val rfl (Val.move rfl) (by simp) rfl rfl ?_
    refine SX.val rfl (Val.extract rfl rfl) (by simp) rfl rfl ?_
    refine SX.val rfl (Val.extract rfl rfl) (by simp) rfl rfl ?_
    refine SX.alloc tabOk rfl rfl rfl rfl fun b4 => ?_
    refine SX.eff rfl (Eff.store (L' := ltrA (x.step e.core.op e.core.a e.core.b e.core.text).1) tabOk rfl rfl rfl (by repeat first|assumption|exact Upd.here|apply Upd.there) rfl (Nat.le_of_ble_eq_true (by rfl)) rfl (by exact putL_whole rfl)) (by simp) rfl rfl ?_
    rintro _ _ ⟨rfl, rfl⟩
    refine SX.hx (by first|(simp[mids,It.mids,ownPc];done)|(intro k hk;simp[mids,It.mids,ownPc] at hk ⊢;grind)) fun hx9 => ?_
    refine SX.val rfl (Val.assign rfl) hx9 rfl rfl ?_
    refine SX.nil (SE.seq ?_)
    refine SC.seq ?_
    refine SC.seq (SC.region ?_)
    refine SL.val (Val.move rfl) rfl rfl ?_
    refine SL.val (Val.neI rfl rfl) rfl rfl ?_
    refine SL.nil (SE.seq ?_)
    refine SC.condP rfl ?_ ?_
    · intro hc29
      refine SC.seq (SC.region ?_)
      refine SL.val (Val.move rfl) rfl rfl ?_
      refine SL.val (Val.assign rfl) rfl rfl ?_
      refine SL.nil (SE.seq ?_)
      refine SC.ret ?_
      refine SE.then_ (by intro h; cases h) ?_
      first
        | have hst := stepped_a (l := l) hc29
      refine SE.fin (rs := [.tmp 2]) rfl (RV.tmp rfl RV.nil) (()) (by rw [hst]; repeat (first | exact List.nil_sublist _ | exact List.Sublist.refl _ | apply List.Sublist.cons_cons | apply List.Sublist.cons)) (by simp [It.rids]) ?_
      rw [hst]; rfl
    intro hc29
    refine SC.skip ?_
    refine SE.seq ?_
    refine SC.seq (SC.region ?_)
    refine SL.val (Val.fieldAddr tabOk rfl rfl rfl rfl rfl) rfl rfl ?_
    refine SL.val (Val.to (C := st e.core.letter) (Val.load1 tabOk rfl rfl (by first|(apply Or.inl;(repeat first|assumption|exact m0|apply m1);done)|(apply Or.inr;(repeat first|assumption|exact m0|apply m1);done)) List.not_mem_nil (by rfl)) rfl) rfl rfl ?_
    refine SL.val (Val.fieldAddr tabOk rfl rfl rfl rfl rfl) rfl rfl ?_
    refine SL.eff (Eff.store (L' := ltrA (nextL x e.core)) tabOk rfl rfl rfl (by repeat first|assumption|exact Upd.here|apply Upd.there) rfl (Nat.le_of_ble_eq_true (by rfl)) rfl (by rfl)) rfl rfl ?_
    rintro _ _ ⟨rfl, rfl⟩
    refine SL.nil (SE.seq ?_)
    refine SC.seq ?_
    refine SC.draw [] (.q 0 (.q 1 (.q 2 (.q 3 (.q 4 (.two 5 9 (.q 6 (.q 7 (.q 8 (.e 9 (.e 10 (.q 11 .nil)))))) (.e 5 (.q 6 (.q 7 (.q 8 (.e 10 (.q 11 .nil)))))))))))) (by kernel_rfl) (by kernel_rfl) ?_
    refine SX.val rfl (Val.move rfl) (by simp) rfl rfl ?_
    refine SX.val rfl (Val.nilCheck rfl) (by simp) rfl rfl ?_
    refine SX.val rfl (Val.fieldAddr tabOk rfl rfl rfl rfl rfl) (by simp) rfl rfl ?_
    refine SX.hx (by first|(simp[mids,It.mids,ownPc];done)|(intro k hk;simp[mids,It.mids,ownPc] at hk ⊢;grind)) fun hx9 => ?_
    refine SX.val rfl (Val.to (C := .agg l.abs) (Val.loadP tabOk rfl rfl rfl (by first|(apply Or.inl;(repeat first|assumption|exact m0|apply m1);done)|(apply Or.inr;(repeat first|assumption|exact m0|apply m1);done)) List.not_mem_nil (Nat.le_of_ble_eq_true (by rfl))) rfl) hx9 rfl rfl ?_
    refine SX.val rfl (Val.to (C := .agg (ltrA (nextL x e.core))) (Val.loadP tabOk rfl rfl rfl (by first|(apply Or.inl;(repeat first|assumption|exact m0|apply m1);done)|(apply Or.inr;(repeat first|assumption|exact m0|apply m1);done)) List.not_mem_nil (Nat.le_of_ble_eq_true (by rfl))) rfl) hx9 rfl rfl ?_
    refine SX.two ?_ ?_
    · skip
      refine SX.call rfl (lwith_s (x := (nextL x e.core)) hf) (by simp [mids, It.mids]) Casts.refl (by kernel_rfl) rfl rfl rfl ?_
      refine After.pure (by repeat (first | exact Reads.nil | (refine Reads.blk ?_ ?_; focus ((repeat first|assumption|exact m0|apply m1); done)) | (refine Reads.rd ?_ ?_; focus ((repeat first|assumption|exact m0|apply m1); done)) | (refine Reads.pc ?_ ?_; focus ((repeat first|assumption|exact m0|apply m1); done)) | (refine Reads.rdpc ?_ ?_; focus ((repeat first|assumption|exact m0|apply m1); done)))) (fun _ => rfl) ?_
      intro _
      refine SX.val rfl (Val.move rfl) (by simp) rfl rfl ?_
      refine SX.val rfl (Val.extract rfl rfl) (by simp) rfl rfl ?_
      refine SX.val rfl (Val.extract rfl rfl) (by simp) rfl rfl ?_
      refine SX.alloc tabOk rfl rfl rfl rfl fun b6 => ?_
      refine SX.eff rfl (Eff.store (L' := (l.with_ (nextL x e.core)).1.abs) tabOk rfl rfl rfl (by repeat first|assumption|exact Upd.here|apply Upd.there) rfl (Nat.le_of_ble_eq_true (by rfl)) rfl (by exact putL_whole rfl)) (by simp) rfl rfl ?_
      rintro _ _ ⟨rfl, rfl⟩
      refine SX.hx (by first|(simp[mids,It.mids,ownPc];done)|(intro k hk;simp[mids,It.mids,ownPc] at hk ⊢;grind)) fun hx9 => ?_
      refine SX.val rfl (Val.assign rfl) hx9 rfl rfl ?_
      refine SX.nil (SE.seq ?_)
      refine SC.seq ?_
      refine SC.seq (SC.region ?_)
      refine SL.val (Val.move rfl) rfl rfl ?_
      refine SL.val (Val.neI rfl rfl) rfl rfl ?_
      refine SL.nil (SE.seq ?_)
      refine SC.condP rfl ?_ ?_
      · intro hc44
        refine SC.seq (SC.region ?_)
        refine SL.val (Val.move rfl) rfl rfl ?_
        refine SL.val (Val.assign rfl) rfl rfl ?_
        refine SL.nil (SE.seq ?_)
        refine SC.ret ?_
        refine SE.then_ (by intro h; cases h) ?_
        first
          | have hst := stepped_b (l := l) hc29 hc44
        refine SE.fin (rs := [.tmp 2]) rfl (RV.tmp rfl RV.nil) (()) (by rw [hst]; repeat (first | exact List.nil_sublist _ | exact List.Sublist.refl _ | apply List.Sublist.cons_cons | apply List.Sublist.cons)) (by simp [It.rids]) ?_
        rw [hst]; rfl
      intro hc44
      refine SC.skip ?_
      refine SE.seq ?_
      refine SC.seq ?_
      refine SC.seq (SC.region ?_)
      refine SL.val (Val.fieldAddr tabOk rfl rfl rfl rfl rfl) rfl rfl ?_
      refine SL.val (Val.to (C := int e.core.op) (Val.load1 tabOk rfl rfl (by first|(apply Or.inl;(repeat first|assumption|exact m0|apply m1);done)|(apply Or.inr;(repeat first|assumption|exact m0|apply m1);done)) List.not_mem_nil (by rfl)) rfl) rfl rfl ?_
      refine SL.val (Val.eqI rfl rfl) rfl rfl ?_
      refine SL.nil (SE.seq ?_)
      refine SC.condP rfl ?_ ?_
      rotate_left
      · intro hc48
        refine SC.skip ?_
        refine SE.seq ?_
        refine SC.seq (SC.region ?_)
        refine SL.val (Val.move rfl) rfl rfl ?_
        refine SL.val (Val.to (C := .agg (Lg.abs (l.with_ (nextL x e.core)).1)) (Val.loadP tabOk rfl rfl rfl (by first|(apply Or.inl;(repeat first|assumption|exact m0|apply m1);done)|(apply Or.inr;(repeat first|assumption|exact m0|apply m1);done)) List.not_mem_nil (Nat.le_of_ble_eq_true (by rfl))) rfl) rfl rfl ?_
        refine SL.val (Val.nilCheck rfl) rfl rfl ?_
        refine SL.val (Val.fieldAddr tabOk rfl rfl rfl rfl rfl) rfl rfl ?_
        refine SL.eff (Eff.store (L' := dgA (l.with_ (nextL x e.core)).1 e n x) tabOk rfl rfl rfl (by repeat first|assumption|exact Upd.here|apply Upd.there) rfl (Nat.le_of_ble_eq_true (by rfl)) rfl (by rfl)) rfl rfl ?_
        rintro _ _ ⟨rfl, rfl⟩
        refine SL.nil (SE.seq ?_)
        refine SC.seq (SC.region ?_)
        refine SL.val (Val.assign rfl) rfl rfl ?_
        refine SL.nil (SE.seq ?_)
        refine SC.ret ?_
        first
          | have hst := stepped_e (l := l) hc29 hc44 hc48 hc59
          | have hst := stepped_c (l := l) hc29 hc44 hc48
        refine SE.fin (rs := [.tmp 2]) rfl (RV.tmp rfl RV.nil) (()) (by rw [hst]; repeat (first | exact List.nil_sublist _ | exact List.Sublist.refl _ | apply List.Sublist.cons_cons | apply List.Sublist.cons)) (by simp [It.rids]) ?_
        rw [hst]; rfl
      intro hc48
      refine SC.seq (SC.region ?_)
      refine SL.val (Val.fieldAddr tabOk rfl rfl rfl rfl rfl) rfl rfl ?_
      refine SL.val (Val.to (C := int l.total) (Val.load1 tabOk rfl rfl (by first|(apply Or.inl;(repeat first|assumption|exact m0|apply m1);done)|(apply Or.inr;(repeat first|assumption|exact m0|apply m1);done)) List.not_mem_nil (by rfl)) (congrArg int (with_total hc44))) rfl rfl ?_
      refine SL.val (Val.fieldAddr tabOk rfl rfl rfl rfl rfl) rfl rfl ?_
      refine SL.val (Val.to (C := int (nextL x e.core).amount) (Val.load1 tabOk rfl rfl (by first|(apply Or.inl;(repeat first|assumption|exact m0|apply m1);done)|(apply Or.inr;(repeat first|assumption|exact m0|apply m1);done)) List.not_mem_nil (by rfl)) rfl) rfl rfl ?_
      refine SL.call (madd_s (a := l.total) (b := (nextL x e.core).amount) hl.total hsw.amount) Casts.refl (by kernel_rfl) rfl rfl rfl ?_
      refine After.pure (by repeat (first | exact Reads.nil | (refine Reads.blk ?_ ?_; focus ((repeat first|assumption|exact m0|apply m1); done)) | (refine Reads.rd ?_ ?_; focus ((repeat first|assumption|exact m0|apply m1); done)) | (refine Reads.pc ?_ ?_; focus ((repeat first|assumption|exact m0|apply m1); done)) | (refine Reads.rdpc ?_ ?_; focus ((repeat first|assumption|exact m0|apply m1); done)))) (fun _ => rfl) ?_
      intro _
      refine SL.val (Val.move rfl) rfl rfl ?_
      refine SL.val (Val.extract rfl rfl) rfl rfl ?_
      refine SL.val (Val.extract rfl rfl) rfl rfl ?_
      refine SL.val (Val.fieldAddr tabOk rfl rfl rfl rfl rfl) rfl rfl ?_
      refine SL.eff (Eff.store (L' := Lg.abs { (l.with_ (nextL x e.core)).1 with total := (amtAdd l.total (nextL x e.core).amount).1 }) tabOk rfl rfl rfl (by repeat first|assumption|exact Upd.here|apply Upd.there) rfl (Nat.le_of_ble_eq_true (by rfl)) rfl (by rfl)) rfl rfl ?_
      rintro _ _ ⟨rfl, rfl⟩
      refine SL.val (Val.assign rfl) rfl rfl ?_
      refine SL.nil (SE.seq ?_)
      refine SC.seq (SC.region ?_)
      refine SL.val (Val.move rfl) rfl rfl ?_
      refine SL.val (Val.neI rfl rfl) rfl rfl ?_
      refine SL.nil (SE.seq ?_)
      refine SC.condP rfl ?_ ?_
      · intro hc59
        refine SC.seq (SC.region ?_)
        refine SL.val (Val.assign rfl) rfl rfl ?_
        refine SL.nil (SE.seq ?_)
        refine SC.ret ?_
        refine SE.then_ (by intro h; cases h) ?_
        first
          | have hst := stepped_d (l := l) hc29 hc44 hc48 hc59
        refine SE.fin (rs := [.tmp 2]) rfl (RV.tmp rfl RV.nil) (()) (by rw [hst]; repeat (first | exact List.nil_sublist _ | exact List.Sublist.refl _ | apply List.Sublist.cons_cons | apply List.Sublist.cons)) (by simp [It.rids]) ?_
        rw [hst]; rfl
      intro hc59
      refine SC.skip ?_
      refine SE.seq ?_
      refine SC.seq (SC.region ?_)
      refine SL.val (Val.move rfl) rfl rfl ?_
      refine SL.val (Val.to (C := .agg (Lg.abs { (l.with_ (nextL x e.core)).1 with total := (amtAdd l.total (nextL x e.core).amount).1 })) (Val.loadP tabOk rfl rfl rfl (by first|(apply Or.inl;(repeat first|assumption|exact m0|apply m1);done)|(apply Or.inr;(repeat first|assumption|exact m0|apply m1);done)) List.not_mem_nil (Nat.le_of_ble_eq_true (by rfl))) rfl) rfl rfl ?_
      refine SL.val (Val.nilCheck rfl) rfl rfl ?_
      refine SL.val (Val.fieldAddr tabOk rfl rfl rfl rfl rfl) rfl rfl ?_
      refine SL.eff (Eff.store (L' := dgA { (l.with_ (nextL x e.core)).1 with total := (amtAdd l.total (nextL x e.core).amount).1 } e n x) tabOk rfl rfl rfl (by repeat first|assumption|exact Upd.here|apply Upd.there) rfl (Nat.le_of_ble_eq_true (by rfl)) rfl (by rfl)) rfl rfl ?_
      rintro _ _ ⟨rfl, rfl⟩
      refine SL.nil (SE.seq ?_)
      refine SC.seq (SC.region ?_)
      refine SL.val (Val.assign rfl) rfl rfl ?_
      refine SL.nil (SE.seq ?_)
      refine SC.ret ?_
      first
        | have hst := stepped_e (l := l) hc29 hc44 hc48 hc59
        | have hst := stepped_c (l := l) hc29 hc44 hc48
      refine SE.fin (rs := [.tmp 2]) rfl (RV.tmp rfl RV.nil) (()) (by rw [hst]; repeat (first | exact List.nil_sublist _ | exact List.Sublist.refl _ | apply List.Sublist.cons_cons | apply List.Sublist.cons)) (by simp [It.rids]) ?_
      rw [hst]; rfl
    · skip
      refine SX.alloc tabOk rfl rfl rfl rfl fun b6 => ?_
      refine SX.call rfl (lwith_s (x := (nextL x e.core)) hf) (by simp [mids, It.mids]) Casts.refl (by kernel_rfl) rfl rfl rfl ?_
      refine After.pure (by repeat (first | exact Reads.nil | (refine Reads.blk ?_ ?_; focus ((repeat first|assumption|exact m0|apply m1); done)) | (refine Reads.rd ?_ ?_; focus ((repeat first|assumption|exact m0|apply m1); done)) | (refine Reads.pc ?_ ?_; focus ((repeat first|assumption|exact m0|apply m1); done)) | (refine Reads.rdpc ?_ ?_; focus ((repeat first|assumption|exact m0|apply m1); done)))) (fun _ => rfl) ?_
      intro _
      refine SX.hx (by first|(simp[mids,It.mids,ownPc];done)|(intro k hk;simp[mids,It.mids,ownPc] at hk ⊢;grind)) fun hx9 => ?_
      refine SX.val rfl (Val.move rfl) hx9 rfl rfl ?_
      refine SX.val rfl (Val.extract rfl rfl) hx9 rfl rfl ?_
      refine SX.val rfl (Val.extract rfl rfl) hx9 rfl rfl ?_
      refine SX.eff rfl (Eff.store (L' := (l.with_ (nextL x e.core)).1.abs) tabOk rfl rfl rfl (by repeat first|assumption|exact Upd.here|apply Upd.there) rfl (Nat.le_of_ble_eq_true (by rfl)) rfl (by exact putL_whole rfl)) (by simp) rfl rfl ?_
      rintro _ _ ⟨rfl, rfl⟩
      refine SX.hx (by first|(simp[mids,It.mids,ownPc];done)|(intro k hk;simp[mids,It.mids,ownPc] at hk ⊢;grind)) fun hx9 => ?_
      refine SX.val rfl (Val.assign rfl) hx9 rfl rfl ?_
      refine SX.nil (SE.seq ?_)
      refine SC.seq ?_
      refine SC.seq (SC.region ?_)
      refine SL.val (Val.move rfl) rfl rfl ?_
      refine SL.val (Val.neI rfl rfl) rfl rfl ?_
      refine SL.nil (SE.seq ?_)
      refine SC.condP rfl ?_ ?_
      · intro hc44
        refine SC.seq (SC.region ?_)
        refine SL.val (Val.move rfl) rfl rfl ?_
        refine SL.val (Val.assign rfl) rfl rfl ?_
        refine SL.nil (SE.seq ?_)
        refine SC.ret ?_
        refine SE.then_ (by intro h; cases h) ?_
        first
          | have hst := stepped_b (l := l) hc29 hc44
        refine SE.fin (rs := [.tmp 2]) rfl (RV.tmp rfl RV.nil) (()) (by rw [hst]; repeat (first | exact List.nil_sublist _ | exact List.Sublist.refl _ | apply List.Sublist.cons_cons | apply List.Sublist.cons)) (by simp [It.rids]) ?_
        rw [hst]; rfl
      intro hc44
      refine SC.skip ?_
      refine SE.seq ?_
      refine SC.seq ?_
      refine SC.seq (SC.region ?_)
      refine SL.val (Val.fieldAddr tabOk rfl rfl rfl rfl rfl) rfl rfl ?_
      refine SL.val (Val.to (C := int e.core.op) (Val.load1 tabOk rfl rfl (by first|(apply Or.inl;(repeat first|assumption|exact m0|apply m1);done)|(apply Or.inr;(repeat first|assumption|exact m0|apply m1);done)) List.not_mem_nil (by rfl)) rfl) rfl rfl ?_
      refine SL.val (Val.eqI rfl rfl) rfl rfl ?_
      refine SL.nil (SE.seq ?_)
      refine SC.condP rfl ?_ ?_
      rotate_left
      · intro hc48
        refine SC.skip ?_
        refine SE.seq ?_
        refine SC.seq (SC.region ?_)
        refine SL.val (Val.move rfl) rfl rfl ?_
        refine SL.val (Val.to (C := .agg (Lg.abs (l.with_ (nextL x e.core)).1)) (Val.loadP tabOk rfl rfl rfl (by first|(apply Or.inl;(repeat first|assumption|exact m0|apply m1);done)|(apply Or.inr;(repeat first|assumption|exact m0|apply m1);done)) List.not_mem_nil (Nat.le_of_ble_eq_true (by rfl))) rfl) rfl rfl ?_
        refine SL.val (Val.nilCheck rfl) rfl rfl ?_
        refine SL.val (Val.fieldAddr tabOk rfl rfl rfl rfl rfl) rfl rfl ?_
        refine SL.eff (Eff.store (L' := dgA (l.with_ (nextL x e.core)).1 e n x) tabOk rfl rfl rfl (by repeat first|assumption|exact Upd.here|apply Upd.there) rfl (Nat.le_of_ble_eq_true (by rfl)) rfl (by rfl)) rfl rfl ?_
        rintro _ _ ⟨rfl, rfl⟩
        refine SL.nil (SE.seq ?_)
        refine SC.seq (SC.region ?_)
        refine SL.val (Val.assign rfl) rfl rfl ?_
        refine SL.nil (SE.seq ?_)
        refine SC.ret ?_
        first
          | have hst := stepped_e (l := l) hc29 hc44 hc48 hc59
          | have hst := stepped_c (l := l) hc29 hc44 hc48
        refine SE.fin (rs := [.tmp 2]) rfl (RV.tmp rfl RV.nil) (()) (by rw [hst]; repeat (first | exact List.nil_sublist _ | exact List.Sublist.refl _ | apply List.Sublist.cons_cons | apply List.Sublist.cons)) (by simp [It.rids]) ?_
        rw [hst]; rfl
      intro hc48
      refine SC.seq (SC.region ?_)
      refine SL.val (Val.fieldAddr tabOk rfl rfl rfl rfl rfl) rfl rfl ?_
      refine SL.val (Val.to (C := int l.total) (Val.load1 tabOk rfl rfl (by first|(apply Or.inl;(repeat first|assumption|exact m0|apply m1);done)|(apply Or.inr;(repeat first|assumption|exact m0|apply m1);done)) List.not_mem_nil (by rfl)) (congrArg int (with_total hc44))) rfl rfl ?_
      refine SL.val (Val.fieldAddr tabOk rfl rfl rfl rfl rfl) rfl rfl ?_
      refine SL.val (Val.to (C := int (nextL x e.core).amount) (Val.load1 tabOk rfl rfl (by first|(apply Or.inl;(repeat first|assumption|exact m0|apply m1);done)|(apply Or.inr;(repeat first|assumption|exact m0|apply m1);done)) List.not_mem_nil (by rfl)) rfl) rfl rfl ?_
      refine SL.call (madd_s (a := l.total) (b := (nextL x e.core).amount) hl.total hsw.amount) Casts.refl (by kernel_rfl) rfl rfl rfl ?_
      refine After.pure (by repeat (first | exact Reads.nil | (refine Reads.blk ?_ ?_; focus ((repeat first|assumption|exact m0|apply m1); done)) | (refine Reads.rd ?_ ?_; focus ((repeat first|assumption|exact m0|apply m1); done)) | (refine Reads.pc ?_ ?_; focus ((repeat first|assumption|exact m0|apply m1); done)) | (refine Reads.rdpc ?_ ?_; focus ((repeat first|assumption|exact m0|apply m1); done)))) (fun _ => rfl) ?_
      intro _
      refine SL.val (Val.move rfl) rfl rfl ?_
      refine SL.val (Val.extract rfl rfl) rfl rfl ?_
      refine SL.val (Val.extract rfl rfl) rfl rfl ?_
      refine SL.val (Val.fieldAddr tabOk rfl rfl rfl rfl rfl) rfl rfl ?_
      refine SL.eff (Eff.store (L' := Lg.abs { (l.with_ (nextL x e.core)).1 with total := (amtAdd l.total (nextL x e.core).amount).1 }) tabOk rfl rfl rfl (by repeat first|assumption|exact Upd.here|apply Upd.there) rfl (Nat.le_of_ble_eq_true (by rfl)) rfl (by rfl)) rfl rfl ?_
      rintro _ _ ⟨rfl, rfl⟩
      refine SL.val (Val.assign rfl) rfl rfl ?_
      refine SL.nil (SE.seq ?_)
      refine SC.seq (SC.region ?_)
      refine SL.val (Val.move rfl) rfl rfl ?_
      refine SL.val (Val.neI rfl rfl) rfl rfl ?_
      refine SL.nil (SE.seq ?_)
      refine SC.condP rfl ?_ ?_
      · intro hc59
        refine SC.seq (SC.region ?_)
        refine SL.val (Val.assign rfl) rfl rfl ?_
        refine SL.nil (SE.seq ?_)
        refine SC.ret ?_
        refine SE.then_ (by intro h; cases h) ?_
        first
          | have hst := stepped_d (l := l) hc29 hc44 hc48 hc59
        refine SE.fin (rs := [.tmp 2]) rfl (RV.tmp rfl RV.nil) (()) (by rw [hst]; repeat (first | exact List.nil_sublist _ | exact List.Sublist.refl _ | apply List.Sublist.cons_cons | apply List.Sublist.cons)) (by simp [It.rids]) ?_
        rw [hst]; rfl
      intro hc59
      refine SC.skip ?_
      refine SE.seq ?_
      refine SC.seq (SC.region ?_)
      refine SL.val (Val.move rfl) rfl rfl ?_
      refine SL.val (Val.to (C := .agg (Lg.abs { (l.with_ (nextL x e.core)).1 with total := (amtAdd l.total (nextL x e.core).amount).1 })) (Val.loadP tabOk rfl rfl rfl (by first|(apply Or.inl;(repeat first|assumption|exact m0|apply m1);done)|(apply Or.inr;(repeat first|assumption|exact m0|apply m1);done)) List.not_mem_nil (Nat.le_of_ble_eq_true (by rfl))) rfl) rfl rfl ?_
      refine SL.val (Val.nilCheck rfl) rfl rfl ?_
      refine SL.val (Val.fieldAddr tabOk rfl rfl rfl rfl rfl) rfl rfl ?_
      refine SL.eff (Eff.store (L' := dgA { (l.with_ (nextL x e.core)).1 with total := (amtAdd l.total (nextL x e.core).amount).1 } e n x) tabOk rfl rfl rfl (by repeat first|assumption|exact Upd.here|apply Upd.there) rfl (Nat.le_of_ble_eq_true (by rfl)) rfl (by rfl)) rfl rfl ?_
      rintro _ _ ⟨rfl, rfl⟩
      refine SL.nil (SE.seq ?_)
      refine SC.seq (SC.region ?_)
      refine SL.val (Val.assign rfl) rfl rfl ?_
      refine SL.nil (SE.seq ?_)
      refine SC.ret ?_
      first
        | have hst := stepped_e (l := l) hc29 hc44 hc48 hc59
        | have hst := stepped_c (l := l) hc29 hc44 hc48
      refine SE.fin (rs := [.tmp 2]) rfl (RV.tmp rfl RV.nil) (()) (by rw [hst]; repeat (first | exact List.nil_sublist _ | exact List.Sublist.refl _ | apply List.Sublist.cons_cons | apply List.Sublist.cons)) (by simp [It.rids]) ?_
      rw [hst]; rfl
  · skip
    refine SX.alloc tabOk rfl rfl rfl rfl fun b4 => ?_
    refine SX.call rfl (step_s (x := x) (op := e.core.op) (a := e.core.a) (b := e.core.b) (t := e.core.text) hx ha ht) (by simp [mids, It.mids]) Casts.refl (by kernel_rfl) rfl rfl rfl ?_
    refine After.pure (by repeat (first | exact Reads.nil | (refine Reads.blk ?_ ?_; focus ((repeat first|assumption|exact m0|apply m1); done)) | (refine Reads.rd ?_ ?_; focus ((repeat first|assumption|exact m0|apply m1); done)) | (refine Reads.pc ?_ ?_; focus ((repeat first|assumption|exact m0|apply m1); done)) | (refine Reads.rdpc ?_ ?_; focus ((repeat first|assumption|exact m0|apply m1); done)))) (fun _ => rfl) ?_
    intro _
    refine SX.hx (by first|(simp[mids,It.mids,ownPc];done)|(intro k hk;simp[mids,It.mids,ownPc] at hk ⊢;grind)) fun hx9 => ?_
    refine SX.val rfl (Val.move rfl) hx9 rfl rfl ?_
    refine SX.val rfl (Val.extract rfl rfl) hx9 rfl rfl ?_
    refine SX.val rfl (Val.extract rfl rfl) hx9 rfl rfl ?_
    refine SX.eff rfl (Eff.store (L' := ltrA (x.step e.core.op e.core.a e.core.b e.core.text).1) tabOk rfl rfl rfl (by repeat first|assumption|exact Upd.here|apply Upd.there) rfl (Nat.le_of_ble_eq_true (by rfl)) rfl (by exact putL_whole rfl)) (by simp) rfl rfl ?_
    rintro _ _ ⟨rfl, rfl⟩
    refine SX.hx (by first|(simp[mids,It.mids,ownPc];done)|(intro k hk;simp[mids,It.mids,ownPc] at hk ⊢;grind)) fun hx9 => ?_
    refine SX.val rfl (Val.assign rfl) hx9 rfl rfl ?_
    refine SX.nil (SE.seq ?_)
    refine SC.seq ?_
    refine SC.seq (SC.region ?_)
    refine SL.val (Val.move rfl) rfl rfl ?_
    refine SL.val (Val.neI rfl rfl) rfl rfl ?_
    refine SL.nil (SE.seq ?_)
    refine SC.condP rfl ?_ ?_
    · intro hc29
      refine SC.seq (SC.region ?_)
      refine SL.val (Val.move rfl) rfl rfl ?_
      refine SL.val (Val.assign rfl) rfl rfl ?_
      refine SL.nil (SE.seq ?_)
      refine SC.ret ?_
      refine SE.then_ (by intro h; cases h) ?_
      first
        | have hst := stepped_a (l := l) hc29
      refine SE.fin (rs := [.tmp 2]) rfl (RV.tmp rfl RV.nil) (()) (by rw [hst]; repeat (first | exact List.nil_sublist _ | exact List.Sublist.refl _ | apply List.Sublist.cons_cons | apply List.Sublist.cons)) (by simp [It.rids]) ?_
      rw [hst]; rfl
    intro hc29
    refine SC.skip ?_
    refine SE.seq ?_
    refine SC.seq (SC.region ?_)
    refine SL.val (Val.fieldAddr tabOk rfl rfl rfl rfl rfl) rfl rfl ?_
    refine SL.val (Val.to (C := st e.core.letter) (Val.load1 tabOk rfl rfl (by first|(apply Or.inl;(repeat first|assumption|exact m0|apply m1);done)|(apply Or.inr;(repeat first|assumption|exact m0|apply m1);done)) List.not_mem_nil (by rfl)) rfl) rfl rfl ?_
    refine SL.val (Val.fieldAddr tabOk rfl rfl rfl rfl rfl) rfl rfl ?_
    refine SL.eff (Eff.store (L' := ltrA (nextL x e.core)) tabOk rfl rfl rfl (by repeat first|assumption|exact Upd.here|apply Upd.there) rfl (Nat.le_of_ble_eq_true (by rfl)) rfl (by rfl)) rfl rfl ?_
    rintro _ _ ⟨rfl, rfl⟩
    refine SL.nil (SE.seq ?_)
    refine SC.seq ?_
    refine SC.draw [] (.q 0 (.q 1 (.q 2 (.q 3 (.q 4 (.two 5 9 (.q 6 (.q 7 (.q 8 (.e 9 (.e 10 (.q 11 .nil)))))) (.e 5 (.q 6 (.q 7 (.q 8 (.e 10 (.q 11 .nil)))))))))))) (by kernel_rfl) (by kernel_rfl) ?_
    refine SX.val rfl (Val.move rfl) (by simp) rfl rfl ?_
    refine SX.val rfl (Val.nilCheck rfl) (by simp) rfl rfl ?_
    refine SX.val rfl (Val.fieldAddr tabOk rfl rfl rfl rfl rfl) (by simp) rfl rfl ?_
    refine SX.hx (by first|(simp[mids,It.mids,ownPc];done)|(intro k hk;simp[mids,It.mids,ownPc] at hk ⊢;grind)) fun hx9 => ?_
    refine SX.val rfl (Val.to (C := .agg l.abs) (Val.loadP tabOk rfl rfl rfl (by first|(apply Or.inl;(repeat first|assumption|exact m0|apply m1);done)|(apply Or.inr;(repeat first|assumption|exact m0|apply m1);done)) List.not_mem_nil (Nat.le_of_ble_eq_true (by rfl))) rfl) hx9 rfl rfl ?_
    refine SX.val rfl (Val.to (C := .agg (ltrA (nextL x e.core))) (Val.loadP tabOk rfl rfl rfl (by first|(apply Or.inl;(repeat first|assumption|exact m0|apply m1);done)|(apply Or.inr;(repeat first|assumption|exact m0|apply m1);done)) List.not_mem_nil (Nat.le_of_ble_eq_true (by rfl))) rfl) hx9 rfl rfl ?_
    refine SX.two ?_ ?_
    · skip
      refine SX.call rfl (lwith_s (x := (nextL x e.core)) hf) (by simp [mids, It.mids]) Casts.refl (by kernel_rfl) rfl rfl rfl ?_
      refine After.pure (by repeat (first | exact Reads.nil | (refine Reads.blk ?_ ?_; focus ((repeat first|assumption|exact m0|apply m1); done)) | (refine Reads.rd ?_ ?_; focus ((repeat first|assumption|exact m0|apply m1); done)) | (refine Reads.pc ?_ ?_; focus ((repeat first|assumption|exact m0|apply m1); done)) | (refine Reads.rdpc ?_ ?_; focus ((repeat first|assumption|exact m0|apply m1); done)))) (fun _ => rfl) ?_
      intro _
      refine SX.val rfl (Val.move rfl) (by simp) rfl rfl ?_
      refine SX.val rfl (Val.extract rfl rfl) (by simp) rfl rfl ?_
      refine SX.val rfl (Val.extract rfl rfl) (by simp) rfl rfl ?_
      refine SX.alloc tabOk rfl rfl rfl rfl fun b6 => ?_
      refine SX.eff rfl (Eff.store (L' := (l.with_ (nextL x e.core)).1.abs) tabOk rfl rfl rfl (by repeat first|assumption|exact Upd.here|apply Upd.there) rfl (Nat.le_of_ble_eq_true (by rfl)) rfl (by exact putL_whole rfl)) (by simp) rfl rfl ?_
      rintro _ _ ⟨rfl, rfl⟩
      refine SX.hx (by first|(simp[mids,It.mids,ownPc];done)|(intro k hk;simp[mids,It.mids,ownPc] at hk ⊢;grind)) fun hx9 => ?_
      refine SX.val rfl (Val.assign rfl) hx9 rfl rfl ?_
      refine SX.nil (SE.seq ?_)
      refine SC.seq ?_
      refine SC.seq (SC.region ?_)
      refine SL.val (Val.move rfl) rfl rfl ?_
      refine SL.val (Val.neI rfl rfl) rfl rfl ?_
      refine SL.nil (SE.seq ?_)
      refine SC.condP rfl ?_ ?_
      · intro hc44
        refine SC.seq (SC.region ?_)
        refine SL.val (Val.move rfl) rfl rfl ?_
        refine SL.val (Val.assign rfl) rfl rfl ?_
        refine SL.nil (SE.seq ?_)
        refine SC.ret ?_
        refine SE.then_ (by intro h; cases h) ?_
        first
          | have hst := stepped_b (l := l) hc29 hc44
        refine SE.fin (rs := [.tmp 2]) rfl (RV.tmp rfl RV.nil) (()) (by rw [hst]; repeat (first | exact List.nil_sublist _ | exact List.Sublist.refl _ | apply List.Sublist.cons_cons | apply List.Sublist.cons)) (by simp [It.rids]) ?_
        rw [hst]; rfl
      intro hc44
      refine SC.skip ?_
      refine SE.seq ?_
      refine SC.seq ?_
      refine SC.seq (SC.region ?_)
      refine SL.val (Val.fieldAddr tabOk rfl rfl rfl rfl rfl) rfl rfl ?_
      refine SL.val (Val.to (C := int e.core.op) (Val.load1 tabOk rfl rfl (by first|(apply Or.inl;(repeat first|assumption|exact m0|apply m1);done)|(apply Or.inr;(repeat first|assumption|exact m0|apply m1);done)) List.not_mem_nil (by rfl)) rfl) rfl rfl ?_
      refine SL.val (Val.eqI rfl rfl) rfl rfl ?_
      refine SL.nil (SE.seq ?_)
      refine SC.condP rfl ?_ ?_
      rotate_left
      · intro hc48
        refine SC.skip ?_
        refine SE.seq ?_
        refine SC.seq (SC.region ?_)
        refine SL.val (Val.move rfl) rfl rfl ?_
        refine SL.val (Val.to (C := .agg (Lg.abs (l.with_ (nextL x e.core)).1)) (Val.loadP tabOk rfl rfl rfl (by first|(apply Or.inl;(repeat first|assumption|exact m0|apply m1);done)|(apply Or.inr;(repeat first|assumption|exact m0|apply m1);done)) List.not_mem_nil (Nat.le_of_ble_eq_true (by rfl))) rfl) rfl rfl ?_
        refine SL.val (Val.nilCheck rfl) rfl rfl ?_
        refine SL.val (Val.fieldAddr tabOk rfl rfl rfl rfl rfl) rfl rfl ?_
        refine SL.eff (Eff.store (L' := dgA (l.with_ (nextL x e.core)).1 e n x) tabOk rfl rfl rfl (by repeat first|assumption|exact Upd.here|apply Upd.there) rfl (Nat.le_of_ble_eq_true (by rfl)) rfl (by rfl)) rfl rfl ?_
        rintro _ _ ⟨rfl, rfl⟩
        refine SL.nil (SE.seq ?_)
        refine SC.seq (SC.region ?_)
        refine SL.val (Val.assign rfl) rfl rfl ?_
        refine SL.nil (SE.seq ?_)
        refine SC.ret ?_
        first
          | have hst := stepped_e (l := l) hc29 hc44 hc48 hc59
          | have hst := stepped_c (l := l) hc29 hc44 hc48
        refine SE.fin (rs := [.tmp 2]) rfl (RV.tmp rfl RV.nil) (()) (by rw [hst]; repeat (first | exact List.nil_sublist _ | exact List.Sublist.refl _ | apply List.Sublist.cons_cons | apply List.Sublist.cons)) (by simp [It.rids]) ?_
        rw [hst]; rfl
      intro hc48
      refine SC.seq (SC.region ?_)
      refine SL.val (Val.fieldAddr tabOk rfl rfl rfl rfl rfl) rfl rfl ?_
      refine SL.val (Val.to (C := int l.total) (Val.load1 tabOk rfl rfl (by first|(apply Or.inl;(repeat first|assumption|exact m0|apply m1);done)|(apply Or.inr;(repeat first|assumption|exact m0|apply m1);done)) List.not_mem_nil (by rfl)) (congrArg int (with_total hc44))) rfl rfl ?_
      refine SL.val (Val.fieldAddr tabOk rfl rfl rfl rfl rfl) rfl rfl ?_
      refine SL.val (Val.to (C := int (nextL x e.core).amount) (Val.load1 tabOk rfl rfl (by first|(apply Or.inl;(repeat first|assumption|exact m0|apply m1);done)|(apply Or.inr;(repeat first|assumption|exact m0|apply m1);done)) List.not_mem_nil (by rfl)) rfl) rfl rfl ?_
      refine SL.call (madd_s (a := l.total) (b := (nextL x e.core).amount) hl.total hsw.amount) Casts.refl (by kernel_rfl) rfl rfl rfl ?_
      refine After.pure (by repeat (first | exact Reads.nil | (refine Reads.blk ?_ ?_; focus ((repeat first|assumption|exact m0|apply m1); done)) | (refine Reads.rd ?_ ?_; focus ((repeat first|assumption|exact m0|apply m1); done)) | (refine Reads.pc ?_ ?_; focus ((repeat first|assumption|exact m0|apply m1); done)) | (refine Reads.rdpc ?_ ?_; focus ((repeat first|assumption|exact m0|apply m1); done)))) (fun _ => rfl) ?_
      intro _
      refine SL.val (Val.move rfl) rfl rfl ?_
      refine SL.val (Val.extract rfl rfl) rfl rfl ?_
      refine SL.val (Val.extract rfl rfl) rfl rfl ?_
      refine SL.val (Val.fieldAddr tabOk rfl rfl rfl rfl rfl) rfl rfl ?_
      refine SL.eff (Eff.store (L' := Lg.abs { (l.with_ (nextL x e.core)).1 with total := (amtAdd l.total (nextL x e.core).amount).1 }) tabOk rfl rfl rfl (by repeat first|assumption|exact Upd.here|apply Upd.there) rfl (Nat.le_of_ble_eq_true (by rfl)) rfl (by rfl)) rfl rfl ?_
      rintro _ _ ⟨rfl, rfl⟩
      refine SL.val (Val.assign rfl) rfl rfl ?_
      refine SL.nil (SE.seq ?_)
      refine SC.seq (SC.region ?_)
      refine SL.val (Val.move rfl) rfl rfl ?_
      refine SL.val (Val.neI rfl rfl) rfl rfl ?_
      refine SL.nil (SE.seq ?_)
      refine SC.condP rfl ?_ ?_
      · intro hc59
        refine SC.seq (SC.region ?_)
        refine SL.val (Val.assign rfl) rfl rfl ?_
        refine SL.nil (SE.seq ?_)
        refine SC.ret ?_
        refine SE.then_ (by intro h; cases h) ?_
        first
          | have hst := stepped_d (l := l) hc29 hc44 hc48 hc59
        refine SE.fin (rs := [.tmp 2]) rfl (RV.tmp rfl RV.nil) (()) (by rw [hst]; repeat (first | exact List.nil_sublist _ | exact List.Sublist.refl _ | apply List.Sublist.cons_cons | apply List.Sublist.cons)) (by simp [It.rids]) ?_
        rw [hst]; rfl
      intro hc59
      refine SC.skip ?_
      refine SE.seq ?_
      refine SC.seq (SC.region ?_)
      refine SL.val (Val.move rfl) rfl rfl ?_
      refine SL.val (Val.to (C := .agg (Lg.abs { (l.with_ (nextL x e.core)).1 with total := (amtAdd l.total (nextL x e.core).amount).1 })) (Val.loadP tabOk rfl rfl rfl (by first|(apply Or.inl;(repeat first|assumption|exact m0|apply m1);done)|(apply Or.inr;(repeat first|assumption|exact m0|apply m1);done)) List.not_mem_nil (Nat.le_of_ble_eq_true (by rfl))) rfl) rfl rfl ?_
      refine SL.val (Val.nilCheck rfl) rfl rfl ?_
      refine SL.val (Val.fieldAddr tabOk rfl rfl rfl rfl rfl) rfl rfl ?_
      refine SL.eff (Eff.store (L' := dgA { (l.with_ (nextL x e.core)).1 with total := (amtAdd l.total (nextL x e.core).amount).1 } e n x) tabOk rfl rfl rfl (by repeat first|assumption|exact Upd.here|apply Upd.there) rfl (Nat.le_of_ble_eq_true (by rfl)) rfl (by rfl)) rfl rfl ?_
      rintro _ _ ⟨rfl, rfl⟩
      refine SL.nil (SE.seq ?_)
      refine SC.seq (SC.region ?_)
      refine SL.val (Val.assign rfl) rfl rfl ?_
      refine SL.nil (SE.seq ?_)
      refine SC.ret ?_
      first
        | have hst := stepped_e (l := l) hc29 hc44 hc48 hc59
        | have hst := stepped_c (l := l) hc29 hc44 hc48
      refine SE.fin (rs := [.tmp 2]) rfl (RV.tmp rfl RV.nil) (()) (by rw [hst]; repeat (first | exact List.nil_sublist _ | exact List.Sublist.refl _ | apply List.Sublist.cons_cons | apply List.Sublist.cons)) (by simp [It.rids]) ?_
      rw [hst]; rfl
    · skip
      refine SX.alloc tabOk rfl rfl rfl rfl fun b6 => ?_
      refine SX.call rfl (lwith_s (x := (nextL x e.core)) hf) (by simp [mids, It.mids]) Casts.refl (by kernel_rfl) rfl rfl rfl ?_
      refine After.pure (by repeat (first | exact Reads.nil | (refine Reads.blk ?_ ?_; focus ((repeat first|assumption|exact m0|apply m1); done)) | (refine Reads.rd ?_ ?_; focus ((repeat first|assumption|exact m0|apply m1); done)) | (refine Reads.pc ?_ ?_; focus ((repeat first|assumption|exact m0|apply m1); done)) | (refine Reads.rdpc ?_ ?_; focus ((repeat first|assumption|exact m0|apply m1); done)))) (fun _ => rfl) ?_
      intro _
      refine SX.hx (by first|(simp[mids,It.mids,ownPc];done)|(intro k hk;simp[mids,It.mids,ownPc] at hk ⊢;grind)) fun hx9 => ?_
      refine SX.val rfl (Val.move rfl) hx9 rfl rfl ?_
      refine SX.val rfl (Val.extract rfl rfl) hx9 rfl rfl ?_
      refine SX.val rfl (Val.extract rfl rfl) hx9 rfl rfl ?_
      refine SX.eff rfl (Eff.store (L' := (l.with_ (nextL x e.core)).1.abs) tabOk rfl rfl rfl (by repeat first|assumption|exact Upd.here|apply Upd.there) rfl (Nat.le_of_ble_eq_true (by rfl)) rfl (by exact putL_whole rfl)) (by simp) rfl rfl ?_
      rintro _ _ ⟨rfl, rfl⟩
      refine SX.hx (by first|(simp[mids,It.mids,ownPc];done)|(intro k hk;simp[mids,It.mids,ownPc] at hk ⊢;grind)) fun hx9 => ?_
      refine SX.val rfl (Val.assign rfl) hx9 rfl rfl ?_
      refine SX.nil (SE.seq ?_)
      refine SC.seq ?_
      refine SC.seq (SC.region ?_)
      refine SL.val (Val.move rfl) rfl rfl ?_
      refine SL.val (Val.neI rfl rfl) rfl rfl ?_
      refine SL.nil (SE.seq ?_)
      refine SC.condP rfl ?_ ?_
      · intro hc44
        refine SC.seq (SC.region ?_)
        refine SL.val (Val.move rfl) rfl rfl ?_
        refine SL.val (Val.assign rfl) rfl rfl ?_
        refine SL.nil (SE.seq ?_)
        refine SC.ret ?_
        refine SE.then_ (by intro h; cases h) ?_
        first
          | have hst := stepped_b (l := l) hc29 hc44
        refine SE.fin (rs := [.tmp 2]) rfl (RV.tmp rfl RV.nil) (()) (by rw [hst]; repeat (first | exact List.nil_sublist _ | exact List.Sublist.refl _ | apply List.Sublist.cons_cons | apply List.Sublist.cons)) (by simp [It.rids]) ?_
        rw [hst]; rfl
      intro hc44
      refine SC.skip ?_
      refine SE.seq ?_
      refine SC.seq ?_
      refine SC.seq (SC.region ?_)
      refine SL.val (Val.fieldAddr tabOk rfl rfl rfl rfl rfl) rfl rfl ?_
      refine SL.val (Val.to (C := int e.core.op) (Val.load1 tabOk rfl rfl (by first|(apply Or.inl;(repeat first|assumption|exact m0|apply m1);done)|(apply Or.inr;(repeat first|assumption|exact m0|apply m1);done)) List.not_mem_nil (by rfl)) rfl) rfl rfl ?_
      refine SL.val (Val.eqI rfl rfl) rfl rfl ?_
      refine SL.nil (SE.seq ?_)
      refine SC.condP rfl ?_ ?_
      rotate_left
      · intro hc48
        refine SC.skip ?_
        refine SE.seq ?_
        refine SC.seq (SC.region ?_)
        refine SL.val (Val.move rfl) rfl rfl ?_
        refine SL.val (Val.to (C := .agg (Lg.abs (l.with_ (nextL x e.core)).1)) (Val.loadP tabOk rfl rfl rfl (by first|(apply Or.inl;(repeat first|assumption|exact m0|apply m1);done)|(apply Or.inr;(repeat first|assumption|exact m0|apply m1);done)) List.not_mem_nil (Nat.le_of_ble_eq_true (by rfl))) rfl) rfl rfl ?_
        refine SL.val (Val.nilCheck rfl) rfl rfl ?_
        refine SL.val (Val.fieldAddr tabOk rfl rfl rfl rfl rfl) rfl rfl ?_
        refine SL.eff (Eff.store (L' := dgA (l.with_ (nextL x e.core)).1 e n x) tabOk rfl rfl rfl (by repeat first|assumption|exact Upd.here|apply Upd.there) rfl (Nat.le_of_ble_eq_true (by rfl)) rfl (by rfl)) rfl rfl ?_
        rintro _ _ ⟨rfl, rfl⟩
        refine SL.nil (SE.seq ?_)
        refine SC.seq (SC.region ?_)
        refine SL.val (Val.assign rfl) rfl rfl ?_
        refine SL.nil (SE.seq ?_)
        refine SC.ret ?_
        first
          | have hst := stepped_e (l := l) hc29 hc44 hc48 hc59
          | have hst := stepped_c (l := l) hc29 hc44 hc48
        refine SE.fin (rs := [.tmp 2]) rfl (RV.tmp rfl RV.nil) (()) (by rw [hst]; repeat (first | exact List.nil_sublist _ | exact List.Sublist.refl _ | apply List.Sublist.cons_cons | apply List.Sublist.cons)) (by simp [It.rids]) ?_
        rw [hst]; rfl
      intro hc48
      refine SC.seq (SC.region ?_)
      refine SL.val (Val.fieldAddr tabOk rfl rfl rfl rfl rfl) rfl rfl ?_
      refine SL.val (Val.to (C := int l.total) (Val.load1 tabOk rfl rfl (by first|(apply Or.inl;(repeat first|assumption|exact m0|apply m1);done)|(apply Or.inr;(repeat first|assumption|exact m0|apply m1);done)) List.not_mem_nil (by rfl)) (congrArg int (with_total hc44))) rfl rfl ?_
      refine SL.val (Val.fieldAddr tabOk rfl rfl rfl rfl rfl) rfl rfl ?_
      refine SL.val (Val.to (C := int (nextL x e.core).amount) (Val.load1 tabOk rfl rfl (by first|(apply Or.inl;(repeat first|assumption|exact m0|apply m1);done)|(apply Or.inr;(repeat first|assumption|exact m0|apply m1);done)) List.not_mem_nil (by rfl)) rfl) rfl rfl ?_
      refine SL.call (madd_s (a := l.total) (b := (nextL x e.core).amount) hl.total hsw.amount) Casts.refl (by kernel_rfl) rfl rfl rfl ?_
      refine After.pure (by repeat (first | exact Reads.nil | (refine Reads.blk ?_ ?_; focus ((repeat first|assumption|exact m0|apply m1); done)) | (refine Reads.rd ?_ ?_; focus ((repeat first|assumption|exact m0|apply m1); done)) | (refine Reads.pc ?_ ?_; focus ((repeat first|assumption|exact m0|apply m1); done)) | (refine Reads.rdpc ?_ ?_; focus ((repeat first|assumption|exact m0|apply m1); done)))) (fun _ => rfl) ?_
      intro _
      refine SL.val (Val.move rfl) rfl rfl ?_
      refine SL.val (Val.extract rfl rfl) rfl rfl ?_
      refine SL.val (Val.extract rfl rfl) rfl rfl ?_
      refine SL.val (Val.fieldAddr tabOk rfl rfl rfl rfl rfl) rfl rfl ?_
      refine SL.eff (Eff.store (L' := Lg.abs { (l.with_ (nextL x e.core)).1 with total := (amtAdd l.total (nextL x e.core).amount).1 }) tabOk rfl rfl rfl (by repeat first|assumption|exact Upd.here|apply Upd.there) rfl (Nat.le_of_ble_eq_true (by rfl)) rfl (by rfl)) rfl rfl ?_
      rintro _ _ ⟨rfl, rfl⟩
      refine SL.val (Val.assign rfl) rfl rfl ?_
      refine SL.nil (SE.seq ?_)
      refine SC.seq (SC.region ?_)
      refine SL.val (Val.move rfl) rfl rfl ?_
      refine SL.val (Val.neI rfl rfl) rfl rfl ?_
      refine SL.nil (SE.seq ?_)
      refine SC.condP rfl ?_ ?_
      · intro hc59
        refine SC.seq (SC.region ?_)
        refine SL.val (Val.assign rfl) rfl rfl ?_
        refine SL.nil (SE.seq ?_)
        refine SC.ret ?_
        refine SE.then_ (by intro h; cases h) ?_
        first
          | have hst := stepped_d (l := l) hc29 hc44 hc48 hc59
        refine SE.fin (rs := [.tmp 2]) rfl (RV.tmp rfl RV.nil) (()) (by rw [hst]; repeat (first | exact List.nil_sublist _ | exact List.Sublist.refl _ | apply List.Sublist.cons_cons | apply List.Sublist.cons)) (by simp [It.rids]) ?_
        rw [hst]; rfl
      intro hc59
      refine SC.skip ?_
      refine SE.seq ?_
      refine SC.seq (SC.region ?_)
      refine SL.val (Val.move rfl) rfl rfl ?_
      refine SL.val (Val.to (C := .agg (Lg.abs { (l.with_ (nextL x e.core)).1 with total := (amtAdd l.total (nextL x e.core).amount).1 })) (Val.loadP tabOk rfl rfl rfl (by first|(apply Or.inl;(repeat first|assumption|exact m0|apply m1);done)|(apply Or.inr;(repeat first|assumption|exact m0|apply m1);done)) List.not_mem_nil (Nat.le_of_ble_eq_true (by rfl))) rfl) rfl rfl ?_
      refine SL.val (Val.nilCheck rfl) rfl rfl ?_
      refine SL.val (Val.fieldAddr tabOk rfl rfl rfl rfl rfl) rfl rfl ?_
      refine SL.eff (Eff.store (L' := dgA { (l.with_ (nextL x e.core)).1 with total := (amtAdd l.total (nextL x e.core).amount).1 } e n x) tabOk rfl rfl rfl (by repeat first|assumption|exact Upd.here|apply Upd.there) rfl (Nat.le_of_ble_eq_true (by rfl)) rfl (by rfl)) rfl rfl ?_
      rintro _ _ ⟨rfl, rfl⟩
      refine SL.nil (SE.seq ?_)
      refine SC.seq (SC.region ?_)
      refine SL.val (Val.assign rfl) rfl rfl ?_
      refine SL.nil (SE.seq ?_)
      refine SC.ret ?_
      first
        | have hst := stepped_e (l := l) hc29 hc44 hc48 hc59
        | have hst := stepped_c (l := l) hc29 hc44 hc48
      refine SE.fin (rs := [.tmp 2]) rfl (RV.tmp rfl RV.nil) (()) (by rw [hst]; repeat (first | exact List.nil_sublist _ | exact List.Sublist.refl _ | apply List.Sublist.cons_cons | apply List.Sublist.cons)) (by simp [It.rids]) ?_
      rw [hst]; rfl
end
end Go.Proofs.YtejcohlpjikjpaaGreatDoor.A
/-
  What an entry does.
-/
set_option maxRecDepth 100000
set_option linter.unusedSimpArgs false
set_option linter.unusedVariables false
namespace Go.Proofs.YtejcohlpjikjpaaGreatDoor.A
open Go.RowKit

/-- The function of a step. -/
def fnAt : Nat → Nat
  | 0 => 48
  | 1 => 49
  | _ => 50
theorem fn_goes (z : Nat) : goesIn Tryz.prog (fnAt z) = true := by
  rcases z with _ | _ | z
  · kernel_rfl
  · kernel_rfl
  · kernel_rfl
abbrev fnRow (d : Nat) : List (List Abs) := [[.fn (.func 48) [ptr d] []], [.fn (.func 49) [ptr d] []], [.fn (.func 50) [ptr d] []]]
theorem fn_row {d z : Nat} (hz : z < 3) : (fnRow d)[z]? = some [.fn (.func (fnAt z)) [ptr d] []] := by
  rcases (by omega : z = 0 ∨ z = 1 ∨ z = 2) with rfl | rfl | rfl <;> rfl
theorem Lg.Few.more {l l2 : Lg} (h : l.ls.length ≤ 900 ∧ l.os.length ≤ 900) (h1 : l2.ls.length ≤ l.ls.length + 1) (h2 : l2.os = l.os) : l2.Few := ⟨by omega, by rw [h2]; omega⟩
section
variable {l : Lg} {x : Ltr} {n : Int} {e : Ent} {d : Nat} {es er : Value}
theorem dstep_s (he : isIf es) (hr : isIf er) (hm : e.mask < 4294967296) (hf : l.Few) (hl : l.Wf) (ha : i64ok e.core.a) (ht : e.core.text.size ≤ 9223372036854775807) {z : Nat} (hz : z < 3) :
    Spec Tryz.prog (fnAt z) [ptr d] (.blk d 84 (dgA (lgAt l e z) e n (oldAt l e z)) :: (globs es er)) (fun _ : Unit => [.blk d 84 (dgA (lgAt l e (z + 1)) e n (oldAt l e (z + 1)))]) (fun _ => int (erAt l e n z)) := by
  rcases (by omega : z = 0 ∨ z = 1 ∨ z = 2) with rfl | rfl | rfl
  · exact known_s hf
  · exact endorsed_s he hr hm
  · exact stepped_s hf hl (Lg.old_wf hl _) ha ht
set_option maxHeartbeats 2000000 in
theorem do_s (he : isIf es) (hr : isIf er) (hm : e.mask < 4294967296) (hq : l.ls.length ≤ 900 ∧ l.os.length ≤ 900) (hl : l.Wf) (ha : i64ok e.core.a) (ht : e.core.text.size ≤ 9223372036854775807) : Spec Tryz.prog 40 [.agg l.abs, .agg (entA e), int n] (globs es er) (fun _ : Unit => []) (fun _ => .tup [.agg (l.doF e n).1.abs, int (l.doF e n).2]) := by
  have hf : l.Few := ⟨by omega, by omega⟩
  have hrl := res_len (l := l) (e := e) (n := n)
  have hf2 : (l.res e n).1.Few := Lg.Few.more hq hrl.1 hrl.2
  refine spec_of Tryz.func40 rfl Tryz.ntmps40 rfl fun G w => ?_
  refine SC.seq (SC.region ?_)
  refine SL.eff (Eff.boxA (cs := l.abs) rfl) rfl rfl ?_
  rintro _ _ ⟨b3, rfl, rfl⟩
  refine SL.eff (Eff.boxA (cs := entA e) rfl) rfl rfl ?_
  rintro _ _ ⟨b4, rfl, rfl⟩
  refine SL.eff (Eff.alloc tabOk rfl) rfl rfl ?_
  rintro _ _ ⟨b6, rfl, rfl⟩
  refine SL.val (Val.assign rfl) rfl rfl ?_
  refine SL.nil (SE.seq ?_)
  refine SC.seq ?_
  refine SC.drawS 7 [] (.q 0 (.q 1 (.q 3 (.q 4 (.e 2 (.q 6 (.e 5 .nil))))))) (.e 7 (.q 8 (.e 9 .nil))) (by kernel_rfl) (by kernel_rfl) ?_
  refine SX.val rfl (Val.fieldAddr tabOk rfl rfl rfl rfl rfl) (by simp) rfl rfl ?_
  refine SX.hx (by first|(simp[mids,It.mids,ownPc];done)|(intro k hk;simp[mids,It.mids,ownPc] at hk ⊢;grind)) fun hx9 => ?_
  refine SX.val rfl (Val.to (C := ltrsA l.ls) (Val.load1 tabOk rfl rfl (by first|(apply Or.inl;(repeat first|assumption|exact m0|apply m1);done)|(apply Or.inr;(repeat first|assumption|exact m0|apply m1);done)) List.not_mem_nil (by rfl)) rfl) hx9 rfl rfl ?_
  refine SX.val rfl (Val.fieldAddr tabOk rfl rfl rfl rfl rfl) (by simp) rfl rfl ?_
  refine SX.val rfl (Val.to (C := .sl 3 (l.os.map Oc.abs)) (Val.load1 tabOk rfl rfl (by first|(apply Or.inl;(repeat first|assumption|exact m0|apply m1);done)|(apply Or.inr;(repeat first|assumption|exact m0|apply m1);done)) List.not_mem_nil (by rfl)) rfl) hx9 rfl rfl ?_
  refine SX.call rfl (clone_ltr_s (ltrs_ones l.ls) (by rw [List.length_map]; omega)) (by simp [mids, It.mids]) Casts.refl (by kernel_rfl) rfl rfl rfl ?_
  refine After.pure (by repeat (first | exact Reads.nil | (refine Reads.blk ?_ ?_; focus ((repeat first|assumption|exact m0|apply m1); done)) | (refine Reads.rd ?_ ?_; focus ((repeat first|assumption|exact m0|apply m1); done)) | (refine Reads.pc ?_ ?_; focus ((repeat first|assumption|exact m0|apply m1); done)) | (refine Reads.rdpc ?_ ?_; focus ((repeat first|assumption|exact m0|apply m1); done)))) (fun _ => rfl) ?_
  intro _
  refine SX.val rfl (Val.fieldAddr tabOk rfl rfl rfl rfl rfl) (by simp) rfl rfl ?_
  refine SX.call rfl (clone_oc_s (ocs_ones l.os) (by rw [List.length_map]; omega)) (by simp [mids, It.mids]) Casts.refl (by kernel_rfl) rfl rfl rfl ?_
  refine After.pure (by repeat (first | exact Reads.nil | (refine Reads.blk ?_ ?_; focus ((repeat first|assumption|exact m0|apply m1); done)) | (refine Reads.rd ?_ ?_; focus ((repeat first|assumption|exact m0|apply m1); done)) | (refine Reads.pc ?_ ?_; focus ((repeat first|assumption|exact m0|apply m1); done)) | (refine Reads.rdpc ?_ ?_; focus ((repeat first|assumption|exact m0|apply m1); done)))) (fun _ => rfl) ?_
  intro _
  refine SX.nil ?_
  refine SE.rest [b3] ?_
  refine SX.eff rfl (Eff.store (L' := l.abs) tabOk rfl rfl rfl (by repeat first|assumption|exact Upd.here|apply Upd.there) rfl (Nat.le_of_ble_eq_true (by rfl)) rfl (by rfl)) (by simp) rfl rfl ?_
  rintro _ _ ⟨rfl, rfl⟩
  refine SX.hx (by first|(simp[mids,It.mids,ownPc];done)|(intro k hk;simp[mids,It.mids,ownPc] at hk ⊢;grind)) fun hx9 => ?_
  refine SX.val rfl (Val.fieldAddr tabOk rfl rfl rfl rfl rfl) hx9 rfl rfl ?_
  refine SX.eff rfl (Eff.store (L' := l.abs) tabOk rfl rfl rfl (by repeat first|assumption|exact Upd.here|apply Upd.there) rfl (Nat.le_of_ble_eq_true (by rfl)) rfl (by rfl)) (by simp) rfl rfl ?_
  rintro _ _ ⟨rfl, rfl⟩
  refine SX.nil (SE.seq ?_)
  refine SC.seq ?_
  refine SC.seq (SC.region ?_)
  refine SL.val (Val.to (C := .agg l.abs) (Val.loadP tabOk rfl rfl rfl (by first|(apply Or.inl;(repeat first|assumption|exact m0|apply m1);done)|(apply Or.inr;(repeat first|assumption|exact m0|apply m1);done)) List.not_mem_nil (Nat.le_of_ble_eq_true (by rfl))) rfl) rfl rfl ?_
  refine SL.val (Val.fieldAddr tabOk rfl rfl rfl rfl rfl) rfl rfl ?_
  refine SL.val (Val.to (C := coreA e.core) (Val.loadP tabOk rfl rfl rfl (by first|(apply Or.inl;(repeat first|assumption|exact m0|apply m1);done)|(apply Or.inr;(repeat first|assumption|exact m0|apply m1);done)) List.not_mem_nil (Nat.le_of_ble_eq_true (by rfl))) rfl) rfl rfl ?_
  refine SL.call (lstale_s (c := e.core) hf) Casts.refl (by kernel_rfl) rfl rfl rfl ?_
  refine After.pure (by repeat (first | exact Reads.nil | (refine Reads.blk ?_ ?_; focus ((repeat first|assumption|exact m0|apply m1); done)) | (refine Reads.rd ?_ ?_; focus ((repeat first|assumption|exact m0|apply m1); done)) | (refine Reads.pc ?_ ?_; focus ((repeat first|assumption|exact m0|apply m1); done)) | (refine Reads.rdpc ?_ ?_; focus ((repeat first|assumption|exact m0|apply m1); done)))) (fun _ => rfl) ?_
  intro _
  refine SL.nil (SE.seq ?_)
  refine SC.cond rfl ?_ ?_
  · intro hc24
    refine SC.seq (SC.region ?_)
    refine SL.val (Val.to (C := .agg l.abs) (Val.loadP tabOk rfl rfl rfl (by first|(apply Or.inl;(repeat first|assumption|exact m0|apply m1);done)|(apply Or.inr;(repeat first|assumption|exact m0|apply m1);done)) List.not_mem_nil (Nat.le_of_ble_eq_true (by rfl))) rfl) rfl rfl ?_
    refine SL.eff (Eff.store (L' := l.abs) tabOk rfl rfl rfl (by repeat first|assumption|exact Upd.here|apply Upd.there) rfl (Nat.le_of_ble_eq_true (by rfl)) rfl (by exact putL_whole rfl)) rfl rfl ?_
    rintro _ _ ⟨rfl, rfl⟩
    refine SL.val (Val.assign rfl) rfl rfl ?_
    refine SL.nil (SE.seq ?_)
    refine SC.ret ?_
    refine SE.then_ (by intro h; cases h) ?_
    refine SE.fin (rs := [.cell 6 66, .tmp 7]) rfl (RV.cell rfl (RV.cellA tabOk rfl rfl (by first|(apply Or.inl;(repeat first|assumption|exact m0|apply m1);done)|(apply Or.inr;(repeat first|assumption|exact m0|apply m1);done)) (by rfl)) (RV.tmp rfl RV.nil)) (()) (by repeat first|exact s0 _|exact s1 _|apply s2|apply s3) (by simp [It.rids]) ?_
    unfold Lg.doF
    rw [if_pos hc24]
    rfl
  intro hc24
  refine SC.skip ?_
  refine SE.seq ?_
  refine SC.seq ?_
  refine SC.seq (SC.region ?_)
  refine SL.val (Val.fieldAddr tabOk rfl rfl rfl rfl rfl) rfl rfl ?_
  refine SL.val (Val.to (C := coreA e.core) (Val.loadP tabOk rfl rfl rfl (by first|(apply Or.inl;(repeat first|assumption|exact m0|apply m1);done)|(apply Or.inr;(repeat first|assumption|exact m0|apply m1);done)) List.not_mem_nil (Nat.le_of_ble_eq_true (by rfl))) rfl) rfl rfl ?_
  refine SL.val (Val.move rfl) rfl rfl ?_
  refine SL.call (ccheck_s (c := e.core) (n := n)) Casts.refl (by kernel_rfl) rfl rfl rfl ?_
  refine After.pure (by repeat (first | exact Reads.nil | (refine Reads.blk ?_ ?_; focus ((repeat first|assumption|exact m0|apply m1); done)) | (refine Reads.rd ?_ ?_; focus ((repeat first|assumption|exact m0|apply m1); done)) | (refine Reads.pc ?_ ?_; focus ((repeat first|assumption|exact m0|apply m1); done)) | (refine Reads.rdpc ?_ ?_; focus ((repeat first|assumption|exact m0|apply m1); done)))) (fun _ => rfl) ?_
  intro _
  refine SL.val (Val.assign rfl) rfl rfl ?_
  refine SL.nil (SE.seq ?_)
  refine SC.seq (SC.region ?_)
  refine SL.val (Val.move rfl) rfl rfl ?_
  refine SL.val (Val.neI rfl rfl) rfl rfl ?_
  refine SL.nil (SE.seq ?_)
  refine SC.condP rfl ?_ ?_
  · intro hc31
    refine SC.seq (SC.region ?_)
    refine SL.val (Val.to (C := .agg l.abs) (Val.loadP tabOk rfl rfl rfl (by first|(apply Or.inl;(repeat first|assumption|exact m0|apply m1);done)|(apply Or.inr;(repeat first|assumption|exact m0|apply m1);done)) List.not_mem_nil (Nat.le_of_ble_eq_true (by rfl))) rfl) rfl rfl ?_
    refine SL.val (Val.move rfl) rfl rfl ?_
    refine SL.eff (Eff.store (L' := l.abs) tabOk rfl rfl rfl (by repeat first|assumption|exact Upd.here|apply Upd.there) rfl (Nat.le_of_ble_eq_true (by rfl)) rfl (by exact putL_whole rfl)) rfl rfl ?_
    rintro _ _ ⟨rfl, rfl⟩
    refine SL.val (Val.assign rfl) rfl rfl ?_
    refine SL.nil (SE.seq ?_)
    refine SC.ret ?_
    refine SE.then_ (by intro h; cases h) ?_
    refine SE.fin (rs := [.cell 6 66, .tmp 7]) rfl (RV.cell rfl (RV.cellA tabOk rfl rfl (by first|(apply Or.inl;(repeat first|assumption|exact m0|apply m1);done)|(apply Or.inr;(repeat first|assumption|exact m0|apply m1);done)) (by rfl)) (RV.tmp rfl RV.nil)) (()) (by repeat first|exact s0 _|exact s1 _|apply s2|apply s3) (by simp [It.rids]) ?_
    unfold Lg.doF
    rw [if_neg (by rw [hc24]; decide), if_pos hc31]
    rfl
  intro hc31
  refine SC.skip ?_
  refine SE.seq ?_
  refine SC.seq (SC.region ?_)
  refine SL.val (Val.to (C := .agg l.abs) (Val.loadP tabOk rfl rfl rfl (by first|(apply Or.inl;(repeat first|assumption|exact m0|apply m1);done)|(apply Or.inr;(repeat first|assumption|exact m0|apply m1);done)) List.not_mem_nil (Nat.le_of_ble_eq_true (by rfl))) rfl) rfl rfl ?_
  refine SL.val (Val.to (C := .agg (entA e)) (Val.loadP tabOk rfl rfl rfl (by first|(apply Or.inl;(repeat first|assumption|exact m0|apply m1);done)|(apply Or.inr;(repeat first|assumption|exact m0|apply m1);done)) List.not_mem_nil (Nat.le_of_ble_eq_true (by rfl))) rfl) rfl rfl ?_
  refine SL.val (Val.move rfl) rfl rfl ?_
  refine SL.val (Val.buildS (L := dgA l e n Ltr.none) tabOk rfl rfl rfl (by rfl)) rfl rfl ?_
  refine SL.eff (Eff.boxA rfl) rfl rfl ?_
  rintro _ _ ⟨b38, rfl, rfl⟩
  refine SL.val (Val.assign rfl) rfl rfl ?_
  refine SL.nil (SE.seq ?_)
  refine SC.seq (SC.region ?_)
  refine SL.val (Val.assign rfl) rfl rfl ?_
  refine SL.nil (SE.seq ?_)
  refine SC.cutS (ι := Ltr) (fun z => (.blk b38 84 (dgA (l.res e n).1 e n z) :: .blk b6 66 (zabs [.int .i64 0, .int .i64 0, .slice none 0 0, .slice none 0 0]) :: .blk b4 51 (entA e) :: (globs es er))) (fun z => [(4, ptr b4), (6, ptr b6), (9, ptr b38), (10, int (l.res e n).2)]) (fun z => True) ?_ ?_
  · skip
    refine SC.seq (SC.region ?_)
    refine SL.val (Val.move rfl) rfl rfl ?_
    refine SL.val (Val.makeFunc rfl rfl) rfl rfl ?_
    refine SL.val (Val.move rfl) rfl rfl ?_
    refine SL.val (Val.makeFunc rfl rfl) rfl rfl ?_
    refine SL.val (Val.move rfl) rfl rfl ?_
    refine SL.val (Val.makeFunc rfl rfl) rfl rfl ?_
    refine SL.eff (Eff.buildSl tabOk Tryz.underlying86 rfl rfl rfl rfl rfl rfl rfl) rfl rfl ?_
    rintro _ _ ⟨rfl, rfl⟩
    refine SL.val (Val.to (C := int 3) (Val.lenSl rfl Tryz.underlying86 (by rfl)) rfl) rfl rfl ?_
    refine SL.val (Val.move rfl) rfl rfl ?_
    refine SL.nil (SE.seq ?_)
    refine SC.block ?_
    refine SC.loop (ι := Nat) (fun z => (.blk b38 84 (dgA (lgAt l e z) e n (oldAt l e z)) :: .blk b6 66 (zabs [.int .i64 0, .int .i64 0, .slice none 0 0, .slice none 0 0]) :: .blk b4 51 (entA e) :: (globs es er))) (fun z => [(4, ptr b4), (6, ptr b6), (9, ptr b38), (10, int 0), (45, .sl 1 (fnRow b38)), (46, int 3), (47, int (z : Nat))]) (fun z => z ≤ 3 ∧ ∀ j, j < z → erAt l e n j = 0) (fun z => 3 - z) (0) (⟨by omega, fun j hj => by omega⟩) (by exact ⟨rfl, rfl, rfl, rfl, rfl, rfl, rfl, trivial⟩) (by repeat first|exact s0 _|exact s1 _|apply s2|apply s3) ?_
    intro z hz
    refine SC.seq (SC.region ?_)
    refine SL.val (Val.ltI rfl rfl) rfl rfl ?_
    refine SL.nil (SE.seq ?_)
    refine SC.seq ?_
    refine SC.condP rfl ?_ ?_
    rotate_left
    · intro hc48
      refine SC.exit ?_
      refine SE.then_ (by intro h; cases h) ?_
      refine SE.then_ (by intro h; cases h) ?_
      refine SE.exit ?_
      obtain rfl : z = 3 := by omega
      have hst := res_end (l := l) (e := e) (n := n) hz.2
      refine SE.meet (oldAt l e 3) (trivial) (by exact ⟨rfl, rfl, rfl, congrArg (fun k => some (int k)) (congrArg Prod.snd hst).symm, trivial⟩) (by rw [hst]; repeat (first | exact List.nil_sublist _ | exact List.Sublist.refl _ | apply List.Sublist.cons_cons | apply List.Sublist.cons))
    intro hc48
    have hz3 : z < 3 := by omega
    refine SC.skip ?_
    refine SE.seq ?_
    refine SC.seq ?_
    refine SC.block ?_
    refine SC.seq (SC.region ?_)
    refine SL.val (Val.indexSl (q := z) tabOk Tryz.underlying86 rfl rfl rfl rfl (fn_row hz3) rfl rfl) rfl rfl ?_
    refine SL.val (Val.load1R tabOk rfl rfl rfl) rfl rfl ?_
    refine SL.val (Val.assign rfl) rfl rfl ?_
    refine SL.nil (SE.seq ?_)
    refine SC.seq (SC.region ?_)
    refine SL.val (Val.move rfl) rfl rfl ?_
    refine SL.callv (dstep_s (l := l) (e := e) (n := n) he hr hm hf hl ha ht hz3) rfl Casts.refl (fn_goes z) rfl rfl rfl ?_
    refine After.oneR (ys := (globs es er)) rfl (by repeat first|assumption|exact m0|apply m1) (by intro y hy; simp only [globs, List.mem_cons, List.not_mem_nil, or_false] at hy; rcases hy with rfl | rfl | rfl <;> exact ⟨by repeat first|assumption|exact m0|apply m1, by intro h; cases h⟩) rfl (fun _ => rfl) ?_
    intro _
    refine ⟨_, (by repeat first|assumption|exact Upd.here|apply Upd.there), ?_⟩
    refine SL.val (Val.assign rfl) rfl rfl ?_
    refine SL.nil (SE.seq ?_)
    refine SC.seq (SC.region ?_)
    refine SL.val (Val.move rfl) rfl rfl ?_
    refine SL.val (Val.neI rfl rfl) rfl rfl ?_
    refine SL.nil (SE.seq ?_)
    refine SC.condP rfl ?_ ?_
    · intro hc54
      refine SC.exit ?_
      refine SE.exit_ rfl ?_
      refine SE.then_ (by intro h; cases h) ?_
      refine SE.then_ (by intro h; cases h) ?_
      refine SE.exit ?_
      have hst := res_stop (l := l) (n := n) hz3 hz.2 hc54
      rw [lgAt_stop hz3 hc54]
      refine SE.meet (oldAt l e (z + 1)) (trivial) (by exact ⟨rfl, rfl, rfl, congrArg (fun k => some (int k)) (congrArg Prod.snd hst).symm, trivial⟩) (by rw [hst]; repeat (first | exact List.nil_sublist _ | exact List.Sublist.refl _ | apply List.Sublist.cons_cons | apply List.Sublist.cons))
    intro hc54
    refine SC.skip ?_
    refine SE.inBlock ?_
    refine SE.seq ?_
    refine SC.region ?_
    first
      | refine SL.val (Val.addI rfl rfl (by simp only [InR, lo, hi]; omega)) rfl rfl ?_
      | refine SL.val (Val.addW rfl rfl) rfl rfl ?_
    refine SL.val (Val.move rfl) rfl rfl ?_
    refine SL.nil ?_
    have her : erAt l e n z = 0 := Classical.byContradiction hc54
    refine SE.round (z + 1) (by first | omega | (dsimp only; omega)) (⟨by omega, fun j hj => by rcases Nat.lt_or_ge j z with h1 | h1; exact hz.2 j h1; obtain rfl : j = z := (by omega); exact her⟩) (by exact ⟨rfl, rfl, rfl, congrArg (fun k => some (int k)) her, rfl, rfl, rfl, trivial⟩) (by repeat first|exact s0 _|exact s1 _|apply s2|apply s3)
  · intro z hz
    refine SC.seq ?_
    refine SC.known (p := b38 ∉ [b6] ∧ b4 ∉ [b6]) (fun _ _ h => by
        have h1 := h.mem.nodup
        simp [mids, It.mids] at h1 ⊢
        grind) fun hX => ?_
    refine SC.draw [b6] (.q 0 (.q 1 (.q 2 (.q 3 (.q 4 (.q 5 (.q 6 (.q 7 (.q 8 (.q 9 (.q 10 (.q 11 (.q 13 (.e 12 (.e 14 (.q 15 .nil)))))))))))))))) (by kernel_rfl) (by kernel_rfl) ?_
    refine SX.hx (by first|(simp[mids,It.mids,ownPc];done)|(intro k hk;simp[mids,It.mids,ownPc] at hk ⊢;grind)) fun hx9 => ?_
    refine SX.val rfl (Val.move rfl) hx9 rfl rfl ?_
    refine SX.val rfl (Val.nilCheck rfl) hx9 rfl rfl ?_
    refine SX.val rfl (Val.fieldAddr tabOk rfl rfl rfl rfl rfl) hx9 rfl rfl ?_
    refine SX.val rfl (Val.to (C := .agg (l.res e n).1.abs) (Val.loadP tabOk rfl rfl rfl (by first|(apply Or.inl;(repeat first|assumption|exact m0|apply m1);done)|(apply Or.inr;(repeat first|assumption|exact m0|apply m1);done)) (by first | exact hX.1 | exact hX.2) (Nat.le_of_ble_eq_true (by rfl))) rfl) hx9 rfl rfl ?_
    refine SX.val rfl (Val.fieldAddr tabOk rfl rfl rfl rfl rfl) hx9 rfl rfl ?_
    refine SX.val rfl (Val.fieldAddr tabOk rfl rfl rfl rfl rfl) hx9 rfl rfl ?_
    refine SX.val rfl (Val.to (C := int e.core.client) (Val.load1 tabOk rfl rfl (by first|(apply Or.inl;(repeat first|assumption|exact m0|apply m1);done)|(apply Or.inr;(repeat first|assumption|exact m0|apply m1);done)) (by first | exact hX.1 | exact hX.2) (by rfl)) rfl) hx9 rfl rfl ?_
    refine SX.val rfl (Val.fieldAddr tabOk rfl rfl rfl rfl rfl) hx9 rfl rfl ?_
    refine SX.val rfl (Val.fieldAddr tabOk rfl rfl rfl rfl rfl) hx9 rfl rfl ?_
    refine SX.val rfl (Val.to (C := int e.core.stamp) (Val.load1 tabOk rfl rfl (by first|(apply Or.inl;(repeat first|assumption|exact m0|apply m1);done)|(apply Or.inr;(repeat first|assumption|exact m0|apply m1);done)) (by first | exact hX.1 | exact hX.2) (by rfl)) rfl) hx9 rfl rfl ?_
    refine SX.val rfl (Val.move rfl) hx9 rfl rfl ?_
    refine SX.val rfl (Val.buildS (L := Oc.abs ⟨e.core.client, e.core.stamp, (l.res e n).2⟩) tabOk rfl rfl rfl (by rfl)) hx9 rfl rfl ?_
    refine SX.val rfl (Val.move rfl) hx9 rfl rfl ?_
    refine SX.call rfl (ltold_s (l := (l.res e n).1) (o := ⟨e.core.client, e.core.stamp, (l.res e n).2⟩) hf2) (by simp [mids, It.mids]) Casts.refl (by kernel_rfl) rfl rfl rfl ?_
    refine After.pure (by repeat (first | exact Reads.nil | (refine Reads.blk ?_ ?_; focus ((repeat first|assumption|exact m0|apply m1); done)) | (refine Reads.rd ?_ ?_; focus ((repeat first|assumption|exact m0|apply m1); done)) | (refine Reads.pc ?_ ?_; focus ((repeat first|assumption|exact m0|apply m1); done)) | (refine Reads.rdpc ?_ ?_; focus ((repeat first|assumption|exact m0|apply m1); done)))) (fun _ => rfl) ?_
    intro _
    refine SX.eff rfl (Eff.store (L' := ((l.res e n).1.told ⟨e.core.client, e.core.stamp, (l.res e n).2⟩).abs) tabOk rfl rfl rfl (by repeat first|assumption|exact Upd.here|apply Upd.there) rfl (Nat.le_of_ble_eq_true (by rfl)) rfl (by exact putL_whole rfl)) (by simp) rfl rfl ?_
    rintro _ _ ⟨rfl, rfl⟩
    refine SX.hx (by first|(simp[mids,It.mids,ownPc];done)|(intro k hk;simp[mids,It.mids,ownPc] at hk ⊢;grind)) fun hx9 => ?_
    refine SX.val rfl (Val.assign rfl) hx9 rfl rfl ?_
    refine SX.nil (SE.seq ?_)
    refine SC.ret ?_
    refine SE.fin (rs := [.cell 6 66, .tmp 7]) rfl (RV.cell rfl (RV.cellA tabOk rfl rfl (by first|(apply Or.inl;(repeat first|assumption|exact m0|apply m1);done)|(apply Or.inr;(repeat first|assumption|exact m0|apply m1);done)) (by rfl)) (RV.tmp rfl RV.nil)) (()) (by repeat first|exact s0 _|exact s1 _|apply s2|apply s3) (by simp [It.rids]) ?_
    unfold Lg.doF
    rw [if_neg (by rw [hc24]; decide), if_neg hc31]
    rfl
end
end Go.Proofs.YtejcohlpjikjpaaGreatDoor.A
/-
  Batches; what may be asked about.
-/
set_option maxRecDepth 100000
set_option linter.unusedSimpArgs false
set_option linter.unusedVariables false
namespace Go.Proofs.YtejcohlpjikjpaaGreatDoor.A
open Go.RowKit

section
variable {l a b : Lg} {x : Ltr} {o : Oc} {k n : Int} {s : ByteArray} {c : Core} {e : Ent} {p : Nat} {es : List Ent} {e1 e2 : Value}
set_option maxHeartbeats 2000000 in
theorem lfold_s (he : isIf e1) (hr : isIf e2) (hes : ∀ e ∈ es, EnIns e) (hl : l.Wf) (h1 : l.ls.length ≤ 500) (h2 : l.os.length ≤ 500) (h3 : es.length ≤ 300) (hsq : l.seq ≤ 1000000000) : Spec Tryz.prog 35 [.agg l.abs, entsR es, int n] (globs e1 e2) (fun _ : Unit => []) (fun _ => .tup [.agg (l.foldF es n).1.abs, errsR (l.foldF es n).2]) := by
  have hseq0 : -9223372036854775808 ≤ l.seq ∧ l.seq ≤ 9223372036854775807 := hl.seq
  have hseq1 := goes_seq n l es
  refine spec_of Tryz.func35 rfl Tryz.ntmps35 rfl fun G w => ?_
  refine SC.seq (SC.region ?_)
  refine SL.eff (Eff.boxA (cs := l.abs) rfl) rfl rfl ?_
  rintro _ _ ⟨b3, rfl, rfl⟩
  refine SL.eff (Eff.alloc tabOk rfl) rfl rfl ?_
  rintro _ _ ⟨b6, rfl, rfl⟩
  refine SL.val (Val.assign rfl) rfl rfl ?_
  refine SL.nil (SE.seq ?_)
  refine SC.seq (SC.region ?_)
  refine SL.val (Val.move rfl) rfl rfl ?_
  first
    | refine SL.val (Val.lenSl rfl Tryz.underlying33 (List.length_map _)) rfl rfl ?_
    | refine SL.val (Val.lenOwn rfl (by repeat first|assumption|exact m0|apply m1) Tryz.underlying33 (List.length_map _)) rfl rfl ?_
    | refine SL.val (Val.lenNil rfl Tryz.underlying33) rfl rfl ?_
  refine SL.eff (Eff.makeOwn (m := es.length) tabOk Tryz.underlying59 rfl rfl rfl rfl rfl rfl (by unfold maxLen; omega) (by rw [show Tryz.prog.bytesOf 35 = 8 by kernel_rfl]; omega)) rfl rfl ?_
  rintro _ _ ⟨v13, rfl, rfl⟩
  rw [show List.replicate es.length [Abs.v (Value.int .i64 0)] = errsA n l es 0 from (List.nil_append _).symm]
  refine SL.val (Val.assign rfl) rfl rfl ?_
  refine SL.nil (SE.seq ?_)
  refine SC.seq ?_
  refine SC.seq (SC.region ?_)
  refine SL.val (Val.move rfl) rfl rfl ?_
  first
    | refine SL.val (Val.lenSl rfl Tryz.underlying33 (List.length_map _)) rfl rfl ?_
    | refine SL.val (Val.lenOwn rfl (by repeat first|assumption|exact m0|apply m1) Tryz.underlying33 (List.length_map _)) rfl rfl ?_
    | refine SL.val (Val.lenNil rfl Tryz.underlying33) rfl rfl ?_
  refine SL.val (Val.move rfl) rfl rfl ?_
  refine SL.nil (SE.seq ?_)
  refine SC.block ?_
  refine SC.loop (ι := Nat) (fun z => (own 35 1 v13 (errsA n l es (z)) :: .blk b6 66 (zabs [.int .i64 0, .int .i64 0, .slice none 0 0, .slice none 0 0]) :: .blk b3 66 (Lg.goes n l (es.take (z))).1.abs :: (globs e1 e2))) (fun z => [(2, int n), (3, ptr b3), (6, ptr b6), (8, .v v13), (14, entsR es), (15, int (es.length : Nat)), (16, int (z : Nat))]) (fun z => z ≤ es.length) (fun z => es.length - z) (0) (Nat.zero_le _) (by exact ⟨rfl, rfl, rfl, rfl, rfl, rfl, rfl, trivial⟩) (by repeat first|exact s0 _|exact s1 _|apply s2|apply s3) ?_
  intro z hz
  refine SC.seq (SC.region ?_)
  refine SL.val (Val.ltI rfl rfl) rfl rfl ?_
  refine SL.nil (SE.seq ?_)
  refine SC.seq ?_
  refine SC.condP rfl ?_ ?_
  rotate_left
  · intro hc17
    obtain rfl : z = es.length := by omega
    refine SC.exit ?_
    refine SE.then_ (by intro h; cases h) ?_
    refine SE.then_ (by intro h; cases h) ?_
    refine SE.exit ?_
    refine SE.seq ?_
    refine SC.seq ?_
    rw [errs_done]
    have htk : es.take es.length = es := List.take_length
    rw [htk]
    refine SC.region ?_
    refine SL.val (Val.fieldAddr tabOk rfl rfl rfl rfl rfl) rfl rfl ?_
    refine SL.val (Val.to (C := int (Lg.goes n l es).1.seq) (Val.load1 tabOk rfl rfl (by first|(apply Or.inl;(repeat first|assumption|exact m0|apply m1);done)|(apply Or.inr;(repeat first|assumption|exact m0|apply m1);done)) List.not_mem_nil (by rfl)) rfl) rfl rfl ?_
    refine SL.val (Val.addI rfl rfl (by simp only [InR, lo, hi]; omega)) rfl rfl ?_
    refine SL.val (Val.fieldAddr tabOk rfl rfl rfl rfl rfl) rfl rfl ?_
    refine SL.eff (Eff.store (L' := (l.foldF es n).1.abs) tabOk rfl rfl rfl (by repeat first|assumption|exact Upd.here|apply Upd.there) rfl (Nat.le_of_ble_eq_true (by rfl)) rfl (by rfl)) rfl rfl ?_
    rintro _ _ ⟨rfl, rfl⟩
    refine SL.nil (SE.seq ?_)
    refine SC.seq (SC.region ?_)
    refine SL.val (Val.to (C := .agg (l.foldF es n).1.abs) (Val.loadP tabOk rfl rfl rfl (by first|(apply Or.inl;(repeat first|assumption|exact m0|apply m1);done)|(apply Or.inr;(repeat first|assumption|exact m0|apply m1);done)) List.not_mem_nil (Nat.le_of_ble_eq_true (by rfl))) rfl) rfl rfl ?_
    refine SL.val (Val.move rfl) rfl rfl ?_
    refine SL.eff (Eff.store (L' := (l.foldF es n).1.abs) tabOk rfl rfl rfl (by repeat first|assumption|exact Upd.here|apply Upd.there) rfl (Nat.le_of_ble_eq_true (by rfl)) rfl (by exact putL_whole rfl)) rfl rfl ?_
    rintro _ _ ⟨rfl, rfl⟩
    refine SL.val (Val.assign rfl) rfl rfl ?_
    refine SL.nil (SE.seq ?_)
    refine SC.ret ?_
    refine SE.freeze [] (t := 7) rfl rfl ?_
    refine SE.fin (rs := [.cell 6 66, .tmp 7]) rfl (RV.cell rfl (RV.cellA tabOk rfl rfl (by first|(apply Or.inl;(repeat first|assumption|exact m0|apply m1);done)|(apply Or.inr;(repeat first|assumption|exact m0|apply m1);done)) (by rfl)) (RV.tmp rfl RV.nil)) (()) (by repeat first|exact s0 _|exact s1 _|apply s2|apply s3) (by simp [It.rids]) ?_
    exact rfl
  intro hc17
  have hlt : z < es.length := by omega
  have hen := hes _ (List.getElem_mem hlt)
  have hgf := goes_few n l (es.take z)
  rw [List.length_take] at hgf
  refine SC.skip ?_
  refine SE.seq ?_
  refine SC.seq ?_
  refine SC.block ?_
  refine SC.seq (SC.region ?_)
  refine SL.val (Val.move rfl) rfl rfl ?_
  refine SL.val (Val.indexSl tabOk Tryz.underlying33 rfl rfl rfl rfl (at_map (by omega)) rfl rfl) rfl rfl ?_
  refine SL.val (Val.loadAR tabOk rfl rfl rfl (by rfl)) rfl rfl ?_
  refine SL.eff (Eff.alloc tabOk rfl) rfl rfl ?_
  rintro _ _ ⟨b10, rfl, rfl⟩
  refine SL.val (Val.assign rfl) rfl rfl ?_
  refine SL.eff (Eff.store (L' := entA (es[z]'hlt)) tabOk rfl rfl rfl (by repeat first|assumption|exact Upd.here|apply Upd.there) rfl (Nat.le_of_ble_eq_true (by rfl)) rfl (by exact putL_whole rfl)) rfl rfl ?_
  rintro _ _ ⟨rfl, rfl⟩
  refine SL.nil (SE.seq ?_)
  refine SC.region ?_
  refine SL.val (Val.move rfl) rfl rfl ?_
  refine SL.val (Val.move rfl) rfl rfl ?_
  refine SL.val (Val.to (C := .agg (Lg.goes n l (es.take (z))).1.abs) (Val.loadP tabOk rfl rfl rfl (by first|(apply Or.inl;(repeat first|assumption|exact m0|apply m1);done)|(apply Or.inr;(repeat first|assumption|exact m0|apply m1);done)) List.not_mem_nil (Nat.le_of_ble_eq_true (by rfl))) rfl) rfl rfl ?_
  refine SL.val (Val.to (C := .agg (entA (es[z]'hlt))) (Val.loadP tabOk rfl rfl rfl (by first|(apply Or.inl;(repeat first|assumption|exact m0|apply m1);done)|(apply Or.inr;(repeat first|assumption|exact m0|apply m1);done)) List.not_mem_nil (Nat.le_of_ble_eq_true (by rfl))) rfl) rfl rfl ?_
  refine SL.val (Val.move rfl) rfl rfl ?_
  refine SL.call (do_s (l := (Lg.goes n l (es.take (z))).1) (e := (es[z]'hlt)) (n := n) he hr hen.mask ⟨by omega, by omega⟩ (goes_wf n hl) hen.a (by have := hen.text; unfold maxLen at this; omega)) Casts.refl (by kernel_rfl) rfl rfl rfl ?_
  refine After.pure (by repeat (first | exact Reads.nil | (refine Reads.blk ?_ ?_; focus ((repeat first|assumption|exact m0|apply m1); done)) | (refine Reads.rd ?_ ?_; focus ((repeat first|assumption|exact m0|apply m1); done)) | (refine Reads.pc ?_ ?_; focus ((repeat first|assumption|exact m0|apply m1); done)) | (refine Reads.rdpc ?_ ?_; focus ((repeat first|assumption|exact m0|apply m1); done)))) (fun _ => rfl) ?_
  intro _
  refine SL.val (Val.move rfl) rfl rfl ?_
  refine SL.val (Val.extract rfl rfl) rfl rfl ?_
  refine SL.val (Val.extract rfl rfl) rfl rfl ?_
  refine SL.eff (Eff.store (L' := (((Lg.goes n l (es.take (z))).1.doF (es[z]'hlt) n)).1.abs) tabOk rfl rfl rfl (by repeat first|assumption|exact Upd.here|apply Upd.there) rfl (Nat.le_of_ble_eq_true (by rfl)) rfl (by exact putL_whole rfl)) rfl rfl ?_
  rintro _ _ ⟨rfl, rfl⟩
  refine SL.val (Val.indexOwn (q := z) tabOk Tryz.underlying59 rfl rfl (.inl (by repeat first|assumption|exact m0|apply m1)) rfl rfl (by rw [errs_len (by omega)]; exact hlt) rfl rfl) rfl rfl ?_
  refine SL.eff (Eff.setOwn (q := z) (ys := [int (((Lg.goes n l (es.take (z))).1.doF (es[z]'hlt) n)).2]) tabOk rfl rfl rfl (by repeat first|assumption|exact Upd.here|apply Upd.there) rfl rfl rfl (by rw [errs_len (by omega)]; exact hlt) rfl) rfl rfl ?_
  rintro _ _ ⟨rfl, rfl⟩
  refine SL.nil ?_
  refine SE.inBlock ?_
  refine SE.seq ?_
  refine SC.region ?_
  first
    | refine SL.val (Val.addI rfl rfl (by simp only [InR, lo, hi]; omega)) rfl rfl ?_
    | refine SL.val (Val.addW rfl rfl) rfl rfl ?_
  refine SL.val (Val.move rfl) rfl rfl ?_
  refine SL.nil ?_
  refine SE.round (z + 1) (by first | omega | (dsimp only; omega)) (by first | omega | (dsimp only; omega)) (by exact ⟨rfl, rfl, rfl, rfl, rfl, rfl, rfl, trivial⟩) (by rw [errs_set hlt, goes_take hlt]; repeat (first | exact List.nil_sublist _ | exact List.Sublist.refl _ | apply List.Sublist.cons_cons | apply List.Sublist.cons))
end
end Go.Proofs.YtejcohlpjikjpaaGreatDoor.A
/-
  Agree: where, and how often.
-/
set_option maxRecDepth 100000
set_option linter.unusedSimpArgs false
set_option linter.unusedVariables false
namespace Go.Proofs.YtejcohlpjikjpaaGreatDoor.A
open Go.RowKit

def hitE (client stamp : Int) (p : Ev × ByteArray) : Bool := decide (p.1.client = client ∧ p.1.stamp = stamp ∧ p.1.result ≠ 10)
/-- Where a request is done, and what it comes to. -/
def hitsE (client stamp : Int) (P : List (Ev × ByteArray)) : List (Int × Int) := (P.filter (hitE client stamp)).map fun p => (p.1.seq, p.1.result)
theorem hitsE_hit {client stamp : Int} {p : Ev × ByteArray} {P : List (Ev × ByteArray)} (h : p.1.client = client ∧ p.1.stamp = stamp ∧ p.1.result ≠ 10) : hitsE client stamp (p :: P) = (p.1.seq, p.1.result) :: hitsE client stamp P := by
  unfold hitsE
  rw [List.filter_cons_of_pos (show hitE client stamp p = true from decide_eq_true h)]
  rfl
theorem hitsE_miss {client stamp : Int} {p : Ev × ByteArray} {P : List (Ev × ByteArray)} (h : ¬ (p.1.client = client ∧ p.1.stamp = stamp ∧ p.1.result ≠ 10)) : hitsE client stamp (p :: P) = hitsE client stamp P := by
  unfold hitsE
  rw [List.filter_cons_of_neg (by show ¬ decide _ = true; rw [decide_eq_false h]; decide)]
def tellS {S : Type} (tell : S → Int → Int → S × Bool) : S → List (Int × Int) → S
  | s, [] => s
  | s, x :: l => if (tell s x.1 x.2).2 = true then tellS tell (tell s x.1 x.2).1 l else (tell s x.1 x.2).1
theorem doF_err64 {l : Lg} {e : Ent} {n : Int} : i64ok (l.doF e n).2 := by
  unfold Lg.doF
  split
  · show i64ok 10; unfold i64ok; omega
  · split
    · show i64ok (e.core.check n)
      unfold Core.check
      repeat' split
      all_goals (unfold i64ok; omega)
    · exact small_i64 res_err
section
variable {S Hd : Type} {C : S → Hd → Pc} {tell : S → Int → Int → S × Bool} {Inv : Nat → S → Prop} {k : Nat} {caps : List Abs} {s0 : S} {v0 : Hd} {n client stamp : Int} {h : List (List Ent)} {e1 e2 : Value}
set_option maxHeartbeats 4000000 in
theorem done_s (he : isIf e1) (hr : isIf e2) (g1 : goesIn Tryz.prog k = true) (hE : ∀ i s v (q e : Int), Inv i s → i ≤ 400 → 1 ≤ q → q ≤ 1000 → i64ok e → Spec Tryz.prog k (int q :: int e :: caps) [.pc (C s v)] (fun r : Hd => [.pc (C (tell s q e).1 r)]) (fun _ => boo (tell s q e).2)) (hE2 : ∀ i s (q e : Int), Inv i s → Inv (i + 1) (tell s q e).1) (h0 : Inv 0 s0) (hh : HisIns h) (hro : ∀ b ∈ h, b.length ≤ 10) (hn : h.length ≤ 40) : Spec Tryz.prog 30 [histA h, int n, int client, int stamp, .fn (.func k) [] caps] (.pc (C s0 v0) :: (globs e1 e2)) (fun r : Hd => [.pc (C (tellS tell s0 (hitsE client stamp (evsH n 0 Lg.zero h))) r)]) (fun _ => .tup []) := by
  refine spec_of Tryz.func30 rfl Tryz.ntmps30 rfl fun G w => ?_
  refine SC.seq (SC.region ?_)
  refine SL.val (Val.buildS tabOk rfl rfl rfl rfl) rfl rfl ?_
  refine SL.eff (Eff.alloc tabOk rfl) rfl rfl ?_
  rintro _ _ ⟨b10, rfl, rfl⟩
  refine SL.eff (Eff.store (L' := (zabs [.int .i64 0, .int .i64 0, .slice none 0 0, .slice none 0 0])) tabOk rfl rfl rfl (by repeat first|assumption|exact Upd.here|apply Upd.there) rfl (Nat.le_of_ble_eq_true (by rfl)) rfl (by exact putL_whole rfl)) rfl rfl ?_
  rintro _ _ ⟨rfl, rfl⟩
  refine SL.re [] (Re.cast (ds := Lg.zero.abs) (Casts.keep (Casts.keep (Casts.nils (s := 6) (Casts.nils (s := 3) Casts.refl))))) rfl ?_
  refine SL.nil (SE.seq ?_)
  refine SC.seq (SC.region ?_)
  refine SL.val (Val.move rfl) rfl rfl ?_
  first
    | refine SL.val (Val.lenSl rfl Tryz.underlying26 (List.length_map _)) rfl rfl ?_
    | refine SL.val (Val.lenOwn rfl (by repeat first|assumption|exact m0|apply m1) Tryz.underlying26 (List.length_map _)) rfl rfl ?_
    | refine SL.val (Val.lenNil rfl Tryz.underlying26) rfl rfl ?_
  refine SL.val (Val.move rfl) rfl rfl ?_
  refine SL.nil (SE.seq ?_)
  refine SC.block ?_
  refine SC.rowLe (i := 17) rfl fun hrow => ?_
  rw [List.length_map] at hrow
  unfold maxLen at hrow
  refine SC.loop (ι := Nat × S × Lg × Hd) (fun z => (.blk b10 66 z.2.2.1.abs :: .pc (C z.2.1 z.2.2.2) :: (globs e1 e2))) (fun z => [(1, int n), (2, int client), (3, int stamp), (4, .fn (.func k) [] caps), (10, ptr b10), (17, histA h), (18, int (h.length : Nat)), (19, int (z.1 : Nat))]) (fun z => z.1 ≤ h.length ∧ tellS tell z.2.1 (hitsE client stamp (evsH n z.1 z.2.2.1 (h.drop z.1))) = (tellS tell s0 (hitsE client stamp (evsH n 0 Lg.zero h))) ∧ (∃ i, i ≤ 10 * z.1 ∧ Inv i z.2.1) ∧ z.2.2.1.ls.length ≤ 10 * z.1 ∧ z.2.2.1.os.length ≤ 10 * z.1 ∧ z.2.2.1.Ins) (fun z => h.length - z.1) (0, s0, Lg.zero, v0) (⟨Nat.zero_le _, rfl, ⟨0, Nat.le_refl _, h0⟩, Nat.le_refl _, Nat.le_refl _, Lg.zero_ins⟩) (by exact ⟨rfl, rfl, rfl, rfl, rfl, rfl, rfl, rfl, trivial⟩) (by repeat first|exact s0 _|exact s1 _|apply s2|apply s3) ?_
  intro z hz
  refine SC.seq (SC.region ?_)
  refine SL.val (Val.ltI rfl rfl) rfl rfl ?_
  refine SL.nil (SE.seq ?_)
  refine SC.seq ?_
  refine SC.condP rfl ?_ ?_
  rotate_left
  · intro hc20
    refine SC.exit ?_
    refine SE.then_ (by intro h; cases h) ?_
    refine SE.then_ (by intro h; cases h) ?_
    refine SE.exit ?_
    have hfe := hz.2.1
    rw [show h.drop z.1 = [] from List.drop_eq_nil_of_le (by omega)] at hfe
    have hfe : z.2.1 = (tellS tell s0 (hitsE client stamp (evsH n 0 Lg.zero h))) := hfe
    refine SE.finN (rs := []) rfl RV.nil (z.2.2.2) (by rw [← hfe]; repeat (first | exact List.nil_sublist _ | exact List.Sublist.refl _ | apply List.Sublist.cons_cons | apply List.Sublist.cons)) (by simp [It.rids]) ?_
    exact rfl
  intro hc20
  have hzl : z.1 < h.length := by omega
  have hbl := hro _ (List.getElem_mem hzl)
  refine SC.skip ?_
  refine SE.seq ?_
  refine SC.seq ?_
  refine SC.block ?_
  refine SC.seq (SC.region ?_)
  refine SL.val (Val.move rfl) rfl rfl ?_
  refine SL.val (Val.indexSl tabOk Tryz.underlying26 rfl rfl rfl rfl (at_map (by omega)) rfl rfl) rfl rfl ?_
  refine SL.val (Val.load1R tabOk rfl rfl rfl) rfl rfl ?_
  refine SL.val (Val.assign rfl) rfl rfl ?_
  refine SL.val (Val.assign rfl) rfl rfl ?_
  refine SL.nil (SE.seq ?_)
  refine SC.seq (SC.region ?_)
  refine SL.val (Val.move rfl) rfl rfl ?_
  first
    | refine SL.val (Val.lenSl rfl Tryz.underlying33 (List.length_map _)) rfl rfl ?_
    | refine SL.val (Val.lenOwn rfl (by repeat first|assumption|exact m0|apply m1) Tryz.underlying33 (List.length_map _)) rfl rfl ?_
    | refine SL.val (Val.lenNil rfl Tryz.underlying33) rfl rfl ?_
  refine SL.val (Val.move rfl) rfl rfl ?_
  refine SL.nil (SE.seq ?_)
  refine SC.block ?_
  refine SC.rowLe (i := 24) rfl fun hro2 => ?_
  rw [List.length_map] at hro2
  unfold maxLen at hro2
  refine SC.loop (ι := Nat × S × Lg × Hd) (fun y => (.blk b10 66 y.2.2.1.abs :: .pc (C y.2.1 y.2.2.2) :: (globs e1 e2))) (fun y => [(1, int n), (2, int client), (3, int stamp), (4, .fn (.func k) [] caps), (10, ptr b10), (17, histA h), (18, int (h.length : Nat)), (19, int (z.1 : Nat)), (11, int (z.1 : Nat)), (24, entsR (h[z.1]'hzl)), (25, int ((h[z.1]'hzl).length : Nat)), (26, int (y.1 : Nat))]) (fun y => y.1 ≤ (h[z.1]'hzl).length ∧ tellS tell y.2.1 (hitsE client stamp (evsB n z.1 y.2.2.1 ((h[z.1]'hzl).drop y.1) ++ evsH n (z.1 + 1) (lgB n y.2.2.1 ((h[z.1]'hzl).drop y.1)) (h.drop (z.1 + 1)))) = (tellS tell s0 (hitsE client stamp (evsH n 0 Lg.zero h))) ∧ (∃ i, i ≤ 10 * z.1 + y.1 ∧ Inv i y.2.1) ∧ y.2.2.1.ls.length ≤ 10 * z.1 + y.1 ∧ y.2.2.1.os.length ≤ 10 * z.1 + y.1 ∧ y.2.2.1.Ins) (fun y => (h[z.1]'hzl).length - y.1) (0, z.2) (⟨Nat.zero_le _, by have h9 := hz.2.1; rw [evsH_step hzl] at h9; exact h9, hz.2.2.1, hz.2.2.2.1, hz.2.2.2.2.1, hz.2.2.2.2.2⟩) (by exact ⟨rfl, rfl, rfl, rfl, rfl, rfl, rfl, rfl, rfl, rfl, rfl, rfl, trivial⟩) (by repeat first|exact s0 _|exact s1 _|apply s2|apply s3) ?_
  intro y hy
  refine SC.seq (SC.region ?_)
  refine SL.val (Val.ltI rfl rfl) rfl rfl ?_
  refine SL.nil (SE.seq ?_)
  refine SC.seq ?_
  refine SC.condP rfl ?_ ?_
  rotate_left
  · intro hc27
    obtain ⟨q0, q1, ⟨i9, q3, q4⟩, q5, q6, q7⟩ := hy
    rw [show (h[z.1]'hzl).drop y.1 = [] from List.drop_eq_nil_of_le (by omega)] at q1
    refine SC.exit ?_
    refine SE.then_ (by intro h; cases h) ?_
    refine SE.then_ (by intro h; cases h) ?_
    refine SE.exit ?_
    refine SE.inBlock ?_
    refine SE.seq ?_
    refine SC.region ?_
    first
      | refine SL.val (Val.addI rfl rfl (by simp only [InR, lo, hi]; omega)) rfl rfl ?_
      | refine SL.val (Val.addW rfl rfl) rfl rfl ?_
    refine SL.val (Val.move rfl) rfl rfl ?_
    refine SL.nil ?_
    refine SE.round (z.1 + 1, y.2) (by first | omega | (dsimp only; omega)) (⟨by dsimp only; omega, q1, ⟨i9, by dsimp only; omega, q4⟩, by dsimp only; omega, by dsimp only; omega, q7⟩) (by exact ⟨rfl, rfl, rfl, rfl, rfl, rfl, rfl, rfl, trivial⟩) (by repeat first|exact s0 _|exact s1 _|apply s2|apply s3)
  intro hc27
  have hyl : y.1 < (h[z.1]'hzl).length := by omega
  have hen := hh _ (List.getElem_mem hzl) _ (List.getElem_mem hyl)
  obtain ⟨i9, q3, q4⟩ := hy.2.2.1
  have hdl := doF_len (l := y.2.2.1) (e := ((h[z.1]'hzl)[y.1]'hyl)) (n := n)
  have hst := hy.2.1
  rw [evsB_step hyl, lgB_step hyl, List.cons_append] at hst
  refine SC.skip ?_
  refine SE.seq ?_
  refine SC.seq ?_
  refine SC.block ?_
  refine SC.seq (SC.region ?_)
  refine SL.val (Val.indexSl tabOk Tryz.underlying33 rfl rfl rfl rfl (at_map (by omega)) rfl rfl) rfl rfl ?_
  refine SL.val (Val.loadAR tabOk rfl rfl rfl (by rfl)) rfl rfl ?_
  refine SL.eff (Eff.alloc tabOk rfl) rfl rfl ?_
  rintro _ _ ⟨b14, rfl, rfl⟩
  refine SL.eff (Eff.store (L' := entA ((h[z.1]'hzl)[y.1]'hyl)) tabOk rfl rfl rfl (by repeat first|assumption|exact Upd.here|apply Upd.there) rfl (Nat.le_of_ble_eq_true (by rfl)) rfl (by exact putL_whole rfl)) rfl rfl ?_
  rintro _ _ ⟨rfl, rfl⟩
  refine SL.nil (SE.seq ?_)
  refine SC.seq (SC.region ?_)
  refine SL.val (Val.assign rfl) rfl rfl ?_
  refine SL.nil (SE.seq ?_)
  refine SC.seq (SC.region ?_)
  refine SL.val (Val.to (C := .agg y.2.2.1.abs) (Val.loadP tabOk rfl rfl rfl (by first|(apply Or.inl;(repeat first|assumption|exact m0|apply m1);done)|(apply Or.inr;(repeat first|assumption|exact m0|apply m1);done)) List.not_mem_nil (Nat.le_of_ble_eq_true (by rfl))) rfl) rfl rfl ?_
  refine SL.val (Val.to (C := .agg (entA ((h[z.1]'hzl)[y.1]'hyl))) (Val.loadP tabOk rfl rfl rfl (by first|(apply Or.inl;(repeat first|assumption|exact m0|apply m1);done)|(apply Or.inr;(repeat first|assumption|exact m0|apply m1);done)) List.not_mem_nil (Nat.le_of_ble_eq_true (by rfl))) rfl) rfl rfl ?_
  refine SL.val (Val.move rfl) rfl rfl ?_
  refine SL.call (do_s (l := y.2.2.1) (e := ((h[z.1]'hzl)[y.1]'hyl)) (n := n) he hr hen.mask ⟨by omega, by omega⟩ hy.2.2.2.2.2.wf hen.a (by have := hen.text; unfold maxLen at this; omega)) Casts.refl (by kernel_rfl) rfl rfl rfl ?_
  refine After.pure (by repeat (first | exact Reads.nil | (refine Reads.blk ?_ ?_; focus ((repeat first|assumption|exact m0|apply m1); done)) | (refine Reads.rd ?_ ?_; focus ((repeat first|assumption|exact m0|apply m1); done)) | (refine Reads.pc ?_ ?_; focus ((repeat first|assumption|exact m0|apply m1); done)) | (refine Reads.rdpc ?_ ?_; focus ((repeat first|assumption|exact m0|apply m1); done)))) (fun _ => rfl) ?_
  intro _
  refine SL.val (Val.move rfl) rfl rfl ?_
  refine SL.val (Val.extract rfl rfl) rfl rfl ?_
  refine SL.val (Val.extract rfl rfl) rfl rfl ?_
  refine SL.eff (Eff.store (L' := (y.2.2.1.doF ((h[z.1]'hzl)[y.1]'hyl) n).1.abs) tabOk rfl rfl rfl (by repeat first|assumption|exact Upd.here|apply Upd.there) rfl (Nat.le_of_ble_eq_true (by rfl)) rfl (by exact putL_whole rfl)) rfl rfl ?_
  rintro _ _ ⟨rfl, rfl⟩
  refine SL.val (Val.assign rfl) rfl rfl ?_
  refine SL.nil (SE.seq ?_)
  refine SC.seq ?_
  refine SC.seq (SC.region ?_)
  refine SL.val (Val.fieldAddr tabOk rfl rfl rfl rfl rfl) rfl rfl ?_
  refine SL.val (Val.fieldAddr tabOk rfl rfl rfl rfl rfl) rfl rfl ?_
  refine SL.val (Val.to (C := int ((h[z.1]'hzl)[y.1]'hyl).core.client) (Val.load1 tabOk rfl rfl (by first|(apply Or.inl;(repeat first|assumption|exact m0|apply m1);done)|(apply Or.inr;(repeat first|assumption|exact m0|apply m1);done)) List.not_mem_nil (by rfl)) rfl) rfl rfl ?_
  refine SL.val (Val.move rfl) rfl rfl ?_
  refine SL.val (Val.neI rfl rfl) rfl rfl ?_
  refine SL.val (Val.move rfl) rfl rfl ?_
  refine SL.bothP (t := 42) rfl ?_ ?_
  · intro hc42
    iterate 5 refine SL.skip rfl rfl ?_
    refine SL.val (Val.pickT rfl rfl) rfl rfl ?_
    refine SL.val (Val.move rfl) rfl rfl ?_
    iterate 2 refine SL.skip rfl rfl ?_
    refine SL.val (Val.pickT rfl rfl) rfl rfl ?_
    refine SL.nil (SE.seq ?_)
    refine SC.condT rfl ?_
    refine SC.exit ?_
    refine SE.then_ (by intro h; cases h) ?_
    refine SE.exit ?_
    refine SE.seq ?_
    refine SC.region ?_
    first
      | refine SL.val (Val.addI rfl rfl (by simp only [InR, lo, hi]; omega)) rfl rfl ?_
      | refine SL.val (Val.addW rfl rfl) rfl rfl ?_
    refine SL.val (Val.move rfl) rfl rfl ?_
    refine SL.nil ?_
    refine SE.round (y.1 + 1, y.2.1, (y.2.2.1.doF ((h[z.1]'hzl)[y.1]'hyl) n).1, y.2.2.2) (by first | omega | (dsimp only; omega)) (⟨by dsimp only; omega, by rw [hitsE_miss (by rintro ⟨a1, a2, a3⟩; first | exact hc42 a1 | exact hc49 a2 | exact a3 hc52)] at hst; exact hst, ⟨i9, by dsimp only; omega, q4⟩, by dsimp only; omega, by dsimp only; omega, doF_ins hy.2.2.2.2.2 hen⟩) (by exact ⟨rfl, rfl, rfl, rfl, rfl, rfl, rfl, rfl, rfl, rfl, rfl, rfl, trivial⟩) (by repeat first|exact s0 _|exact s1 _|apply s2|apply s3)
  intro hc42
  refine SL.val (Val.fieldAddr tabOk rfl rfl rfl rfl rfl) rfl rfl ?_
  refine SL.val (Val.fieldAddr tabOk rfl rfl rfl rfl rfl) rfl rfl ?_
  refine SL.val (Val.to (C := int ((h[z.1]'hzl)[y.1]'hyl).core.stamp) (Val.load1 tabOk rfl rfl (by first|(apply Or.inl;(repeat first|assumption|exact m0|apply m1);done)|(apply Or.inr;(repeat first|assumption|exact m0|apply m1);done)) List.not_mem_nil (by rfl)) rfl) rfl rfl ?_
  refine SL.val (Val.move rfl) rfl rfl ?_
  refine SL.val (Val.neI rfl rfl) rfl rfl ?_
  refine SL.val (Val.pickF rfl rfl) rfl rfl ?_
  refine SL.val (Val.move rfl) rfl rfl ?_
  refine SL.bothP (t := 49) rfl ?_ ?_
  · intro hc49
    iterate 2 refine SL.skip rfl rfl ?_
    refine SL.val (Val.pickT rfl rfl) rfl rfl ?_
    refine SL.nil (SE.seq ?_)
    refine SC.condT rfl ?_
    refine SC.exit ?_
    refine SE.then_ (by intro h; cases h) ?_
    refine SE.exit ?_
    refine SE.seq ?_
    refine SC.region ?_
    first
      | refine SL.val (Val.addI rfl rfl (by simp only [InR, lo, hi]; omega)) rfl rfl ?_
      | refine SL.val (Val.addW rfl rfl) rfl rfl ?_
    refine SL.val (Val.move rfl) rfl rfl ?_
    refine SL.nil ?_
    refine SE.round (y.1 + 1, y.2.1, (y.2.2.1.doF ((h[z.1]'hzl)[y.1]'hyl) n).1, y.2.2.2) (by first | omega | (dsimp only; omega)) (⟨by dsimp only; omega, by rw [hitsE_miss (by rintro ⟨a1, a2, a3⟩; first | exact hc42 a1 | exact hc49 a2 | exact a3 hc52)] at hst; exact hst, ⟨i9, by dsimp only; omega, q4⟩, by dsimp only; omega, by dsimp only; omega, doF_ins hy.2.2.2.2.2 hen⟩) (by exact ⟨rfl, rfl, rfl, rfl, rfl, rfl, rfl, rfl, rfl, rfl, rfl, rfl, trivial⟩) (by repeat first|exact s0 _|exact s1 _|apply s2|apply s3)
  intro hc49
  refine SL.val (Val.move rfl) rfl rfl ?_
  refine SL.val (Val.eqI rfl rfl) rfl rfl ?_
  refine SL.val (Val.pickF rfl rfl) rfl rfl ?_
  refine SL.nil (SE.seq ?_)
  refine SC.condP rfl ?_ ?_
  · intro hc52
    refine SC.exit ?_
    refine SE.then_ (by intro h; cases h) ?_
    refine SE.exit ?_
    refine SE.seq ?_
    refine SC.region ?_
    first
      | refine SL.val (Val.addI rfl rfl (by simp only [InR, lo, hi]; omega)) rfl rfl ?_
      | refine SL.val (Val.addW rfl rfl) rfl rfl ?_
    refine SL.val (Val.move rfl) rfl rfl ?_
    refine SL.nil ?_
    refine SE.round (y.1 + 1, y.2.1, (y.2.2.1.doF ((h[z.1]'hzl)[y.1]'hyl) n).1, y.2.2.2) (by first | omega | (dsimp only; omega)) (⟨by dsimp only; omega, by rw [hitsE_miss (by rintro ⟨a1, a2, a3⟩; first | exact hc42 a1 | exact hc49 a2 | exact a3 hc52)] at hst; exact hst, ⟨i9, by dsimp only; omega, q4⟩, by dsimp only; omega, by dsimp only; omega, doF_ins hy.2.2.2.2.2 hen⟩) (by exact ⟨rfl, rfl, rfl, rfl, rfl, rfl, rfl, rfl, rfl, rfl, rfl, rfl, trivial⟩) (by repeat first|exact s0 _|exact s1 _|apply s2|apply s3)
  intro hc52
  refine SC.skip ?_
  refine SE.seq ?_
  refine SC.seq (SC.region ?_)
  refine SL.val (Val.move rfl) rfl rfl ?_
  refine SL.val (Val.move rfl) rfl rfl ?_
  first
    | refine SL.val (Val.addI rfl rfl (by simp only [InR, lo, hi]; omega)) rfl rfl ?_
    | refine SL.val (Val.addW rfl rfl) rfl rfl ?_
  refine SL.val (Val.move rfl) rfl rfl ?_
  refine SL.callv (hE i9 y.2.1 y.2.2.2 ((z.1 : Int) + 1) (y.2.2.1.doF ((h[z.1]'hzl)[y.1]'hyl) n).2 q4 (by omega) (by omega) (by omega) doF_err64) rfl Casts.refl g1 rfl rfl rfl ?_
  refine After.one rfl (by repeat first|assumption|exact m0|apply m1) (fun _ => rfl) ?_
  intro r57
  refine ⟨_, (by repeat first|assumption|exact Upd.here|apply Upd.there), ?_⟩
  refine SL.val (Val.notB rfl) rfl rfl ?_
  refine SL.nil (SE.seq ?_)
  refine SC.cond rfl ?_ ?_
  rotate_left
  · intro hc58
    refine SC.skip ?_
    refine SE.inBlock ?_
    refine SE.seq ?_
    refine SC.region ?_
    first
      | refine SL.val (Val.addI rfl rfl (by simp only [InR, lo, hi]; omega)) rfl rfl ?_
      | refine SL.val (Val.addW rfl rfl) rfl rfl ?_
    refine SL.val (Val.move rfl) rfl rfl ?_
    refine SL.nil ?_
    refine SE.round (y.1 + 1, (tell y.2.1 ((z.1 : Int) + 1) (y.2.2.1.doF ((h[z.1]'hzl)[y.1]'hyl) n).2).1, (y.2.2.1.doF ((h[z.1]'hzl)[y.1]'hyl) n).1, r57) (by first | omega | (dsimp only; omega)) (⟨by dsimp only; omega, by rw [hitsE_hit (p := ((evOf n z.1 y.2.2.1 ((h[z.1]'hzl)[y.1]'hyl)), ((h[z.1]'hzl)[y.1]'hyl).core.letter)) ⟨Classical.not_not.1 hc42, Classical.not_not.1 hc49, hc52⟩, tellS, if_pos (by have h7 : (tell y.2.1 ((z.1 : Int) + 1) (y.2.2.1.doF ((h[z.1]'hzl)[y.1]'hyl) n).2).2 = true := (by simpa using hc58); exact h7)] at hst; exact hst, ⟨i9 + 1, by dsimp only; omega, hE2 _ _ _ _ q4⟩, by dsimp only; omega, by dsimp only; omega, doF_ins hy.2.2.2.2.2 hen⟩) (by exact ⟨rfl, rfl, rfl, rfl, rfl, rfl, rfl, rfl, rfl, rfl, rfl, rfl, trivial⟩) (by repeat first|exact s0 _|exact s1 _|apply s2|apply s3)
  intro hc58
  refine SC.ret ?_
  refine SE.ret ?_
  refine SE.then_ (by intro h; cases h) ?_
  refine SE.then_ (by intro h; cases h) ?_
  refine SE.ret ?_
  refine SE.ret ?_
  refine SE.then_ (by intro h; cases h) ?_
  refine SE.then_ (by intro h; cases h) ?_
  refine SE.ret ?_
  rw [hitsE_hit (p := ((evOf n z.1 y.2.2.1 ((h[z.1]'hzl)[y.1]'hyl)), ((h[z.1]'hzl)[y.1]'hyl).core.letter)) ⟨Classical.not_not.1 hc42, Classical.not_not.1 hc49, hc52⟩, tellS, if_neg (by have h7 : (tell y.2.1 ((z.1 : Int) + 1) (y.2.2.1.doF ((h[z.1]'hzl)[y.1]'hyl) n).2).2 = false := (by simpa using hc58); exact fun h8 => Bool.false_ne_true (h7.symm.trans h8))] at hst
  refine SE.fin (rs := []) rfl RV.nil (r57) (by rw [← hst]; repeat (first | exact List.nil_sublist _ | exact List.Sublist.refl _ | apply List.Sublist.cons_cons | apply List.Sublist.cons)) (by simp [It.rids]) ?_
  exact rfl
end
end Go.Proofs.YtejcohlpjikjpaaGreatDoor.A
