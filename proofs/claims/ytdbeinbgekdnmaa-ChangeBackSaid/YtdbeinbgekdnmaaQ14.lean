/-
  Packed out of the texts: C12.
-/
import Derived.Test.YtdbeinbgekdnmaaQ13
/-
  Changes: the walks through ChangeBack and ChangeReads.
-/
set_option maxRecDepth 100000
set_option linter.unusedSimpArgs false
set_option linter.unusedVariables false
namespace Go.Proofs.Ytdbeinbgekdnmaa.A
open Go.RowKit

section
variable {c : Chg} {n : Int} {l : List UInt8}
theorem back_done (h : parseC c.bytes n = (c, 0)) : retA [boo (yes (c = (parseC c.bytes n).1))] = boo true := by
  rw [show yes (c = (parseC c.bytes n).1) = true from yes_iff.2 (by rw [h])]
  rfl
set_option maxHeartbeats 2000000 in
theorem back_s (hs : c.Lits) : Spec Try.prog 11 [.agg c.abs, int n] [] (fun _ : Unit => []) (fun _ => boo true) := by
  refine spec_of Try.func11 rfl Try.ntmps11 rfl fun G w => ?_
  refine SC.seq ?_
  refine SC.region ?_
  refine SL.eff (Eff.boxA rfl) rfl rfl ?_
  rintro _ _ ⟨b2, rfl, rfl⟩
  refine SL.val (Val.assign rfl) rfl rfl ?_
  refine SL.nil ?_
  refine SE.seq ?_
  refine SC.seq ?_
  refine SC.seq ?_
  refine SC.region ?_
  refine SL.call (fixed18_s) Casts.refl (by kernel_rfl) rfl rfl rfl ?_
  refine After.pure (by repeat (first | exact Reads.nil | refine Reads.blk (by repeat (first | assumption | exact List.mem_cons_self | apply List.mem_cons_of_mem)) ?_ | refine Reads.rd (by repeat (first | assumption | exact List.mem_cons_self | apply List.mem_cons_of_mem)) ?_ | refine Reads.pc (by repeat (first | assumption | exact List.mem_cons_self | apply List.mem_cons_of_mem)) ?_ | refine Reads.rdpc (by repeat (first | assumption | exact List.mem_cons_self | apply List.mem_cons_of_mem)) ?_)) (fun _ => rfl) ?_
  intro _
  refine SL.val (Val.notT rfl) rfl rfl ?_
  refine SL.nil ?_
  refine SE.seq ?_
  refine SC.condF rfl ?_
  refine SC.skip ?_
  refine SE.seq ?_
  refine SC.seq ?_
  refine SC.seq ?_
  refine SC.region ?_
  first
    | refine SL.val (Val.loadA tabOk rfl rfl rfl (by first | (apply Or.inl; (repeat (first | assumption | exact List.mem_cons_self | apply List.mem_cons_of_mem)); done) | (apply Or.inr; (repeat (first | assumption | exact List.mem_cons_self | apply List.mem_cons_of_mem)); done)) List.not_mem_nil (by rfl)) rfl rfl ?_
    | refine SL.val (Val.loadP tabOk rfl rfl rfl (by first | (apply Or.inl; (repeat (first | assumption | exact List.mem_cons_self | apply List.mem_cons_of_mem)); done) | (apply Or.inr; (repeat (first | assumption | exact List.mem_cons_self | apply List.mem_cons_of_mem)); done)) List.not_mem_nil (Nat.le_of_ble_eq_true (by rfl))) rfl rfl ?_
  refine SL.call (few_s (c := c)) Casts.refl (by kernel_rfl) rfl rfl rfl ?_
  refine After.pure (by repeat (first | exact Reads.nil | refine Reads.blk (by repeat (first | assumption | exact List.mem_cons_self | apply List.mem_cons_of_mem)) ?_ | refine Reads.rd (by repeat (first | assumption | exact List.mem_cons_self | apply List.mem_cons_of_mem)) ?_ | refine Reads.pc (by repeat (first | assumption | exact List.mem_cons_self | apply List.mem_cons_of_mem)) ?_ | refine Reads.rdpc (by repeat (first | assumption | exact List.mem_cons_self | apply List.mem_cons_of_mem)) ?_)) (fun _ => rfl) ?_
  intro b
  refine SL.val (Val.notB rfl) rfl rfl ?_
  refine SL.nil ?_
  refine SE.seq ?_
  refine SC.cond rfl ?_ ?_
  · intro hc12
    refine SC.seq ?_
    refine SC.region ?_
    refine SL.val (Val.assign rfl) rfl rfl ?_
    refine SL.nil ?_
    refine SE.seq ?_
    refine SC.ret ?_
    refine SE.then_ (by intro h; cases h) ?_
    refine SE.fin (rs := [.tmp 4]) rfl (RV.tmp rfl RV.nil) (()) (by repeat (first | exact List.nil_sublist _ | exact List.Sublist.refl _ | apply List.Sublist.cons_cons | apply List.Sublist.cons)) (by simp [It.rids]) ?_
    first | rfl | exact back_done hp
  · intro hc12
    have hfew := b.2 (by simpa using hc12)
    refine SC.skip ?_
    refine SE.seq ?_
    refine SC.seq ?_
    refine SC.region ?_
    first
      | refine SL.val (Val.loadA tabOk rfl rfl rfl (by first | (apply Or.inl; (repeat (first | assumption | exact List.mem_cons_self | apply List.mem_cons_of_mem)); done) | (apply Or.inr; (repeat (first | assumption | exact List.mem_cons_self | apply List.mem_cons_of_mem)); done)) List.not_mem_nil (by rfl)) rfl rfl ?_
      | refine SL.val (Val.loadP tabOk rfl rfl rfl (by first | (apply Or.inl; (repeat (first | assumption | exact List.mem_cons_self | apply List.mem_cons_of_mem)); done) | (apply Or.inr; (repeat (first | assumption | exact List.mem_cons_self | apply List.mem_cons_of_mem)); done)) List.not_mem_nil (Nat.le_of_ble_eq_true (by rfl))) rfl rfl ?_
    refine SL.call (bytes_s (c := c) (hfew.few hs)) Casts.refl (by kernel_rfl) rfl rfl rfl ?_
    refine After.pure (by repeat (first | exact Reads.nil | refine Reads.blk (by repeat (first | assumption | exact List.mem_cons_self | apply List.mem_cons_of_mem)) ?_ | refine Reads.rd (by repeat (first | assumption | exact List.mem_cons_self | apply List.mem_cons_of_mem)) ?_ | refine Reads.pc (by repeat (first | assumption | exact List.mem_cons_self | apply List.mem_cons_of_mem)) ?_ | refine Reads.rdpc (by repeat (first | assumption | exact List.mem_cons_self | apply List.mem_cons_of_mem)) ?_)) (fun _ => rfl) ?_
    intro _
    refine SL.val (Val.assign rfl) rfl rfl ?_
    refine SL.nil ?_
    refine SE.seq ?_
    refine SC.seq ?_
    refine SC.seq ?_
    refine SC.draw [] (.q 0 (.q 1 (.q 3 (.q 4 (.e 2 (.e 5 (.q 6 (.q 7 (.q 8 (.q 9 (.q 10 (.e 11 (.q 12 (.q 13 (.q 14 .nil))))))))))))))) (by kernel_rfl) (by kernel_rfl) ?_
    first
      | refine SX.val rfl (Val.loadA tabOk rfl rfl rfl (by first | (apply Or.inl; (repeat (first | assumption | exact List.mem_cons_self | apply List.mem_cons_of_mem)); done) | (apply Or.inr; (repeat (first | assumption | exact List.mem_cons_self | apply List.mem_cons_of_mem)); done)) List.not_mem_nil (by rfl)) (by first | (simp [mids, It.mids, ownPc]; done) | (intro k hk; simp [mids, It.mids, ownPc] at hk ⊢; grind)) rfl rfl ?_
      | refine SX.val rfl (Val.loadP tabOk rfl rfl rfl (by first | (apply Or.inl; (repeat (first | assumption | exact List.mem_cons_self | apply List.mem_cons_of_mem)); done) | (apply Or.inr; (repeat (first | assumption | exact List.mem_cons_self | apply List.mem_cons_of_mem)); done)) List.not_mem_nil (Nat.le_of_ble_eq_true (by rfl))) (by first | (simp [mids, It.mids, ownPc]; done) | (intro k hk; simp [mids, It.mids, ownPc] at hk ⊢; grind)) rfl rfl ?_
    refine SX.val rfl (Val.move rfl) (by first | (simp [mids, It.mids, ownPc]; done) | (intro k hk; simp [mids, It.mids, ownPc] at hk ⊢; grind)) rfl rfl ?_
    first
      | refine SX.val rfl (Val.loadA tabOk rfl rfl rfl (by first | (apply Or.inl; (repeat (first | assumption | exact List.mem_cons_self | apply List.mem_cons_of_mem)); done) | (apply Or.inr; (repeat (first | assumption | exact List.mem_cons_self | apply List.mem_cons_of_mem)); done)) List.not_mem_nil (by rfl)) (by first | (simp [mids, It.mids, ownPc]; done) | (intro k hk; simp [mids, It.mids, ownPc] at hk ⊢; grind)) rfl rfl ?_
      | refine SX.val rfl (Val.loadP tabOk rfl rfl rfl (by first | (apply Or.inl; (repeat (first | assumption | exact List.mem_cons_self | apply List.mem_cons_of_mem)); done) | (apply Or.inr; (repeat (first | assumption | exact List.mem_cons_self | apply List.mem_cons_of_mem)); done)) List.not_mem_nil (Nat.le_of_ble_eq_true (by rfl))) (by first | (simp [mids, It.mids, ownPc]; done) | (intro k hk; simp [mids, It.mids, ownPc] at hk ⊢; grind)) rfl rfl ?_
    refine SX.val rfl (Val.move rfl) (by first | (simp [mids, It.mids, ownPc]; done) | (intro k hk; simp [mids, It.mids, ownPc] at hk ⊢; grind)) rfl rfl ?_
    refine SX.call rfl (check_s (c := c) (n := n) hfew.1.long hfew.2.1.long (by have := hfew.2.2; omega)) (by simp [mids, It.mids]) Casts.refl (by kernel_rfl) rfl rfl rfl ?_
    refine After.pure (by repeat (first | exact Reads.nil | refine Reads.blk (by repeat (first | assumption | exact List.mem_cons_self | apply List.mem_cons_of_mem)) ?_ | refine Reads.rd (by repeat (first | assumption | exact List.mem_cons_self | apply List.mem_cons_of_mem)) ?_ | refine Reads.pc (by repeat (first | assumption | exact List.mem_cons_self | apply List.mem_cons_of_mem)) ?_ | refine Reads.rdpc (by repeat (first | assumption | exact List.mem_cons_self | apply List.mem_cons_of_mem)) ?_)) (fun _ => rfl) ?_
    intro _
    refine SX.call rfl (rcheck_s (c := c) (n := n) hfew.1.long hfew.2.1.long (by have := hfew.2.2; omega) hfew.1.lets hfew.2.1.lets) (by simp [mids, It.mids]) Casts.refl (by kernel_rfl) rfl rfl rfl ?_
    refine After.pure (by repeat (first | exact Reads.nil | refine Reads.blk (by repeat (first | assumption | exact List.mem_cons_self | apply List.mem_cons_of_mem)) ?_ | refine Reads.rd (by repeat (first | assumption | exact List.mem_cons_self | apply List.mem_cons_of_mem)) ?_ | refine Reads.pc (by repeat (first | assumption | exact List.mem_cons_self | apply List.mem_cons_of_mem)) ?_ | refine Reads.rdpc (by repeat (first | assumption | exact List.mem_cons_self | apply List.mem_cons_of_mem)) ?_)) (fun _ => rfl) ?_
    intro _
    refine SX.val rfl (Val.neI rfl rfl) (by first | (simp [mids, It.mids, ownPc]; done) | (intro k hk; simp [mids, It.mids, ownPc] at hk ⊢; grind)) rfl rfl ?_
    refine SX.val rfl (Val.move rfl) (by first | (simp [mids, It.mids, ownPc]; done) | (intro k hk; simp [mids, It.mids, ownPc] at hk ⊢; grind)) rfl rfl ?_
    refine SX.bothP (t := 22) rfl (by intro hc22; exfalso; omega) ?_
    intro hc22
    refine SX.val rfl (Val.move rfl) (by first | (simp [mids, It.mids, ownPc]; done) | (intro k hk; simp [mids, It.mids, ownPc] at hk ⊢; grind)) rfl rfl ?_
    refine SX.val rfl (Val.strOf rfl) (by first | (simp [mids, It.mids, ownPc]; done) | (intro k hk; simp [mids, It.mids, ownPc] at hk ⊢; grind)) rfl rfl ?_
    first
      | refine SX.val rfl (Val.loadA tabOk rfl rfl rfl (by first | (apply Or.inl; (repeat (first | assumption | exact List.mem_cons_self | apply List.mem_cons_of_mem)); done) | (apply Or.inr; (repeat (first | assumption | exact List.mem_cons_self | apply List.mem_cons_of_mem)); done)) List.not_mem_nil (by rfl)) (by first | (simp [mids, It.mids, ownPc]; done) | (intro k hk; simp [mids, It.mids, ownPc] at hk ⊢; grind)) rfl rfl ?_
      | refine SX.val rfl (Val.loadP tabOk rfl rfl rfl (by first | (apply Or.inl; (repeat (first | assumption | exact List.mem_cons_self | apply List.mem_cons_of_mem)); done) | (apply Or.inr; (repeat (first | assumption | exact List.mem_cons_self | apply List.mem_cons_of_mem)); done)) List.not_mem_nil (Nat.le_of_ble_eq_true (by rfl))) (by first | (simp [mids, It.mids, ownPc]; done) | (intro k hk; simp [mids, It.mids, ownPc] at hk ⊢; grind)) rfl rfl ?_
    refine SX.call rfl (rbytes_s (c := c) (hfew.few hs)) (by simp [mids, It.mids]) Casts.refl (by kernel_rfl) rfl rfl rfl ?_
    refine After.pure (by repeat (first | exact Reads.nil | refine Reads.blk (by repeat (first | assumption | exact List.mem_cons_self | apply List.mem_cons_of_mem)) ?_ | refine Reads.rd (by repeat (first | assumption | exact List.mem_cons_self | apply List.mem_cons_of_mem)) ?_ | refine Reads.pc (by repeat (first | assumption | exact List.mem_cons_self | apply List.mem_cons_of_mem)) ?_ | refine Reads.rdpc (by repeat (first | assumption | exact List.mem_cons_self | apply List.mem_cons_of_mem)) ?_)) (fun _ => rfl) ?_
    intro _
    refine SX.val rfl (Val.strOf rfl) (by first | (simp [mids, It.mids, ownPc]; done) | (intro k hk; simp [mids, It.mids, ownPc] at hk ⊢; grind)) rfl rfl ?_
    refine SX.val rfl (Val.neS rfl rfl) (by first | (simp [mids, It.mids, ownPc]; done) | (intro k hk; simp [mids, It.mids, ownPc] at hk ⊢; grind)) rfl rfl ?_
    refine SX.val rfl (Val.pickF rfl rfl) (by first | (simp [mids, It.mids, ownPc]; done) | (intro k hk; simp [mids, It.mids, ownPc] at hk ⊢; grind)) rfl rfl ?_
    refine SX.nil ?_
    refine SE.seq ?_
    refine SC.condP rfl (by intro hc29; exfalso; exact hc29 rfl) ?_
    intro hc29
    refine SC.skip ?_
    refine SE.seq ?_
    refine SC.seq ?_
    refine SC.region ?_
    refine SL.val (Val.move rfl) rfl rfl ?_
    refine SL.val (Val.move rfl) rfl rfl ?_
    refine SL.call (parse_s (l := c.bytes) (n := n) (by have := hfew.bytes; omega)) Casts.refl (by kernel_rfl) rfl rfl rfl ?_
    refine After.pure (by repeat (first | exact Reads.nil | refine Reads.blk (by repeat (first | assumption | exact List.mem_cons_self | apply List.mem_cons_of_mem)) ?_ | refine Reads.rd (by repeat (first | assumption | exact List.mem_cons_self | apply List.mem_cons_of_mem)) ?_ | refine Reads.pc (by repeat (first | assumption | exact List.mem_cons_self | apply List.mem_cons_of_mem)) ?_ | refine Reads.rdpc (by repeat (first | assumption | exact List.mem_cons_self | apply List.mem_cons_of_mem)) ?_)) (fun _ => rfl) ?_
    intro _
    refine SL.val (Val.move rfl) rfl rfl ?_
    refine SL.val (Val.extract rfl rfl) rfl rfl ?_
    refine SL.val (Val.extract rfl rfl) rfl rfl ?_
    refine SL.eff (Eff.alloc tabOk rfl) rfl rfl ?_
    rintro _ _ ⟨b6, rfl, rfl⟩
    refine SL.eff (Eff.store tabOk rfl rfl rfl (by repeat (first | assumption | exact Upd.here | apply Upd.there)) (by rfl) (Nat.le_of_ble_eq_true (by rfl)) (by rfl) (by rfl)) rfl rfl ?_
    rintro _ _ ⟨rfl, rfl⟩
    refine SL.val (Val.assign rfl) rfl rfl ?_
    refine SL.nil ?_
    refine SE.seq ?_
    refine SC.seq ?_
    refine SC.region ?_
    first
      | refine SL.val (Val.loadA tabOk rfl rfl rfl (by first | (apply Or.inl; (repeat (first | assumption | exact List.mem_cons_self | apply List.mem_cons_of_mem)); done) | (apply Or.inr; (repeat (first | assumption | exact List.mem_cons_self | apply List.mem_cons_of_mem)); done)) List.not_mem_nil (by rfl)) rfl rfl ?_
      | refine SL.val (Val.loadP tabOk rfl rfl rfl (by first | (apply Or.inl; (repeat (first | assumption | exact List.mem_cons_self | apply List.mem_cons_of_mem)); done) | (apply Or.inr; (repeat (first | assumption | exact List.mem_cons_self | apply List.mem_cons_of_mem)); done)) List.not_mem_nil (Nat.le_of_ble_eq_true (by rfl))) rfl rfl ?_
    refine SL.val (Val.move rfl) rfl rfl ?_
    refine SL.call (rcheck_s (c := c) (n := n) hfew.1.long hfew.2.1.long (by have := hfew.2.2; omega) hfew.1.lets hfew.2.1.lets) Casts.refl (by kernel_rfl) rfl rfl rfl ?_
    refine After.pure (by repeat (first | exact Reads.nil | refine Reads.blk (by repeat (first | assumption | exact List.mem_cons_self | apply List.mem_cons_of_mem)) ?_ | refine Reads.rd (by repeat (first | assumption | exact List.mem_cons_self | apply List.mem_cons_of_mem)) ?_ | refine Reads.pc (by repeat (first | assumption | exact List.mem_cons_self | apply List.mem_cons_of_mem)) ?_ | refine Reads.rdpc (by repeat (first | assumption | exact List.mem_cons_self | apply List.mem_cons_of_mem)) ?_)) (fun _ => rfl) ?_
    intro _
    refine SL.val (Val.neI rfl rfl) rfl rfl ?_
    refine SL.val (Val.move rfl) rfl rfl ?_
    refine SL.bothP (t := 40) rfl ?_ ?_
    · intro hc40
      refine SL.skip rfl rfl ?_
      refine SL.skip rfl rfl ?_
      refine SL.skip rfl rfl ?_
      refine SL.skip rfl rfl ?_
      refine SL.skip rfl rfl ?_
      refine SL.skip rfl rfl ?_
      refine SL.skip rfl rfl ?_
      refine SL.val (Val.pickT rfl rfl) rfl rfl ?_
      refine SL.val (Val.assign rfl) rfl rfl ?_
      refine SL.nil ?_
      refine SE.seq ?_
      refine SC.ret ?_
      refine SE.fin (rs := [.tmp 4]) rfl (RV.tmp rfl RV.nil) (()) (by repeat (first | exact List.nil_sublist _ | exact List.Sublist.refl _ | apply List.Sublist.cons_cons | apply List.Sublist.cons)) (by simp [It.rids]) ?_
      first | rfl | exact back_done hp
    · intro hc40
      have hp := chg_back hs (by simpa using hc40) (by have := hfew.bytes; omega)
      have hp2 : (parseC c.bytes n).2 = 0 := by rw [hp]
      refine SL.val (Val.move rfl) rfl rfl ?_
      refine SL.val (Val.eqI rfl rfl) rfl rfl ?_
      refine SL.val (Val.move rfl) rfl rfl ?_
      refine SL.bothP (t := 43) rfl ?_ (by intro hc43; exfalso; omega)
      intro hc43
      first
        | refine SL.val (Val.loadA tabOk rfl rfl rfl (by first | (apply Or.inl; (repeat (first | assumption | exact List.mem_cons_self | apply List.mem_cons_of_mem)); done) | (apply Or.inr; (repeat (first | assumption | exact List.mem_cons_self | apply List.mem_cons_of_mem)); done)) List.not_mem_nil (by rfl)) rfl rfl ?_
        | refine SL.val (Val.loadP tabOk rfl rfl rfl (by first | (apply Or.inl; (repeat (first | assumption | exact List.mem_cons_self | apply List.mem_cons_of_mem)); done) | (apply Or.inr; (repeat (first | assumption | exact List.mem_cons_self | apply List.mem_cons_of_mem)); done)) List.not_mem_nil (Nat.le_of_ble_eq_true (by rfl))) rfl rfl ?_
      first
        | refine SL.val (Val.loadA tabOk rfl rfl rfl (by first | (apply Or.inl; (repeat (first | assumption | exact List.mem_cons_self | apply List.mem_cons_of_mem)); done) | (apply Or.inr; (repeat (first | assumption | exact List.mem_cons_self | apply List.mem_cons_of_mem)); done)) List.not_mem_nil (by rfl)) rfl rfl ?_
        | refine SL.val (Val.loadP tabOk rfl rfl rfl (by first | (apply Or.inl; (repeat (first | assumption | exact List.mem_cons_self | apply List.mem_cons_of_mem)); done) | (apply Or.inr; (repeat (first | assumption | exact List.mem_cons_self | apply List.mem_cons_of_mem)); done)) List.not_mem_nil (Nat.le_of_ble_eq_true (by rfl))) rfl rfl ?_
      refine SL.call (rsame_s (c := c) (d := (parseC c.bytes n).1) (by have := hfew.2.2; omega) hfew.1.long hfew.2.1.long hs (by rw [hp]; exact hs)) Casts.refl (by kernel_rfl) rfl rfl rfl ?_
      refine After.pure (by repeat (first | exact Reads.nil | refine Reads.blk (by repeat (first | assumption | exact List.mem_cons_self | apply List.mem_cons_of_mem)) ?_ | refine Reads.rd (by repeat (first | assumption | exact List.mem_cons_self | apply List.mem_cons_of_mem)) ?_ | refine Reads.pc (by repeat (first | assumption | exact List.mem_cons_self | apply List.mem_cons_of_mem)) ?_ | refine Reads.rdpc (by repeat (first | assumption | exact List.mem_cons_self | apply List.mem_cons_of_mem)) ?_)) (fun _ => rfl) ?_
      intro _
      refine SL.val (Val.pickT rfl rfl) rfl rfl ?_
      refine SL.val (Val.pickF rfl rfl) rfl rfl ?_
      refine SL.val (Val.assign rfl) rfl rfl ?_
      refine SL.nil ?_
      refine SE.seq ?_
      refine SC.ret ?_
      refine SE.fin (rs := [.tmp 4]) rfl (RV.tmp rfl RV.nil) (()) (by repeat (first | exact List.nil_sublist _ | exact List.Sublist.refl _ | apply List.Sublist.cons_cons | apply List.Sublist.cons)) (by simp [It.rids]) ?_
      first | rfl | exact back_done hp
theorem rpnts_lits : ∀ (k : Nat) (s : Rd) (acc : List Pnt), (∀ p ∈ acc, InR .i64 p.seq) → ∀ p ∈ (Rd.rpnts k s acc).1, InR .i64 p.seq
  | 0, _, _, h => h
  | k + 1, s, acc, h => by
    unfold Rd.rpnts
    split
    · exact h
    · refine rpnts_lits k _ _ fun p hp => ?_
      rcases List.mem_append.1 hp with hp | hp
      · exact h p hp
      · rw [List.mem_singleton.1 hp]; exact sg_in _
/-- What is read out of bytes is not too great to be asked of. -/
structure Chg.Read (c : Chg) : Prop where
  pts : c.points.length < 9223372036854775807
  prep : Long c.prepared
  prop : Long c.proposed
  lits : c.Lits
theorem rparseC_read (hl : l.length ≤ 1000000) : (rparseC l n).1.Read := by
  have hz : Chg.zero.Read := ⟨by simp [Chg.zero], by simp [Chg.zero, Long], by simp [Chg.zero, Long], ⟨by simp [Chg.zero, InR, lo, hi], by simp [Chg.zero, InR, lo, hi], by simp [Chg.zero], by simp [Chg.zero], by simp [Chg.zero]⟩⟩
  unfold rparseC
  split
  · exact hz
  · split
    · exact hz
    · have hof : (Rd.of l).l = l := rfl
      have q1 := (Rd.of l).fixed_length 8
      have q2 := ((Rd.of l).fixed 8).fixed_length 8
      have q3 := Rd.count_length (Rd.chgHead l) 4
      have q4 := Rd.countN_lt (Rd.chgHead l) 4
      unfold Rd.chgHead at q3
      rw [hof] at q1
      have w1 := rpnts_left ((Rd.chgHead l).countN 4) ((Rd.chgHead l).count 4) []
      have w2 : (Rd.rchgPts l).2.l.length ≤ l.length := by unfold Rd.rchgPts; unfold Rd.chgHead at w1 ⊢; omega
      have w3 := rprfs_left ((Rd.rchgPts l).2.countN 8) ((Rd.rchgPts l).2.count 8) [] true
      have w4 := Rd.count_length (Rd.rchgPts l).2 8
      have w5 : (Rd.rchgPre l).2.2.l.length ≤ l.length := by unfold Rd.rchgPre; omega
      have w6 := rprfs_left ((Rd.rchgPre l).2.2.countN 64) ((Rd.rchgPre l).2.2.count 64) [] true
      have w7 := Rd.countN_lt (Rd.rchgPts l).2 8
      have w8 := Rd.countN_lt (Rd.rchgPre l).2.2 64
      have w9 := Rd.count_length (Rd.rchgPre l).2.2 64
      rw [List.length_nil] at w1 w3 w6
      have few : ∀ (a b : Nat) (l : List UInt8), l.length ≤ 1000000 → (fun p : Prf => p.batch.length ≤ 1000000 ∧ p.Lits) ⟨sg a, sg b, (Rd.ens (Rd.of l)).1⟩ := fun a b l h => ⟨ens_few l, ⟨sg_in _, sg_in _, ens_lits h⟩⟩
      have h1 := rprfs_all (fun p : Prf => p.batch.length ≤ 1000000 ∧ p.Lits) (B := 1000000) few ((Rd.rchgPts l).2.countN 8) ((Rd.rchgPts l).2.count 8) [] true (by omega) (by simp)
      have h2 := rprfs_all (fun p : Prf => p.batch.length ≤ 1000000 ∧ p.Lits) (B := 1000000) few ((Rd.rchgPre l).2.2.countN 64) ((Rd.rchgPre l).2.2.count 64) [] true (by omega) (by simp)
      refine ⟨?_, ⟨?_, fun p hp => (h1 p hp).1⟩, ⟨?_, fun p hp => (h2 p hp).1⟩, ⟨sg_in _, sg_in _, ?_, fun p hp => (h1 p hp).2, fun p hp => (h2 p hp).2⟩⟩
      · show (Rd.rchgPts l).1.length < _
        unfold Rd.rchgPts; omega
      · show (Rd.rchgPre l).1.length < _
        unfold Rd.rchgPre; omega
      · show (Rd.rchgPro l).1.length < _
        unfold Rd.rchgPro; omega
      · exact rpnts_lits _ _ [] (by simp)
set_option maxHeartbeats 2000000 in
theorem reads_s  : Spec Try.prog 12 [byt l, int n] [] (fun _ : Unit => []) (fun _ => boo true) := by
  refine spec_of Try.func12 rfl Try.ntmps12 rfl fun G w => ?_
  refine SC.seq ?_
  refine SC.region ?_
  refine SL.val (Val.assign rfl) rfl rfl ?_
  refine SL.nil ?_
  refine SE.seq ?_
  refine SC.seq ?_
  refine SC.seq ?_
  refine SC.region ?_
  refine SL.call (fixed18_s) Casts.refl (by kernel_rfl) rfl rfl rfl ?_
  refine After.pure (by repeat (first | exact Reads.nil | refine Reads.blk (by repeat (first | assumption | exact List.mem_cons_self | apply List.mem_cons_of_mem)) ?_ | refine Reads.rd (by repeat (first | assumption | exact List.mem_cons_self | apply List.mem_cons_of_mem)) ?_ | refine Reads.pc (by repeat (first | assumption | exact List.mem_cons_self | apply List.mem_cons_of_mem)) ?_ | refine Reads.rdpc (by repeat (first | assumption | exact List.mem_cons_self | apply List.mem_cons_of_mem)) ?_)) (fun _ => rfl) ?_
  intro _
  refine SL.val (Val.notT rfl) rfl rfl ?_
  refine SL.nil ?_
  refine SE.seq ?_
  refine SC.condF rfl ?_
  refine SC.skip ?_
  refine SE.seq ?_
  refine SC.seq ?_
  refine SC.seq ?_
  refine SC.region ?_
  refine SL.val (Val.move rfl) rfl rfl ?_
  first
    | refine SL.val (Val.lenSl rfl Try.underlying34 (List.length_map _)) rfl rfl ?_
    | refine SL.val (Val.lenOwn rfl (by repeat (first | assumption | exact List.mem_cons_self | apply List.mem_cons_of_mem)) Try.underlying34 (List.length_map _)) rfl rfl ?_
    | refine SL.val (Val.lenNil rfl Try.underlying34) rfl rfl ?_
  refine SL.val (Val.gtI rfl rfl) rfl rfl ?_
  refine SL.nil ?_
  refine SE.seq ?_
  refine SC.condP rfl ?_ ?_
  · intro hc13
    refine SC.seq ?_
    refine SC.region ?_
    refine SL.val (Val.assign rfl) rfl rfl ?_
    refine SL.nil ?_
    refine SE.seq ?_
    refine SC.ret ?_
    refine SE.then_ (by intro h; cases h) ?_
    refine SE.fin (rs := [.tmp 4]) rfl (RV.tmp rfl RV.nil) (()) (by repeat (first | exact List.nil_sublist _ | exact List.Sublist.refl _ | apply List.Sublist.cons_cons | apply List.Sublist.cons)) (by simp [It.rids]) ?_
    first | rfl | (rw [show yes ((rparseC l n).1 = (rparseC l n).1) = true from yes_iff.2 rfl]; rfl)
  · intro hc13
    have hr := rparseC_read (l := l) (n := n) (by omega)
    refine SC.skip ?_
    refine SE.seq ?_
    refine SC.seq ?_
    refine SC.region ?_
    refine SL.val (Val.move rfl) rfl rfl ?_
    refine SL.val (Val.move rfl) rfl rfl ?_
    refine SL.call ((by have h := parse_s (l := l) (n := n) (by omega); rw [chg_two (by omega)] at h; exact h : Pure Try.prog 63 [byt l, int n] (.tup [.agg (rparseC l n).1.abs, int (rparseC l n).2]))) Casts.refl (by kernel_rfl) rfl rfl rfl ?_
    refine After.pure (by repeat (first | exact Reads.nil | refine Reads.blk (by repeat (first | assumption | exact List.mem_cons_self | apply List.mem_cons_of_mem)) ?_ | refine Reads.rd (by repeat (first | assumption | exact List.mem_cons_self | apply List.mem_cons_of_mem)) ?_ | refine Reads.pc (by repeat (first | assumption | exact List.mem_cons_self | apply List.mem_cons_of_mem)) ?_ | refine Reads.rdpc (by repeat (first | assumption | exact List.mem_cons_self | apply List.mem_cons_of_mem)) ?_)) (fun _ => rfl) ?_
    intro _
    refine SL.val (Val.move rfl) rfl rfl ?_
    refine SL.val (Val.extract rfl rfl) rfl rfl ?_
    refine SL.val (Val.extract rfl rfl) rfl rfl ?_
    refine SL.eff (Eff.alloc tabOk rfl) rfl rfl ?_
    rintro _ _ ⟨b5, rfl, rfl⟩
    refine SL.eff (Eff.store tabOk rfl rfl rfl (by repeat (first | assumption | exact Upd.here | apply Upd.there)) (by rfl) (Nat.le_of_ble_eq_true (by rfl)) (by rfl) (by rfl)) rfl rfl ?_
    rintro _ _ ⟨rfl, rfl⟩
    refine SL.val (Val.assign rfl) rfl rfl ?_
    refine SL.nil ?_
    refine SE.seq ?_
    refine SC.seq ?_
    refine SC.region ?_
    refine SL.val (Val.move rfl) rfl rfl ?_
    refine SL.val (Val.move rfl) rfl rfl ?_
    refine SL.call (rparse_s (l := l) (n := n) (by omega)) Casts.refl (by kernel_rfl) rfl rfl rfl ?_
    refine After.pure (by repeat (first | exact Reads.nil | refine Reads.blk (by repeat (first | assumption | exact List.mem_cons_self | apply List.mem_cons_of_mem)) ?_ | refine Reads.rd (by repeat (first | assumption | exact List.mem_cons_self | apply List.mem_cons_of_mem)) ?_ | refine Reads.pc (by repeat (first | assumption | exact List.mem_cons_self | apply List.mem_cons_of_mem)) ?_ | refine Reads.rdpc (by repeat (first | assumption | exact List.mem_cons_self | apply List.mem_cons_of_mem)) ?_)) (fun _ => rfl) ?_
    intro _
    refine SL.val (Val.move rfl) rfl rfl ?_
    refine SL.val (Val.extract rfl rfl) rfl rfl ?_
    refine SL.val (Val.extract rfl rfl) rfl rfl ?_
    refine SL.eff (Eff.alloc tabOk rfl) rfl rfl ?_
    rintro _ _ ⟨b7, rfl, rfl⟩
    refine SL.eff (Eff.store tabOk rfl rfl rfl (by repeat (first | assumption | exact Upd.here | apply Upd.there)) (by rfl) (Nat.le_of_ble_eq_true (by rfl)) (by rfl) (by rfl)) rfl rfl ?_
    rintro _ _ ⟨rfl, rfl⟩
    refine SL.val (Val.assign rfl) rfl rfl ?_
    refine SL.nil ?_
    refine SE.seq ?_
    refine SC.seq ?_
    refine SC.region ?_
    refine SL.val (Val.move rfl) rfl rfl ?_
    refine SL.val (Val.move rfl) rfl rfl ?_
    refine SL.val (Val.eqI rfl rfl) rfl rfl ?_
    refine SL.val (Val.move rfl) rfl rfl ?_
    refine SL.bothP (t := 29) rfl ?_ (by intro hc29; exfalso; omega)
    intro hc29
    first
      | refine SL.val (Val.loadA tabOk rfl rfl rfl (by first | (apply Or.inl; (repeat (first | assumption | exact List.mem_cons_self | apply List.mem_cons_of_mem)); done) | (apply Or.inr; (repeat (first | assumption | exact List.mem_cons_self | apply List.mem_cons_of_mem)); done)) List.not_mem_nil (by rfl)) rfl rfl ?_
      | refine SL.val (Val.loadP tabOk rfl rfl rfl (by first | (apply Or.inl; (repeat (first | assumption | exact List.mem_cons_self | apply List.mem_cons_of_mem)); done) | (apply Or.inr; (repeat (first | assumption | exact List.mem_cons_self | apply List.mem_cons_of_mem)); done)) List.not_mem_nil (Nat.le_of_ble_eq_true (by rfl))) rfl rfl ?_
    first
      | refine SL.val (Val.loadA tabOk rfl rfl rfl (by first | (apply Or.inl; (repeat (first | assumption | exact List.mem_cons_self | apply List.mem_cons_of_mem)); done) | (apply Or.inr; (repeat (first | assumption | exact List.mem_cons_self | apply List.mem_cons_of_mem)); done)) List.not_mem_nil (by rfl)) rfl rfl ?_
      | refine SL.val (Val.loadP tabOk rfl rfl rfl (by first | (apply Or.inl; (repeat (first | assumption | exact List.mem_cons_self | apply List.mem_cons_of_mem)); done) | (apply Or.inr; (repeat (first | assumption | exact List.mem_cons_self | apply List.mem_cons_of_mem)); done)) List.not_mem_nil (Nat.le_of_ble_eq_true (by rfl))) rfl rfl ?_
    refine SL.call (rsame_s (c := (rparseC l n).1) (d := (rparseC l n).1) hr.pts hr.prep hr.prop hr.lits hr.lits) Casts.refl (by kernel_rfl) rfl rfl rfl ?_
    refine After.pure (by repeat (first | exact Reads.nil | refine Reads.blk (by repeat (first | assumption | exact List.mem_cons_self | apply List.mem_cons_of_mem)) ?_ | refine Reads.rd (by repeat (first | assumption | exact List.mem_cons_self | apply List.mem_cons_of_mem)) ?_ | refine Reads.pc (by repeat (first | assumption | exact List.mem_cons_self | apply List.mem_cons_of_mem)) ?_ | refine Reads.rdpc (by repeat (first | assumption | exact List.mem_cons_self | apply List.mem_cons_of_mem)) ?_)) (fun _ => rfl) ?_
    intro _
    refine SL.val (Val.pickT rfl rfl) rfl rfl ?_
    refine SL.val (Val.assign rfl) rfl rfl ?_
    refine SL.nil ?_
    refine SE.seq ?_
    refine SC.ret ?_
    refine SE.fin (rs := [.tmp 4]) rfl (RV.tmp rfl RV.nil) (()) (by repeat (first | exact List.nil_sublist _ | exact List.Sublist.refl _ | apply List.Sublist.cons_cons | apply List.Sublist.cons)) (by simp [It.rids]) ?_
    first | rfl | (rw [show yes ((rparseC l n).1 = (rparseC l n).1) = true from yes_iff.2 rfl]; rfl)
end
end Go.Proofs.Ytdbeinbgekdnmaa.A
