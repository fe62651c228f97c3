/-
  Packed out of the texts: L16.
-/
import Derived.Test.YtmkijjmbiiiicaaP010
/-
  The document's client: Receive.
-/
set_option maxRecDepth 100000
set_option linter.unusedSimpArgs false
set_option linter.unusedVariables false
namespace Go.Proofs.Ytmkijjmbiiiicaa.A
open Go.RowKit

section
variable {r q bd bt : Nat} {n id : Int} {x : Core} {m : Msg} {d : DS} {T : List (ByteArray × Nat)}
set_option maxHeartbeats 8000000 in
theorem drecv_s (hl : m.body.length ≤ 100000) (hn : Num1 T) (hT : T.length < 1000000) (hs : d.said.length ≤ 1000) (ha : d.acc.length ≤ 1000) : Spec Try.prog 21 [ptr r, .agg m.abs] [.blk r 51 (DS.cells q n id (d)), .rd q 68 [mapV bd, mapV bt], .rdpc (mapPc bt Value.string cntV sOk (T))] (fun _ : Unit => [.blk r 51 (DS.cells q n id (drecvS T n id d m))]) (fun _ => int (drecvE T n id d m)) := by
  refine spec_of Try.func21 rfl Try.ntmps21 rfl fun G w => ?_
  refine SC.seq (SC.region ?_)
  refine SL.eff (Eff.boxA (cs := m.abs) rfl) rfl rfl ?_
  rintro _ _ ⟨b3, rfl, rfl⟩
  refine SL.val (Val.assign rfl) rfl rfl ?_
  refine SL.nil (SE.seq ?_)
  refine SC.seq ?_
  refine SC.seq ?_
  refine SC.draw [] (.q 0 (.q 1 (.q 2 (.q 3 (.q 4 (.q 5 (.q 6 (.q 7 (.q 8 (.q 9 (.q 10 (.q 11 (.q 12 (.q 13 (.q 14 (.q 15 (.q 16 .nil))))))))))))))))) (by kernel_rfl) (by kernel_rfl) ?_
  refine SX.val rfl (Val.fieldAddr tabOk rfl rfl rfl rfl rfl) (by simp) rfl rfl ?_
  refine SX.val rfl (Val.load1 tabOk rfl rfl (by first|(apply Or.inl;(repeat first|assumption|exact m0|apply m1);done)|(apply Or.inr;(repeat first|assumption|exact m0|apply m1);done)) List.not_mem_nil (by rfl)) (by simp) rfl rfl ?_
  refine SX.val rfl (Val.neI rfl rfl) (by simp) rfl rfl ?_
  refine SX.val rfl (Val.move rfl) (by simp) rfl rfl ?_
  refine SX.bothP (t := 13) rfl ?_ ?_
  · intro hc13
    iterate 3 refine SX.skip rfl rfl rfl ?_
    refine SX.val rfl (Val.pickT rfl rfl) (by simp) rfl rfl ?_
    refine SX.val rfl (Val.move rfl) (by simp) rfl rfl ?_
    iterate 7 refine SX.skip rfl rfl rfl ?_
    refine SX.val rfl (Val.pickT rfl rfl) (by simp) rfl rfl ?_
    refine SX.nil (SE.seq ?_)
    refine SC.condT rfl ?_
    refine SC.seq (SC.region ?_)
    refine SL.val (Val.assign rfl) rfl rfl ?_
    refine SL.nil (SE.seq ?_)
    refine SC.ret ?_
    refine SE.then_ (by intro h; cases h) ?_
    have hR : (readR T n id d.stamp d.waits m) = (Rp.zero, 17) := by
      unfold readR
      rw [if_pos (by omega)]
    obtain ⟨hE, hS⟩ := drecv_err hR (by first | assumption | decide)
    refine SE.fin (rs := [.tmp 4]) rfl (RV.tmp rfl RV.nil) (()) (by rw [hS]; repeat (first | exact List.nil_sublist _ | exact List.Sublist.refl _ | apply List.Sublist.cons_cons | apply List.Sublist.cons)) (by simp [It.rids]) ?_
    rw [hE]
    rfl
  intro hc13
  refine SX.val rfl (Val.fieldAddr tabOk rfl rfl rfl rfl rfl) (by simp) rfl rfl ?_
  refine SX.val rfl (Val.load1 tabOk rfl rfl (by first|(apply Or.inl;(repeat first|assumption|exact m0|apply m1);done)|(apply Or.inr;(repeat first|assumption|exact m0|apply m1);done)) List.not_mem_nil (by rfl)) (by simp) rfl rfl ?_
  refine SX.val rfl (Val.ltI rfl rfl) (by simp) rfl rfl ?_
  refine SX.val rfl (Val.pickF rfl rfl) (by simp) rfl rfl ?_
  refine SX.val rfl (Val.move rfl) (by simp) rfl rfl ?_
  refine SX.bothP (t := 18) rfl ?_ ?_
  · intro hc18
    iterate 7 refine SX.skip rfl rfl rfl ?_
    refine SX.val rfl (Val.pickT rfl rfl) (by simp) rfl rfl ?_
    refine SX.nil (SE.seq ?_)
    refine SC.condT rfl ?_
    refine SC.seq (SC.region ?_)
    refine SL.val (Val.assign rfl) rfl rfl ?_
    refine SL.nil (SE.seq ?_)
    refine SC.ret ?_
    refine SE.then_ (by intro h; cases h) ?_
    have hR : (readR T n id d.stamp d.waits m) = (Rp.zero, 17) := by
      unfold readR
      rw [if_pos (by omega)]
    obtain ⟨hE, hS⟩ := drecv_err hR (by first | assumption | decide)
    refine SE.fin (rs := [.tmp 4]) rfl (RV.tmp rfl RV.nil) (()) (by rw [hS]; repeat (first | exact List.nil_sublist _ | exact List.Sublist.refl _ | apply List.Sublist.cons_cons | apply List.Sublist.cons)) (by simp [It.rids]) ?_
    rw [hE]
    rfl
  intro hc18
  refine SX.val rfl (Val.fieldAddr tabOk rfl rfl rfl rfl rfl) (by simp) rfl rfl ?_
  refine SX.val rfl (Val.load1 tabOk rfl rfl (by first|(apply Or.inl;(repeat first|assumption|exact m0|apply m1);done)|(apply Or.inr;(repeat first|assumption|exact m0|apply m1);done)) List.not_mem_nil (by rfl)) (by simp) rfl rfl ?_
  refine SX.val rfl (Val.move rfl) (by simp) rfl rfl ?_
  refine SX.val rfl (Val.nilCheck rfl) (by simp) rfl rfl ?_
  refine SX.val rfl (Val.fieldAddr tabOk rfl rfl rfl rfl rfl) (by simp) rfl rfl ?_
  refine SX.val rfl (Val.load1 tabOk rfl rfl (by first|(apply Or.inl;(repeat first|assumption|exact m0|apply m1);done)|(apply Or.inr;(repeat first|assumption|exact m0|apply m1);done)) List.not_mem_nil (by rfl)) (by simp) rfl rfl ?_
  refine SX.val rfl (Val.geI rfl rfl) (by simp) rfl rfl ?_
  refine SX.val rfl (Val.pickF rfl rfl) (by simp) rfl rfl ?_
  refine SX.nil (SE.seq ?_)
  refine SC.condP rfl ?_ ?_
  · intro hc26
    refine SC.seq (SC.region ?_)
    refine SL.val (Val.assign rfl) rfl rfl ?_
    refine SL.nil (SE.seq ?_)
    refine SC.ret ?_
    refine SE.then_ (by intro h; cases h) ?_
    have hR : (readR T n id d.stamp d.waits m) = (Rp.zero, 17) := by
      unfold readR
      rw [if_pos (by omega)]
    obtain ⟨hE, hS⟩ := drecv_err hR (by first | assumption | decide)
    refine SE.fin (rs := [.tmp 4]) rfl (RV.tmp rfl RV.nil) (()) (by rw [hS]; repeat (first | exact List.nil_sublist _ | exact List.Sublist.refl _ | apply List.Sublist.cons_cons | apply List.Sublist.cons)) (by simp [It.rids]) ?_
    rw [hE]
    rfl
  intro hc26
  refine SC.skip ?_
  refine SE.seq ?_
  refine SC.seq ?_
  refine SC.seq ?_
  refine SC.draw [] (.q 0 (.q 1 (.q 2 (.q 3 (.q 4 (.q 5 (.q 6 (.q 7 (.q 8 (.q 9 (.q 10 (.q 11 (.q 12 (.q 13 (.q 14 (.q 15 (.q 16 (.q 17 (.q 19 (.q 20 (.q 22 (.q 23 (.q 24 (.q 25 (.e 18 (.e 21 (.e 26 (.q 27 (.q 28 .nil))))))))))))))))))))))))))))) (by kernel_rfl) (by kernel_rfl) ?_
  refine SX.val rfl (Val.fieldAddr tabOk rfl rfl rfl rfl rfl) (by first | (simp [mids, It.mids, ownPc, mapPc]; done) | (intro k hk; simp [mids, It.mids, ownPc, mapPc] at hk ⊢; grind)) rfl rfl ?_
  refine SX.val rfl (Val.load1 tabOk rfl rfl (by first|(apply Or.inl;(repeat first|assumption|exact m0|apply m1);done)|(apply Or.inr;(repeat first|assumption|exact m0|apply m1);done)) List.not_mem_nil (by rfl)) (by first | (simp [mids, It.mids, ownPc, mapPc]; done) | (intro k hk; simp [mids, It.mids, ownPc, mapPc] at hk ⊢; grind)) rfl rfl ?_
  first
    | refine SX.val rfl (Val.lenSl rfl Try.underlying38 (List.length_map _)) (by first | (simp [mids, It.mids, ownPc, mapPc]; done) | (intro k hk; simp [mids, It.mids, ownPc, mapPc] at hk ⊢; grind)) rfl rfl ?_
    | refine SX.val rfl (Val.lenOwn rfl (by repeat first|assumption|exact m0|apply m1) Try.underlying38 (List.length_map _)) (by first | (simp [mids, It.mids, ownPc, mapPc]; done) | (intro k hk; simp [mids, It.mids, ownPc, mapPc] at hk ⊢; grind)) rfl rfl ?_
    | refine SX.val rfl (Val.lenNil rfl Try.underlying38) (by first | (simp [mids, It.mids, ownPc, mapPc]; done) | (intro k hk; simp [mids, It.mids, ownPc, mapPc] at hk ⊢; grind)) rfl rfl ?_
  refine SX.val rfl (Val.ltI rfl rfl) (by first | (simp [mids, It.mids, ownPc, mapPc]; done) | (intro k hk; simp [mids, It.mids, ownPc, mapPc] at hk ⊢; grind)) rfl rfl ?_
  refine SX.val rfl (Val.move rfl) (by first | (simp [mids, It.mids, ownPc, mapPc]; done) | (intro k hk; simp [mids, It.mids, ownPc, mapPc] at hk ⊢; grind)) rfl rfl ?_
  refine SX.bothP (t := 31) rfl ?_ ?_
  · intro hc31
    iterate 19 refine SX.skip rfl rfl rfl ?_
    refine SX.skip' rfl rfl rfl ?_
    refine SX.skip' rfl rfl rfl ?_
    refine SX.skip' rfl rfl rfl ?_
    refine SX.skip rfl rfl rfl ?_
    refine SX.val rfl (Val.pickT rfl rfl) (by first | (simp [mids, It.mids, ownPc, mapPc]; done) | (intro k hk; simp [mids, It.mids, ownPc, mapPc] at hk ⊢; grind)) rfl rfl ?_
    refine SX.nil (SE.seq ?_)
    refine SC.condT rfl ?_
    refine SC.seq (SC.region ?_)
    refine SL.val (Val.assign rfl) rfl rfl ?_
    refine SL.nil (SE.seq ?_)
    refine SC.ret ?_
    refine SE.then_ (by intro h; cases h) ?_
    have hR : (readR T n id d.stamp d.waits m) = (Rp.zero, 12) := by
      unfold readR
      rw [if_neg (by omega), if_pos (by first | (rw [chk_none (by omega)]; decide) | (rw [chk_first hq, if_neg (by intro h; rw [h] at hc55; cases hc55)]; decide))]
    obtain ⟨hE, hS⟩ := drecv_err hR (by first | assumption | decide)
    refine SE.fin (rs := [.tmp 4]) rfl (RV.tmp rfl RV.nil) (()) (by rw [hS]; repeat (first | exact List.nil_sublist _ | exact List.Sublist.refl _ | apply List.Sublist.cons_cons | apply List.Sublist.cons)) (by simp [It.rids]) ?_
    rw [hE]
    rfl
  intro hc31
  have hq : 0 < m.tags.length := by omega
  refine SX.val rfl (Val.move rfl) (by first | (simp [mids, It.mids, ownPc, mapPc]; done) | (intro k hk; simp [mids, It.mids, ownPc, mapPc] at hk ⊢; grind)) rfl rfl ?_
  refine SX.val rfl (Val.nilCheck rfl) (by first | (simp [mids, It.mids, ownPc, mapPc]; done) | (intro k hk; simp [mids, It.mids, ownPc, mapPc] at hk ⊢; grind)) rfl rfl ?_
  refine SX.val rfl (Val.fieldAddr tabOk rfl rfl rfl rfl rfl) (by first | (simp [mids, It.mids, ownPc, mapPc]; done) | (intro k hk; simp [mids, It.mids, ownPc, mapPc] at hk ⊢; grind)) rfl rfl ?_
  refine SX.val rfl (Val.load1 tabOk rfl rfl (by first|(apply Or.inl;(repeat first|assumption|exact m0|apply m1);done)|(apply Or.inr;(repeat first|assumption|exact m0|apply m1);done)) List.not_mem_nil (by rfl)) (by first | (simp [mids, It.mids, ownPc, mapPc]; done) | (intro k hk; simp [mids, It.mids, ownPc, mapPc] at hk ⊢; grind)) rfl rfl ?_
  refine SX.val rfl (Val.fieldAddr tabOk rfl rfl rfl rfl rfl) (by first | (simp [mids, It.mids, ownPc, mapPc]; done) | (intro k hk; simp [mids, It.mids, ownPc, mapPc] at hk ⊢; grind)) rfl rfl ?_
  refine SX.val rfl (Val.load1 tabOk rfl rfl (by first|(apply Or.inl;(repeat first|assumption|exact m0|apply m1);done)|(apply Or.inr;(repeat first|assumption|exact m0|apply m1);done)) List.not_mem_nil (by rfl)) (by first | (simp [mids, It.mids, ownPc, mapPc]; done) | (intro k hk; simp [mids, It.mids, ownPc, mapPc] at hk ⊢; grind)) rfl rfl ?_
  refine SX.val rfl (Val.move rfl) (by first | (simp [mids, It.mids, ownPc, mapPc]; done) | (intro k hk; simp [mids, It.mids, ownPc, mapPc] at hk ⊢; grind)) rfl rfl ?_
  refine SX.val rfl (Val.nilCheck rfl) (by first | (simp [mids, It.mids, ownPc, mapPc]; done) | (intro k hk; simp [mids, It.mids, ownPc, mapPc] at hk ⊢; grind)) rfl rfl ?_
  refine SX.val rfl (Val.fieldAddr tabOk rfl rfl rfl rfl rfl) (by first | (simp [mids, It.mids, ownPc, mapPc]; done) | (intro k hk; simp [mids, It.mids, ownPc, mapPc] at hk ⊢; grind)) rfl rfl ?_
  refine SX.val rfl (Val.load1 tabOk rfl rfl (by first|(apply Or.inl;(repeat first|assumption|exact m0|apply m1);done)|(apply Or.inr;(repeat first|assumption|exact m0|apply m1);done)) List.not_mem_nil (by rfl)) (by first | (simp [mids, It.mids, ownPc, mapPc]; done) | (intro k hk; simp [mids, It.mids, ownPc, mapPc] at hk ⊢; grind)) rfl rfl ?_
  refine SX.val rfl (Val.fieldAddr tabOk rfl rfl rfl rfl rfl) (by first | (simp [mids, It.mids, ownPc, mapPc]; done) | (intro k hk; simp [mids, It.mids, ownPc, mapPc] at hk ⊢; grind)) rfl rfl ?_
  refine SX.val rfl (Val.load1 tabOk rfl rfl (by first|(apply Or.inl;(repeat first|assumption|exact m0|apply m1);done)|(apply Or.inr;(repeat first|assumption|exact m0|apply m1);done)) List.not_mem_nil (by rfl)) (by first | (simp [mids, It.mids, ownPc, mapPc]; done) | (intro k hk; simp [mids, It.mids, ownPc, mapPc] at hk ⊢; grind)) rfl rfl ?_
  refine SX.val rfl (Val.to (C := .v (.int .u8 (k8 m.kind : Nat))) (Val.convW rfl Try.underlying5 (by kernel_rfl)) (congrArg Abs.v (wrap_u8 m.kind))) (by first | (simp [mids, It.mids, ownPc, mapPc]; done) | (intro k hk; simp [mids, It.mids, ownPc, mapPc] at hk ⊢; grind)) rfl rfl ?_
  refine SX.val rfl (Val.fieldAddr tabOk rfl rfl rfl rfl rfl) (by first | (simp [mids, It.mids, ownPc, mapPc]; done) | (intro k hk; simp [mids, It.mids, ownPc, mapPc] at hk ⊢; grind)) rfl rfl ?_
  refine SX.val rfl (Val.load1 tabOk rfl rfl (by first|(apply Or.inl;(repeat first|assumption|exact m0|apply m1);done)|(apply Or.inr;(repeat first|assumption|exact m0|apply m1);done)) List.not_mem_nil (by rfl)) (by first | (simp [mids, It.mids, ownPc, mapPc]; done) | (intro k hk; simp [mids, It.mids, ownPc, mapPc] at hk ⊢; grind)) rfl rfl ?_
  refine SX.val rfl (Val.fieldAddr tabOk rfl rfl rfl rfl rfl) (by first | (simp [mids, It.mids, ownPc, mapPc]; done) | (intro k hk; simp [mids, It.mids, ownPc, mapPc] at hk ⊢; grind)) rfl rfl ?_
  refine SX.val rfl (Val.load1 tabOk rfl rfl (by first|(apply Or.inl;(repeat first|assumption|exact m0|apply m1);done)|(apply Or.inr;(repeat first|assumption|exact m0|apply m1);done)) List.not_mem_nil (by rfl)) (by first | (simp [mids, It.mids, ownPc, mapPc]; done) | (intro k hk; simp [mids, It.mids, ownPc, mapPc] at hk ⊢; grind)) rfl rfl ?_
  refine SX.val rfl (Val.indexSl (q := 0) tabOk Try.underlying38 rfl rfl rfl rfl (at_map hq) rfl rfl) (by first | (simp [mids, It.mids, ownPc, mapPc]; done) | (intro k hk; simp [mids, It.mids, ownPc, mapPc] at hk ⊢; grind)) rfl rfl ?_
  refine SX.val rfl (Val.loadAR tabOk rfl rfl rfl (Tg.size _)) (by first | (simp [mids, It.mids, ownPc, mapPc]; done) | (intro k hk; simp [mids, It.mids, ownPc, mapPc] at hk ⊢; grind)) rfl rfl ?_
  refine SX.effN [] [] rfl (Eff.buildOwn tabOk Try.underlying37 rfl rfl rfl rfl rfl rfl rfl) rfl (by first | exact own_mid List.mem_cons_self | (simp; done)) rfl rfl ?_
  rintro _ _ ⟨r45, rfl, rfl⟩
  refine ⟨[own 5 1 r45 [[Abs.v (Value.int .u8 (k8 m.kind : Nat))]]], rfl, ?_⟩
  refine SX.effN [own 5 1 r45 [[Abs.v (Value.int .u8 (k8 m.kind : Nat))]]] [] rfl (Eff.frozen [] (Eff.appendE (zs := bs (textV m.kind m.body)) tabOk [] (by
      show [[Abs.v (Value.int .u8 (k8 m.kind : Nat))]] ++ bs m.body = _
      rw [← wrap_u8, wrap_bc]
      rfl) Try.underlying37 rfl rfl rfl rfl rfl rfl (bs_ones _) (by unfold maxLen; simp only [bs, List.length_map, List.length_cons, List.length_nil]; omega) (by rw [show Try.prog.bytesOf 5 = 1 by kernel_rfl]; simp only [bs, List.length_map, List.length_cons, List.length_nil]; omega))) rfl (by first | exact own_mid List.mem_cons_self | (simp; done)) rfl rfl ?_
  rintro _ _ ⟨rfl, rfl⟩
  refine ⟨[], rfl, ?_⟩
  refine SX.call rfl (icheck_s (q := q) (bd := bd) (bt := bt) (T := T) (a := m.from_) (b := id) (l := (textV m.kind m.body)) (M := (m.tags[0]'hq).d) (by simp [textV]; omega) hn hT (m.tags[0]'hq).len) (by simp [mids, It.mids, mapPc, It.toRd]) Casts.refl (by kernel_rfl) rfl rfl rfl ?_
  refine After.pure (by repeat (first | exact Reads.nil | (refine Reads.blk ?_ ?_; focus ((repeat first|assumption|exact m0|apply m1); done)) | (refine Reads.rd ?_ ?_; focus ((repeat first|assumption|exact m0|apply m1); done)) | (refine Reads.pc ?_ ?_; focus ((repeat first|assumption|exact m0|apply m1); done)) | (refine Reads.rdpc ?_ ?_; focus ((repeat first|assumption|exact m0|apply m1); done)))) (fun _ => rfl) ?_
  intro _
  refine SX.val rfl (Val.notB rfl) (by first | (simp [mids, It.mids, ownPc, mapPc]; done) | (intro k hk; simp [mids, It.mids, ownPc, mapPc] at hk ⊢; grind)) rfl rfl ?_
  refine SX.val rfl (Val.pickF rfl rfl) (by first | (simp [mids, It.mids, ownPc, mapPc]; done) | (intro k hk; simp [mids, It.mids, ownPc, mapPc] at hk ⊢; grind)) rfl rfl ?_
  refine SX.nil (SE.seq ?_)
  refine SC.cond rfl ?_ ?_
  · intro hc55
    refine SC.seq (SC.region ?_)
    refine SL.val (Val.assign rfl) rfl rfl ?_
    refine SL.nil (SE.seq ?_)
    refine SC.ret ?_
    refine SE.then_ (by intro h; cases h) ?_
    have hR : (readR T n id d.stamp d.waits m) = (Rp.zero, 12) := by
      unfold readR
      rw [if_neg (by omega), if_pos (by first | (rw [chk_none (by omega)]; decide) | (rw [chk_first hq, if_neg (by intro h; rw [h] at hc55; cases hc55)]; decide))]
    obtain ⟨hE, hS⟩ := drecv_err hR (by first | assumption | decide)
    refine SE.fin (rs := [.tmp 4]) rfl (RV.tmp rfl RV.nil) (()) (by rw [hS]; repeat (first | exact List.nil_sublist _ | exact List.Sublist.refl _ | apply List.Sublist.cons_cons | apply List.Sublist.cons)) (by simp [It.rids]) ?_
    rw [hE]
    rfl
  intro hc55
  have hck : chkMI T m 0 id = 0 := by
    rw [chk_first hq]
    exact if_pos (by simpa only [Bool.not_eq_false'] using hc55)
  refine SC.skip ?_
  refine SE.seq ?_
  refine SC.seq ?_
  refine SC.draw [] (.q 0 (.q 1 (.q 2 (.q 3 (.q 4 (.q 5 (.two 6 10 (.q 7 (.q 8 (.q 9 (.e 10 (.e 11 (.q 12 .nil)))))) (.e 6 (.q 7 (.q 8 (.q 9 (.e 11 (.q 12 .nil))))))))))))) (by kernel_rfl) (by kernel_rfl) ?_
  refine SX.val rfl (Val.fieldAddr tabOk rfl rfl rfl rfl rfl) (by simp) rfl rfl ?_
  refine SX.val rfl (Val.load1 tabOk rfl rfl (by first|(apply Or.inl;(repeat first|assumption|exact m0|apply m1);done)|(apply Or.inr;(repeat first|assumption|exact m0|apply m1);done)) List.not_mem_nil (by rfl)) (by simp) rfl rfl ?_
  refine SX.val rfl (Val.move rfl) (by simp) rfl rfl ?_
  refine SX.val rfl (Val.nilCheck rfl) (by simp) rfl rfl ?_
  refine SX.val rfl (Val.fieldAddr tabOk rfl rfl rfl rfl rfl) (by simp) rfl rfl ?_
  refine SX.val rfl (Val.load1 tabOk rfl rfl (by first|(apply Or.inl;(repeat first|assumption|exact m0|apply m1);done)|(apply Or.inr;(repeat first|assumption|exact m0|apply m1);done)) List.not_mem_nil (by rfl)) (by simp) rfl rfl ?_
  refine SX.two ?_ ?_
  · skip
    refine SX.call rfl (rpparse_s (l := m.body) (n := n) (by omega)) (by simp [mids, It.mids]) Casts.refl (by kernel_rfl) rfl rfl rfl ?_
    refine After.pure (by repeat (first | exact Reads.nil | (refine Reads.blk ?_ ?_; focus ((repeat first|assumption|exact m0|apply m1); done)) | (refine Reads.rd ?_ ?_; focus ((repeat first|assumption|exact m0|apply m1); done)) | (refine Reads.pc ?_ ?_; focus ((repeat first|assumption|exact m0|apply m1); done)) | (refine Reads.rdpc ?_ ?_; focus ((repeat first|assumption|exact m0|apply m1); done)))) (fun _ => rfl) ?_
    intro _
    refine SX.val rfl (Val.move rfl) (by simp) rfl rfl ?_
    refine SX.val rfl (Val.extract rfl rfl) (by simp) rfl rfl ?_
    refine SX.val rfl (Val.extract rfl rfl) (by simp) rfl rfl ?_
    refine SX.alloc tabOk rfl rfl rfl rfl fun b5 => ?_
    refine SX.eff rfl (Eff.store (L' := (parseR m.body n).1.abs) tabOk rfl rfl rfl (by repeat first|assumption|exact Upd.here|apply Upd.there) rfl (Nat.le_of_ble_eq_true (by rfl)) rfl (by exact putL_whole rfl)) (by simp) rfl rfl ?_
    rintro _ _ ⟨rfl, rfl⟩
    refine SX.val rfl (Val.assign rfl) (by first | (simp [mids, It.mids, ownPc, mapPc]; done) | (intro k hk; simp [mids, It.mids, ownPc, mapPc] at hk ⊢; grind)) rfl rfl ?_
    refine SX.nil (SE.seq ?_)
    refine SC.seq ?_
    refine SC.seq (SC.region ?_)
    refine SL.val (Val.move rfl) rfl rfl ?_
    refine SL.val (Val.neI rfl rfl) rfl rfl ?_
    refine SL.nil (SE.seq ?_)
    refine SC.condP rfl ?_ ?_
    · intro hc67
      refine SC.seq (SC.region ?_)
      refine SL.val (Val.move rfl) rfl rfl ?_
      refine SL.val (Val.assign rfl) rfl rfl ?_
      refine SL.nil (SE.seq ?_)
      refine SC.ret ?_
      refine SE.then_ (by intro h; cases h) ?_
      have hR : (readR T n id d.stamp d.waits m) = (Rp.zero, (parseR m.body n).2) := by
        unfold readR
        rw [if_neg (by omega), if_neg (by omega), if_pos (by assumption)]
      obtain ⟨hE, hS⟩ := drecv_err hR (by first | assumption | decide)
      refine SE.fin (rs := [.tmp 4]) rfl (RV.tmp rfl RV.nil) (()) (by rw [hS]; repeat (first | exact List.nil_sublist _ | exact List.Sublist.refl _ | apply List.Sublist.cons_cons | apply List.Sublist.cons)) (by simp [It.rids]) ?_
      rw [hE]
      rfl
    intro hc67
    refine SC.skip ?_
    refine SE.seq ?_
    refine SC.seq ?_
    refine SC.seq ?_
    refine SC.draw [] (.q 0 (.q 1 (.q 2 (.q 3 (.q 4 (.q 5 (.q 6 .nil))))))) (by kernel_rfl) (by kernel_rfl) ?_
    refine SX.val rfl (Val.fieldAddr tabOk rfl rfl rfl rfl rfl) (by simp) rfl rfl ?_
    refine SX.val rfl (Val.load1 tabOk rfl rfl (by first|(apply Or.inl;(repeat first|assumption|exact m0|apply m1);done)|(apply Or.inr;(repeat first|assumption|exact m0|apply m1);done)) List.not_mem_nil (by rfl)) (by simp) rfl rfl ?_
    refine SX.val rfl (Val.move rfl) (by simp) rfl rfl ?_
    refine SX.val rfl (Val.nilCheck rfl) (by simp) rfl rfl ?_
    refine SX.val rfl (Val.fieldAddr tabOk rfl rfl rfl rfl rfl) (by simp) rfl rfl ?_
    refine SX.val rfl (Val.load1 tabOk rfl rfl (by first|(apply Or.inl;(repeat first|assumption|exact m0|apply m1);done)|(apply Or.inr;(repeat first|assumption|exact m0|apply m1);done)) List.not_mem_nil (by rfl)) (by simp) rfl rfl ?_
    refine SX.val rfl (Val.neI rfl rfl) (by simp) rfl rfl ?_
    refine SX.nil (SE.seq ?_)
    refine SC.condP rfl ?_ ?_
    · intro hc75
      refine SC.seq (SC.region ?_)
      refine SL.val (Val.assign rfl) rfl rfl ?_
      refine SL.nil (SE.seq ?_)
      refine SC.ret ?_
      refine SE.then_ (by intro h; cases h) ?_
      have hR : (readR T n id d.stamp d.waits m) = (Rp.zero, 17) := by
        unfold readR
        rw [if_neg (by omega), if_neg (by omega), if_neg (by omega), if_pos (by assumption)]
      obtain ⟨hE, hS⟩ := drecv_err hR (by first | assumption | decide)
      refine SE.fin (rs := [.tmp 4]) rfl (RV.tmp rfl RV.nil) (()) (by rw [hS]; repeat (first | exact List.nil_sublist _ | exact List.Sublist.refl _ | apply List.Sublist.cons_cons | apply List.Sublist.cons)) (by simp [It.rids]) ?_
      rw [hE]
      rfl
    intro hc75
    refine SC.skip ?_
    refine SE.seq ?_
    refine SC.seq ?_
    refine SC.seq ?_
    refine SC.draw [] (.q 0 (.q 1 (.q 2 (.q 3 (.q 4 (.q 5 (.q 6 (.q 7 (.q 8 (.q 9 (.q 10 (.q 11 (.q 12 (.q 13 .nil)))))))))))))) (by kernel_rfl) (by kernel_rfl) ?_
    refine SX.val rfl (Val.move rfl) (by simp) rfl rfl ?_
    refine SX.val rfl (Val.nilCheck rfl) (by simp) rfl rfl ?_
    refine SX.val rfl (Val.fieldAddr tabOk rfl rfl rfl rfl rfl) (by simp) rfl rfl ?_
    refine SX.val rfl (Val.load1 tabOk rfl rfl (by first|(apply Or.inl;(repeat first|assumption|exact m0|apply m1);done)|(apply Or.inr;(repeat first|assumption|exact m0|apply m1);done)) List.not_mem_nil (by rfl)) (by simp) rfl rfl ?_
    refine SX.val rfl (Val.notB rfl) (by simp) rfl rfl ?_
    refine SX.val rfl (Val.move rfl) (by simp) rfl rfl ?_
    refine SX.both (t := 81) rfl ?_ ?_
    · intro hc81
      have hW : d.waits = false := by simpa using hc81
      iterate 7 refine SX.skip rfl rfl rfl ?_
      refine SX.val rfl (Val.pickT rfl rfl) (by simp) rfl rfl ?_
      refine SX.nil (SE.seq ?_)
      refine SC.condT rfl ?_
      refine SC.seq (SC.region ?_)
      refine SL.val (Val.assign rfl) rfl rfl ?_
      refine SL.nil (SE.seq ?_)
      refine SC.ret ?_
      refine SE.then_ (by intro h; cases h) ?_
      have hR : (readR T n id d.stamp d.waits m) = (Rp.zero, 10) := by
        unfold readR
        rw [if_neg (by omega), if_neg (by omega), if_neg (by omega), if_neg (by omega), if_pos (by first | exact .inl hW | exact .inr (by assumption))]
      obtain ⟨hE, hS⟩ := drecv_err hR (by first | assumption | decide)
      refine SE.fin (rs := [.tmp 4]) rfl (RV.tmp rfl RV.nil) (()) (by rw [hS]; repeat (first | exact List.nil_sublist _ | exact List.Sublist.refl _ | apply List.Sublist.cons_cons | apply List.Sublist.cons)) (by simp [It.rids]) ?_
      rw [hE]
      rfl
    intro hc81
    have hW : ¬ d.waits = false := by simpa using hc81
    refine SX.val rfl (Val.fieldAddr tabOk rfl rfl rfl rfl rfl) (by simp) rfl rfl ?_
    refine SX.val rfl (Val.load1 tabOk rfl rfl (by first|(apply Or.inl;(repeat first|assumption|exact m0|apply m1);done)|(apply Or.inr;(repeat first|assumption|exact m0|apply m1);done)) List.not_mem_nil (by rfl)) (by simp) rfl rfl ?_
    refine SX.val rfl (Val.move rfl) (by simp) rfl rfl ?_
    refine SX.val rfl (Val.nilCheck rfl) (by simp) rfl rfl ?_
    refine SX.val rfl (Val.fieldAddr tabOk rfl rfl rfl rfl rfl) (by simp) rfl rfl ?_
    refine SX.val rfl (Val.load1 tabOk rfl rfl (by first|(apply Or.inl;(repeat first|assumption|exact m0|apply m1);done)|(apply Or.inr;(repeat first|assumption|exact m0|apply m1);done)) List.not_mem_nil (by rfl)) (by simp) rfl rfl ?_
    refine SX.val rfl (Val.neI rfl rfl) (by simp) rfl rfl ?_
    refine SX.val rfl (Val.pickF rfl rfl) (by simp) rfl rfl ?_
    refine SX.nil (SE.seq ?_)
    refine SC.condP rfl ?_ ?_
    · intro hc89
      refine SC.seq (SC.region ?_)
      refine SL.val (Val.assign rfl) rfl rfl ?_
      refine SL.nil (SE.seq ?_)
      refine SC.ret ?_
      refine SE.then_ (by intro h; cases h) ?_
      have hR : (readR T n id d.stamp d.waits m) = (Rp.zero, 10) := by
        unfold readR
        rw [if_neg (by omega), if_neg (by omega), if_neg (by omega), if_neg (by omega), if_pos (by first | exact .inl hW | exact .inr (by assumption))]
      obtain ⟨hE, hS⟩ := drecv_err hR (by first | assumption | decide)
      refine SE.fin (rs := [.tmp 4]) rfl (RV.tmp rfl RV.nil) (()) (by rw [hS]; repeat (first | exact List.nil_sublist _ | exact List.Sublist.refl _ | apply List.Sublist.cons_cons | apply List.Sublist.cons)) (by simp [It.rids]) ?_
      rw [hE]
      rfl
    intro hc89
    refine SC.skip ?_
    refine SE.seq ?_
    refine SC.seq (SC.region ?_)
    refine SL.val (Val.assign rfl) rfl rfl ?_
    refine SL.nil (SE.seq ?_)
    refine SC.seq ?_
    refine SC.seq (SC.region ?_)
    refine SL.val (Val.move rfl) rfl rfl ?_
    refine SL.val (Val.nilCheck rfl) rfl rfl ?_
    refine SL.val (Val.fieldAddr tabOk rfl rfl rfl rfl rfl) rfl rfl ?_
    refine SL.val (Val.load1 tabOk rfl rfl (by first|(apply Or.inl;(repeat first|assumption|exact m0|apply m1);done)|(apply Or.inr;(repeat first|assumption|exact m0|apply m1);done)) List.not_mem_nil (by rfl)) rfl rfl ?_
    first
      | refine SL.val (Val.lenSl rfl Try.underlying49 (List.length_map _)) rfl rfl ?_
      | refine SL.val (Val.lenOwn rfl (by repeat first|assumption|exact m0|apply m1) Try.underlying49 (List.length_map _)) rfl rfl ?_
      | refine SL.val (Val.lenNil rfl Try.underlying49) rfl rfl ?_
    refine SL.val (Val.move rfl) rfl rfl ?_
    refine SL.nil (SE.seq ?_)
    refine SC.block ?_
    have hn7 := (parseR_ok2 (l := m.body) (n := n) (by omega)).1
    have hR : readR T n id d.stamp d.waits m = ((parseR m.body n).1, 0) := by
      unfold readR
      rw [if_neg (by omega), if_neg (by omega), if_neg (by omega), if_neg (by omega), if_neg (by rintro (h | h); exact hW h; omega)]
    refine SC.loop (ι := Nat) (fun z => [.blk b5 53 (parseR m.body n).1.abs, .blk b3 40 m.abs, .blk r 51 (DS.cells q n id (d)), .rd q 68 [mapV bd, mapV bt], .rdpc (mapPc bt Value.string cntV sOk (T))]) (fun z => [(0, ptr r), (3, ptr b3), (5, ptr b5), (7, int ((1 + cnt (d.said.take z) (parseR m.body n).1.result : Nat) : Int)), (93, .sl 2 (saidL d.said)), (94, int (d.said.length : Nat)), (95, int (z : Nat))]) (fun z => z ≤ d.said.length ∧ ∀ j (hj : j < d.said.length), j < z → ¬ d.said[j].1 = m.from_) (fun z => d.said.length - z) (0) (⟨Nat.zero_le _, fun j _ h => absurd h (by omega)⟩) (by exact ⟨rfl, rfl, rfl, rfl, rfl, rfl, rfl, trivial⟩) (by repeat first|exact s0 _|exact s1 _|apply s2|apply s3) ?_
    intro z hz
    refine SC.seq (SC.region ?_)
    refine SL.val (Val.ltI rfl rfl) rfl rfl ?_
    refine SL.nil (SE.seq ?_)
    refine SC.seq ?_
    refine SC.condP rfl ?_ ?_
    · intro hc96
      have hlt : z < d.said.length := by omega
      have hct := cnt_take hlt (parseR m.body n).1.result
      have hcb := cnt_le (d.said.take z) (parseR m.body n).1.result
      rw [List.length_take] at hcb
      refine SC.skip ?_
      refine SE.seq ?_
      refine SC.seq ?_
      refine SC.block ?_
      refine SC.seq (SC.region ?_)
      refine SL.val (Val.indexSl tabOk Try.underlying49 rfl rfl rfl rfl (at_map (by omega)) rfl rfl) rfl rfl ?_
      refine SL.val (Val.loadAR tabOk rfl rfl rfl rfl) rfl rfl ?_
      refine SL.eff (Eff.alloc tabOk rfl) rfl rfl ?_
      rintro _ _ ⟨b9, rfl, rfl⟩
      refine SL.eff (Eff.store (L' := [int (d.said[z]'hlt).1, int (d.said[z]'hlt).2]) tabOk rfl rfl rfl (by repeat first|assumption|exact Upd.here|apply Upd.there) rfl (Nat.le_of_ble_eq_true (by rfl)) rfl (by exact putL_whole rfl)) rfl rfl ?_
      rintro _ _ ⟨rfl, rfl⟩
      refine SL.nil (SE.seq ?_)
      refine SC.seq ?_
      refine SC.seq (SC.region ?_)
      refine SL.val (Val.fieldAddr tabOk rfl rfl rfl rfl rfl) rfl rfl ?_
      refine SL.val (Val.load1 tabOk rfl rfl (by first|(apply Or.inl;(repeat first|assumption|exact m0|apply m1);done)|(apply Or.inr;(repeat first|assumption|exact m0|apply m1);done)) List.not_mem_nil (by rfl)) rfl rfl ?_
      refine SL.val (Val.fieldAddr tabOk rfl rfl rfl rfl rfl) rfl rfl ?_
      refine SL.val (Val.load1 tabOk rfl rfl (by first|(apply Or.inl;(repeat first|assumption|exact m0|apply m1);done)|(apply Or.inr;(repeat first|assumption|exact m0|apply m1);done)) List.not_mem_nil (by rfl)) rfl rfl ?_
      refine SL.val (Val.eqI rfl rfl) rfl rfl ?_
      refine SL.nil (SE.seq ?_)
      refine SC.condP rfl ?_ ?_
      · intro hc103
        refine SC.seq (SC.region ?_)
        refine SL.val (Val.assign rfl) rfl rfl ?_
        refine SL.nil (SE.seq ?_)
        refine SC.ret ?_
        refine SE.then_ (by intro h; cases h) ?_
        refine SE.ret ?_
        refine SE.then_ (by intro h; cases h) ?_
        refine SE.then_ (by intro h; cases h) ?_
        refine SE.ret ?_
        refine SE.then_ (by intro h; cases h) ?_
        obtain ⟨hE, hS⟩ := drecv_twice (T := T) (n := n) (id := id) (d := d) (m := m) (by rw [hR]) (said_at hlt (by omega))
        refine SE.fin (rs := [.tmp 4]) rfl (RV.tmp rfl RV.nil) (()) (by rw [hS]; repeat (first | exact List.nil_sublist _ | exact List.Sublist.refl _ | apply List.Sublist.cons_cons | apply List.Sublist.cons)) (by simp [It.rids]) ?_
        rw [hE]
        rfl
      intro hc103
      refine SC.skip ?_
      refine SE.seq ?_
      refine SC.seq (SC.region ?_)
      refine SL.val (Val.fieldAddr tabOk rfl rfl rfl rfl rfl) rfl rfl ?_
      refine SL.val (Val.load1 tabOk rfl rfl (by first|(apply Or.inl;(repeat first|assumption|exact m0|apply m1);done)|(apply Or.inr;(repeat first|assumption|exact m0|apply m1);done)) List.not_mem_nil (by rfl)) rfl rfl ?_
      refine SL.val (Val.fieldAddr tabOk rfl rfl rfl rfl rfl) rfl rfl ?_
      refine SL.val (Val.load1 tabOk rfl rfl (by first|(apply Or.inl;(repeat first|assumption|exact m0|apply m1);done)|(apply Or.inr;(repeat first|assumption|exact m0|apply m1);done)) List.not_mem_nil (by rfl)) rfl rfl ?_
      refine SL.val (Val.eqI rfl rfl) rfl rfl ?_
      refine SL.nil (SE.seq ?_)
      refine SC.condP rfl ?_ ?_
      rotate_left
      · intro hc108
        rw [if_neg (by assumption)] at hct
        refine SC.skip ?_
        refine SE.inBlock ?_
        refine SE.seq ?_
        refine SC.region ?_
        first
          | refine SL.val (Val.addI rfl rfl (by simp only [InR, lo, hi]; omega)) rfl rfl ?_
          | refine SL.val (Val.addW rfl rfl) rfl rfl ?_
        refine SL.val (Val.move rfl) rfl rfl ?_
        refine SL.nil ?_
        refine SE.round (z + 1) (by first | omega | (dsimp only; omega)) (⟨hlt, fun j hj h => by rcases Nat.lt_or_ge j z with h1 | h1; exact hz.2 j hj h1; obtain rfl : j = z := (by omega); assumption⟩) (by rw [hct]; first | exact ⟨rfl, rfl, rfl, rfl, rfl, rfl, rfl, trivial⟩ | exact ⟨rfl, rfl, rfl, congrArg (fun k : Int => some (Abs.v (Value.int .i64 k))) (by omega), rfl, rfl, rfl, trivial⟩) (by repeat first|exact s0 _|exact s1 _|apply s2|apply s3)
      intro hc108
      rw [if_pos (by assumption)] at hct
      refine SC.region ?_
      refine SL.val (Val.move rfl) rfl rfl ?_
      first
        | refine SL.val (Val.addI rfl rfl (by simp only [InR, lo, hi]; omega)) rfl rfl ?_
        | refine SL.val (Val.addW rfl rfl) rfl rfl ?_
      refine SL.val (Val.assign rfl) rfl rfl ?_
      refine SL.nil ?_
      refine SE.inBlock ?_
      refine SE.seq ?_
      refine SC.region ?_
      first
        | refine SL.val (Val.addI rfl rfl (by simp only [InR, lo, hi]; omega)) rfl rfl ?_
        | refine SL.val (Val.addW rfl rfl) rfl rfl ?_
      refine SL.val (Val.move rfl) rfl rfl ?_
      refine SL.nil ?_
      refine SE.round (z + 1) (by first | omega | (dsimp only; omega)) (⟨hlt, fun j hj h => by rcases Nat.lt_or_ge j z with h1 | h1; exact hz.2 j hj h1; obtain rfl : j = z := (by omega); assumption⟩) (by rw [hct]; first | exact ⟨rfl, rfl, rfl, rfl, rfl, rfl, rfl, trivial⟩ | exact ⟨rfl, rfl, rfl, congrArg (fun k : Int => some (Abs.v (Value.int .i64 k))) (by omega), rfl, rfl, rfl, trivial⟩) (by repeat first|exact s0 _|exact s1 _|apply s2|apply s3)
    intro hc96
    refine SC.exit ?_
    refine SE.then_ (by intro h; cases h) ?_
    refine SE.then_ (by intro h; cases h) ?_
    refine SE.exit ?_
    refine SE.seq ?_
    refine SC.seq ?_
    refine SC.drawZ [] (.q 0 (.q 2 (.q 3 (.q 4 (.q 5 (.q 7 (.q 8 (.q 9 (.q 10 (.q 11 (.two 1 12 (.two 6 12 (.e 12 (.e 13 (.q 14 (.q 15 .nil)))) (.e 6 (.e 13 (.q 14 (.q 15 .nil))))) (.e 1 (.e 6 (.e 13 (.q 14 (.q 15 .nil)))))))))))))))) (by kernel_rfl) (by kernel_rfl) ?_
    refine SX.val rfl (Val.move rfl) (by first | (simp [mids, It.mids, ownPc, mapPc]; done) | (intro k hk; simp [mids, It.mids, ownPc, mapPc] at hk ⊢; grind)) rfl rfl ?_
    refine SX.val rfl (Val.move rfl) (by first | (simp [mids, It.mids, ownPc, mapPc]; done) | (intro k hk; simp [mids, It.mids, ownPc, mapPc] at hk ⊢; grind)) rfl rfl ?_
    refine SX.val rfl (Val.nilCheck rfl) (by first | (simp [mids, It.mids, ownPc, mapPc]; done) | (intro k hk; simp [mids, It.mids, ownPc, mapPc] at hk ⊢; grind)) rfl rfl ?_
    refine SX.val rfl (Val.fieldAddr tabOk rfl rfl rfl rfl rfl) (by first | (simp [mids, It.mids, ownPc, mapPc]; done) | (intro k hk; simp [mids, It.mids, ownPc, mapPc] at hk ⊢; grind)) rfl rfl ?_
    refine SX.val rfl (Val.load1 tabOk rfl rfl (by first|(apply Or.inl;(repeat first|assumption|exact m0|apply m1);done)|(apply Or.inr;(repeat first|assumption|exact m0|apply m1);done)) List.not_mem_nil (by rfl)) (by first | (simp [mids, It.mids, ownPc, mapPc]; done) | (intro k hk; simp [mids, It.mids, ownPc, mapPc] at hk ⊢; grind)) rfl rfl ?_
    refine SX.val rfl (Val.fieldAddr tabOk rfl rfl rfl rfl rfl) (by first | (simp [mids, It.mids, ownPc, mapPc]; done) | (intro k hk; simp [mids, It.mids, ownPc, mapPc] at hk ⊢; grind)) rfl rfl ?_
    refine SX.val rfl (Val.load1 tabOk rfl rfl (by first|(apply Or.inl;(repeat first|assumption|exact m0|apply m1);done)|(apply Or.inr;(repeat first|assumption|exact m0|apply m1);done)) List.not_mem_nil (by rfl)) (by first | (simp [mids, It.mids, ownPc, mapPc]; done) | (intro k hk; simp [mids, It.mids, ownPc, mapPc] at hk ⊢; grind)) rfl rfl ?_
    refine SX.val rfl (Val.fieldAddr tabOk rfl rfl rfl rfl rfl) (by first | (simp [mids, It.mids, ownPc, mapPc]; done) | (intro k hk; simp [mids, It.mids, ownPc, mapPc] at hk ⊢; grind)) rfl rfl ?_
    refine SX.val rfl (Val.load1 tabOk rfl rfl (by first|(apply Or.inl;(repeat first|assumption|exact m0|apply m1);done)|(apply Or.inr;(repeat first|assumption|exact m0|apply m1);done)) List.not_mem_nil (by rfl)) (by first | (simp [mids, It.mids, ownPc, mapPc]; done) | (intro k hk; simp [mids, It.mids, ownPc, mapPc] at hk ⊢; grind)) rfl rfl ?_
    refine SX.val rfl (Val.buildS tabOk rfl rfl rfl rfl) (by first | (simp [mids, It.mids, ownPc, mapPc]; done) | (intro k hk; simp [mids, It.mids, ownPc, mapPc] at hk ⊢; grind)) rfl rfl ?_
    refine SX.two ?_ ?_
    · skip
      refine SX.effN [] [] rfl (Eff.buildOwn tabOk Try.underlying49 rfl rfl rfl rfl rfl rfl rfl) rfl (by first | exact own_mid List.mem_cons_self | (simp; done)) rfl rfl ?_
      rintro _ _ ⟨r113, rfl, rfl⟩
      refine ⟨[own 100 2 r113 []], rfl, ?_⟩
      refine SX.two ?_ ?_
      · skip
        refine SX.effN [own 100 2 r113 []] [] rfl (Eff.appendE (zs := saidL d.said) tabOk [] rfl Try.underlying49 rfl rfl rfl rfl rfl rfl (said_ones d.said) (by unfold maxLen; simp only [List.length_nil, List.length_append, List.length_map, List.length_cons]; omega) (by rw [show Try.prog.bytesOf 100 = 16 by kernel_rfl]; simp only [List.length_nil, List.length_append, List.length_map, List.length_cons]; omega)) rfl (by first | exact own_mid List.mem_cons_self | (simp; done)) rfl rfl ?_
        rintro _ _ ⟨r118, rfl, rfl⟩
        refine ⟨[own 100 2 r118 (saidL d.said)], rfl, ?_⟩
        refine SX.eff rfl (Eff.buildSl tabOk Try.underlying49 rfl rfl rfl rfl rfl rfl rfl) (by simp) rfl rfl ?_
        rintro _ _ ⟨rfl, rfl⟩
        refine SX.effN [own 100 2 r118 (saidL d.said)] [] rfl (Eff.frozen [] (Eff.appendE (zs := saidL (d.said ++ [(m.from_, (parseR m.body n).1.result)])) tabOk [] (by unfold saidL; rw [List.map_append]; rfl) Try.underlying49 rfl rfl rfl rfl rfl rfl (by intro c hc; rw [List.mem_singleton] at hc; subst hc; rfl) (by unfold maxLen; simp only [List.length_nil, List.length_append, List.length_map, List.length_cons]; omega) (by rw [show Try.prog.bytesOf 100 = 16 by kernel_rfl]; simp only [List.length_nil, List.length_append, List.length_map, List.length_cons]; omega))) rfl (by first | exact own_mid List.mem_cons_self | (simp; done)) rfl rfl ?_
        rintro _ _ ⟨rfl, rfl⟩
        refine ⟨[], rfl, ?_⟩
        refine SX.val rfl (Val.nilCheck rfl) (by first | (simp [mids, It.mids, ownPc, mapPc]; done) | (intro k hk; simp [mids, It.mids, ownPc, mapPc] at hk ⊢; grind)) rfl rfl ?_
        refine SX.val rfl (Val.fieldAddr tabOk rfl rfl rfl rfl rfl) (by first | (simp [mids, It.mids, ownPc, mapPc]; done) | (intro k hk; simp [mids, It.mids, ownPc, mapPc] at hk ⊢; grind)) rfl rfl ?_
        refine SX.nil ?_
        refine SE.effZ rfl (Eff.store (L' := DS.cells q n id (⟨d.stamp, d.waits, d.req, (d.said ++ [(m.from_, (parseR m.body n).1.result)]), d.acc⟩)) tabOk rfl rfl rfl (by repeat first|assumption|exact Upd.here|apply Upd.there) rfl (Nat.le_of_ble_eq_true (by rfl)) rfl (by rfl)) rfl rfl ?_
        rintro _ _ ⟨rfl, rfl⟩
        refine SE.seq ?_
        refine SC.seq ?_
        refine SC.seq (SC.region ?_)
        refine SL.val (Val.move rfl) rfl rfl ?_
        refine SL.val (Val.move rfl) rfl rfl ?_
        refine SL.val (Val.nilCheck rfl) rfl rfl ?_
        refine SL.val (Val.fieldAddr tabOk rfl rfl rfl rfl rfl) rfl rfl ?_
        refine SL.val (Val.load1 tabOk rfl rfl (by first|(apply Or.inl;(repeat first|assumption|exact m0|apply m1);done)|(apply Or.inr;(repeat first|assumption|exact m0|apply m1);done)) List.not_mem_nil (by rfl)) rfl rfl ?_
        refine SL.call (rfaults_s (n := n) (by omega)) Casts.refl (by kernel_rfl) rfl rfl rfl ?_
        refine After.pure (by repeat (first | exact Reads.nil | (refine Reads.blk ?_ ?_; focus ((repeat first|assumption|exact m0|apply m1); done)) | (refine Reads.rd ?_ ?_; focus ((repeat first|assumption|exact m0|apply m1); done)) | (refine Reads.pc ?_ ?_; focus ((repeat first|assumption|exact m0|apply m1); done)) | (refine Reads.rdpc ?_ ?_; focus ((repeat first|assumption|exact m0|apply m1); done)))) (fun _ => rfl) ?_
        intro _
        refine SL.val (Val.gtI rfl rfl) rfl rfl ?_
        refine SL.nil (SE.seq ?_)
        refine SC.condP rfl ?_ ?_
        rotate_left
        · intro hc134
          refine SC.skip ?_
          refine SE.seq ?_
          refine SC.seq (SC.region ?_)
          refine SL.val (Val.assign rfl) rfl rfl ?_
          refine SL.nil (SE.seq ?_)
          refine SC.ret ?_
          have h0 : (readR T n id d.stamp d.waits m).2 = 0 := by rw [hR]
          have hv9 : ¬ (aget d.said m.from_).isSome = true := said_who fun j hj => hz.2 j hj (by omega)
          obtain ⟨hE, hS⟩ := drecv_new h0 hv9
          have hN9 : d.said.take z = d.said := List.take_of_length_le (by omega)
          have hDn : drecvD T n id d m = decide ((max n 1 - 1) / 3 < (((1 + cnt d.said (parseR m.body n).1.result : Nat)) : Int)) := by unfold drecvD; rw [hR]
          rw [hR] at hS
          first
            | rw [if_pos (by rw [hDn]; exact decide_eq_true (by rw [hN9] at hc134; omega))] at hS
            | rw [if_neg (by rw [hDn]; simp only [decide_eq_true_eq]; rw [hN9] at hc134; omega)] at hS
          refine SE.fin (rs := [.tmp 4]) rfl (RV.tmp rfl RV.nil) (()) (by rw [hS]; repeat (first | exact List.nil_sublist _ | exact List.Sublist.refl _ | apply List.Sublist.cons_cons | apply List.Sublist.cons)) (by simp [It.rids]) ?_
          rw [hE]
          rfl
        intro hc134
        refine SC.seq (SC.region ?_)
        refine SL.val (Val.move rfl) rfl rfl ?_
        refine SL.val (Val.nilCheck rfl) rfl rfl ?_
        refine SL.val (Val.fieldAddr tabOk rfl rfl rfl rfl rfl) rfl rfl ?_
        refine SL.eff (Eff.store (L' := DS.cells q n id (⟨d.stamp, false, d.req, (d.said ++ [(m.from_, (parseR m.body n).1.result)]), d.acc⟩)) tabOk rfl rfl rfl (by repeat first|assumption|exact Upd.here|apply Upd.there) rfl (Nat.le_of_ble_eq_true (by rfl)) rfl (by rfl)) rfl rfl ?_
        rintro _ _ ⟨rfl, rfl⟩
        refine SL.nil (SE.seq ?_)
        refine SC.drawZ [] (.q 0 (.q 2 (.q 3 (.q 4 (.q 5 (.q 7 (.q 8 (.q 9 (.q 10 (.q 11 (.q 12 (.q 13 (.q 14 (.q 15 (.two 1 16 (.two 6 16 (.e 16 (.e 17 (.q 18 (.q 19 .nil)))) (.e 6 (.e 17 (.q 18 (.q 19 .nil))))) (.e 1 (.e 6 (.e 17 (.q 18 (.q 19 .nil)))))))))))))))))))) (by kernel_rfl) (by kernel_rfl) ?_
        refine SX.val rfl (Val.move rfl) (by first | (simp [mids, It.mids, ownPc, mapPc]; done) | (intro k hk; simp [mids, It.mids, ownPc, mapPc] at hk ⊢; grind)) rfl rfl ?_
        refine SX.val rfl (Val.move rfl) (by first | (simp [mids, It.mids, ownPc, mapPc]; done) | (intro k hk; simp [mids, It.mids, ownPc, mapPc] at hk ⊢; grind)) rfl rfl ?_
        refine SX.val rfl (Val.nilCheck rfl) (by first | (simp [mids, It.mids, ownPc, mapPc]; done) | (intro k hk; simp [mids, It.mids, ownPc, mapPc] at hk ⊢; grind)) rfl rfl ?_
        refine SX.val rfl (Val.fieldAddr tabOk rfl rfl rfl rfl rfl) (by first | (simp [mids, It.mids, ownPc, mapPc]; done) | (intro k hk; simp [mids, It.mids, ownPc, mapPc] at hk ⊢; grind)) rfl rfl ?_
        refine SX.val rfl (Val.load1 tabOk rfl rfl (by first|(apply Or.inl;(repeat first|assumption|exact m0|apply m1);done)|(apply Or.inr;(repeat first|assumption|exact m0|apply m1);done)) List.not_mem_nil (by rfl)) (by first | (simp [mids, It.mids, ownPc, mapPc]; done) | (intro k hk; simp [mids, It.mids, ownPc, mapPc] at hk ⊢; grind)) rfl rfl ?_
        refine SX.val rfl (Val.move rfl) (by first | (simp [mids, It.mids, ownPc, mapPc]; done) | (intro k hk; simp [mids, It.mids, ownPc, mapPc] at hk ⊢; grind)) rfl rfl ?_
        refine SX.val rfl (Val.nilCheck rfl) (by first | (simp [mids, It.mids, ownPc, mapPc]; done) | (intro k hk; simp [mids, It.mids, ownPc, mapPc] at hk ⊢; grind)) rfl rfl ?_
        refine SX.val rfl (Val.fieldAddr tabOk rfl rfl rfl rfl rfl) (by first | (simp [mids, It.mids, ownPc, mapPc]; done) | (intro k hk; simp [mids, It.mids, ownPc, mapPc] at hk ⊢; grind)) rfl rfl ?_
        refine SX.val rfl (Val.load1 tabOk rfl rfl (by first|(apply Or.inl;(repeat first|assumption|exact m0|apply m1);done)|(apply Or.inr;(repeat first|assumption|exact m0|apply m1);done)) List.not_mem_nil (by rfl)) (by first | (simp [mids, It.mids, ownPc, mapPc]; done) | (intro k hk; simp [mids, It.mids, ownPc, mapPc] at hk ⊢; grind)) rfl rfl ?_
        refine SX.val rfl (Val.fieldAddr tabOk rfl rfl rfl rfl rfl) (by first | (simp [mids, It.mids, ownPc, mapPc]; done) | (intro k hk; simp [mids, It.mids, ownPc, mapPc] at hk ⊢; grind)) rfl rfl ?_
        refine SX.val rfl (Val.load1 tabOk rfl rfl (by first|(apply Or.inl;(repeat first|assumption|exact m0|apply m1);done)|(apply Or.inr;(repeat first|assumption|exact m0|apply m1);done)) List.not_mem_nil (by rfl)) (by first | (simp [mids, It.mids, ownPc, mapPc]; done) | (intro k hk; simp [mids, It.mids, ownPc, mapPc] at hk ⊢; grind)) rfl rfl ?_
        refine SX.val rfl (Val.fieldAddr tabOk rfl rfl rfl rfl rfl) (by first | (simp [mids, It.mids, ownPc, mapPc]; done) | (intro k hk; simp [mids, It.mids, ownPc, mapPc] at hk ⊢; grind)) rfl rfl ?_
        refine SX.val rfl (Val.load1 tabOk rfl rfl (by first|(apply Or.inl;(repeat first|assumption|exact m0|apply m1);done)|(apply Or.inr;(repeat first|assumption|exact m0|apply m1);done)) List.not_mem_nil (by rfl)) (by first | (simp [mids, It.mids, ownPc, mapPc]; done) | (intro k hk; simp [mids, It.mids, ownPc, mapPc] at hk ⊢; grind)) rfl rfl ?_
        refine SX.val rfl (Val.buildS (L := Oc.abs (Oc.mk id (parseR m.body n).1.stamp (parseR m.body n).1.result)) tabOk rfl rfl rfl rfl) (by first | (simp [mids, It.mids, ownPc, mapPc]; done) | (intro k hk; simp [mids, It.mids, ownPc, mapPc] at hk ⊢; grind)) rfl rfl ?_
        refine SX.two ?_ ?_
        · skip
          refine SX.effN [] [] rfl (Eff.buildOwn tabOk Try.underlying42 rfl rfl rfl rfl rfl rfl rfl) rfl (by first | exact own_mid List.mem_cons_self | (simp; done)) rfl rfl ?_
          rintro _ _ ⟨r139, rfl, rfl⟩
          refine ⟨[own 60 3 r139 []], rfl, ?_⟩
          refine SX.two ?_ ?_
          · skip
            refine SX.effN [own 60 3 r139 []] [] rfl (Eff.appendE (zs := d.acc.map Oc.abs) tabOk [] rfl Try.underlying42 rfl rfl rfl rfl rfl rfl (ocs_ones d.acc) (by unfold maxLen; simp only [List.length_nil, List.length_append, List.length_map, List.length_cons]; omega) (by rw [show Try.prog.bytesOf 60 = 24 by kernel_rfl]; simp only [List.length_nil, List.length_append, List.length_map, List.length_cons]; omega)) rfl (by first | exact own_mid List.mem_cons_self | (simp; done)) rfl rfl ?_
            rintro _ _ ⟨r144, rfl, rfl⟩
            refine ⟨[own 60 3 r144 (d.acc.map Oc.abs)], rfl, ?_⟩
            refine SX.eff rfl (Eff.buildSl tabOk Try.underlying42 rfl rfl rfl rfl rfl rfl rfl) (by simp) rfl rfl ?_
            rintro _ _ ⟨rfl, rfl⟩
            refine SX.effN [own 60 3 r144 (d.acc.map Oc.abs)] [] rfl (Eff.frozen [] (Eff.appendE (zs := (d.acc ++ [Oc.mk id (parseR m.body n).1.stamp (parseR m.body n).1.result]).map Oc.abs) tabOk [] (by rw [List.map_append]; rfl) Try.underlying42 rfl rfl rfl rfl rfl rfl (by intro c hc; rw [List.mem_singleton] at hc; subst hc; rfl) (by unfold maxLen; simp only [List.length_nil, List.length_append, List.length_map, List.length_cons]; omega) (by rw [show Try.prog.bytesOf 60 = 24 by kernel_rfl]; simp only [List.length_nil, List.length_append, List.length_map, List.length_cons]; omega))) rfl (by first | exact own_mid List.mem_cons_self | (simp; done)) rfl rfl ?_
            rintro _ _ ⟨rfl, rfl⟩
            refine ⟨[], rfl, ?_⟩
            refine SX.val rfl (Val.nilCheck rfl) (by first | (simp [mids, It.mids, ownPc, mapPc]; done) | (intro k hk; simp [mids, It.mids, ownPc, mapPc] at hk ⊢; grind)) rfl rfl ?_
            refine SX.val rfl (Val.fieldAddr tabOk rfl rfl rfl rfl rfl) (by first | (simp [mids, It.mids, ownPc, mapPc]; done) | (intro k hk; simp [mids, It.mids, ownPc, mapPc] at hk ⊢; grind)) rfl rfl ?_
            refine SX.nil ?_
            refine SE.effZ rfl (Eff.store (L' := DS.cells q n id (⟨d.stamp, false, d.req, (d.said ++ [(m.from_, (parseR m.body n).1.result)]), (d.acc ++ [Oc.mk id (parseR m.body n).1.stamp (parseR m.body n).1.result])⟩)) tabOk rfl rfl rfl (by repeat first|assumption|exact Upd.here|apply Upd.there) rfl (Nat.le_of_ble_eq_true (by rfl)) rfl (by rfl)) rfl rfl ?_
            rintro _ _ ⟨rfl, rfl⟩
            refine SE.seq ?_
            refine SC.seq (SC.region ?_)
            refine SL.val (Val.assign rfl) rfl rfl ?_
            refine SL.nil (SE.seq ?_)
            refine SC.ret ?_
            have h0 : (readR T n id d.stamp d.waits m).2 = 0 := by rw [hR]
            have hv9 : ¬ (aget d.said m.from_).isSome = true := said_who fun j hj => hz.2 j hj (by omega)
            obtain ⟨hE, hS⟩ := drecv_new h0 hv9
            have hN9 : d.said.take z = d.said := List.take_of_length_le (by omega)
            have hDn : drecvD T n id d m = decide ((max n 1 - 1) / 3 < (((1 + cnt d.said (parseR m.body n).1.result : Nat)) : Int)) := by unfold drecvD; rw [hR]
            rw [hR] at hS
            first
              | rw [if_pos (by rw [hDn]; exact decide_eq_true (by rw [hN9] at hc134; omega))] at hS
              | rw [if_neg (by rw [hDn]; simp only [decide_eq_true_eq]; rw [hN9] at hc134; omega)] at hS
            refine SE.fin (rs := [.tmp 4]) rfl (RV.tmp rfl RV.nil) (()) (by rw [hS]; repeat (first | exact List.nil_sublist _ | exact List.Sublist.refl _ | apply List.Sublist.cons_cons | apply List.Sublist.cons)) (by simp [It.rids]) ?_
            rw [hE]
            rfl
          · skip
            refine SX.eff rfl (Eff.buildSl tabOk Try.underlying42 rfl rfl rfl rfl rfl rfl rfl) (by simp) rfl rfl ?_
            rintro _ _ ⟨rfl, rfl⟩
            refine SX.effN [own 60 3 r139 []] [] rfl (Eff.appendE (zs := d.acc.map Oc.abs) tabOk [] rfl Try.underlying42 rfl rfl rfl rfl rfl rfl (ocs_ones d.acc) (by unfold maxLen; simp only [List.length_nil, List.length_append, List.length_map, List.length_cons]; omega) (by rw [show Try.prog.bytesOf 60 = 24 by kernel_rfl]; simp only [List.length_nil, List.length_append, List.length_map, List.length_cons]; omega)) rfl (by first | exact own_mid List.mem_cons_self | (simp; done)) rfl rfl ?_
            rintro _ _ ⟨r144, rfl, rfl⟩
            refine ⟨[own 60 3 r144 (d.acc.map Oc.abs)], rfl, ?_⟩
            refine SX.effN [own 60 3 r144 (d.acc.map Oc.abs)] [] rfl (Eff.frozen [] (Eff.appendE (zs := (d.acc ++ [Oc.mk id (parseR m.body n).1.stamp (parseR m.body n).1.result]).map Oc.abs) tabOk [] (by rw [List.map_append]; rfl) Try.underlying42 rfl rfl rfl rfl rfl rfl (by intro c hc; rw [List.mem_singleton] at hc; subst hc; rfl) (by unfold maxLen; simp only [List.length_nil, List.length_append, List.length_map, List.length_cons]; omega) (by rw [show Try.prog.bytesOf 60 = 24 by kernel_rfl]; simp only [List.length_nil, List.length_append, List.length_map, List.length_cons]; omega))) rfl (by first | exact own_mid List.mem_cons_self | (simp; done)) rfl rfl ?_
            rintro _ _ ⟨rfl, rfl⟩
            refine ⟨[], rfl, ?_⟩
            refine SX.val rfl (Val.nilCheck rfl) (by first | (simp [mids, It.mids, ownPc, mapPc]; done) | (intro k hk; simp [mids, It.mids, ownPc, mapPc] at hk ⊢; grind)) rfl rfl ?_
            refine SX.val rfl (Val.fieldAddr tabOk rfl rfl rfl rfl rfl) (by first | (simp [mids, It.mids, ownPc, mapPc]; done) | (intro k hk; simp [mids, It.mids, ownPc, mapPc] at hk ⊢; grind)) rfl rfl ?_
            refine SX.nil ?_
            refine SE.effZ rfl (Eff.store (L' := DS.cells q n id (⟨d.stamp, false, d.req, (d.said ++ [(m.from_, (parseR m.body n).1.result)]), (d.acc ++ [Oc.mk id (parseR m.body n).1.stamp (parseR m.body n).1.result])⟩)) tabOk rfl rfl rfl (by repeat first|assumption|exact Upd.here|apply Upd.there) rfl (Nat.le_of_ble_eq_true (by rfl)) rfl (by rfl)) rfl rfl ?_
            rintro _ _ ⟨rfl, rfl⟩
            refine SE.seq ?_
            refine SC.seq (SC.region ?_)
            refine SL.val (Val.assign rfl) rfl rfl ?_
            refine SL.nil (SE.seq ?_)
            refine SC.ret ?_
            have h0 : (readR T n id d.stamp d.waits m).2 = 0 := by rw [hR]
            have hv9 : ¬ (aget d.said m.from_).isSome = true := said_who fun j hj => hz.2 j hj (by omega)
            obtain ⟨hE, hS⟩ := drecv_new h0 hv9
            have hN9 : d.said.take z = d.said := List.take_of_length_le (by omega)
            have hDn : drecvD T n id d m = decide ((max n 1 - 1) / 3 < (((1 + cnt d.said (parseR m.body n).1.result : Nat)) : Int)) := by unfold drecvD; rw [hR]
            rw [hR] at hS
            first
              | rw [if_pos (by rw [hDn]; exact decide_eq_true (by rw [hN9] at hc134; omega))] at hS
              | rw [if_neg (by rw [hDn]; simp only [decide_eq_true_eq]; rw [hN9] at hc134; omega)] at hS
            refine SE.fin (rs := [.tmp 4]) rfl (RV.tmp rfl RV.nil) (()) (by rw [hS]; repeat (first | exact List.nil_sublist _ | exact List.Sublist.refl _ | apply List.Sublist.cons_cons | apply List.Sublist.cons)) (by simp [It.rids]) ?_
            rw [hE]
            rfl
        · skip
          refine SX.eff rfl (Eff.buildSl tabOk Try.underlying42 rfl rfl rfl rfl rfl rfl rfl) (by simp) rfl rfl ?_
          rintro _ _ ⟨rfl, rfl⟩
          refine SX.effN [] [] rfl (Eff.buildOwn tabOk Try.underlying42 rfl rfl rfl rfl rfl rfl rfl) rfl (by first | exact own_mid List.mem_cons_self | (simp; done)) rfl rfl ?_
          rintro _ _ ⟨r139, rfl, rfl⟩
          refine ⟨[own 60 3 r139 []], rfl, ?_⟩
          refine SX.effN [own 60 3 r139 []] [] rfl (Eff.appendE (zs := d.acc.map Oc.abs) tabOk [] rfl Try.underlying42 rfl rfl rfl rfl rfl rfl (ocs_ones d.acc) (by unfold maxLen; simp only [List.length_nil, List.length_append, List.length_map, List.length_cons]; omega) (by rw [show Try.prog.bytesOf 60 = 24 by kernel_rfl]; simp only [List.length_nil, List.length_append, List.length_map, List.length_cons]; omega)) rfl (by first | exact own_mid List.mem_cons_self | (simp; done)) rfl rfl ?_
          rintro _ _ ⟨r144, rfl, rfl⟩
          refine ⟨[own 60 3 r144 (d.acc.map Oc.abs)], rfl, ?_⟩
          refine SX.effN [own 60 3 r144 (d.acc.map Oc.abs)] [] rfl (Eff.frozen [] (Eff.appendE (zs := (d.acc ++ [Oc.mk id (parseR m.body n).1.stamp (parseR m.body n).1.result]).map Oc.abs) tabOk [] (by rw [List.map_append]; rfl) Try.underlying42 rfl rfl rfl rfl rfl rfl (by intro c hc; rw [List.mem_singleton] at hc; subst hc; rfl) (by unfold maxLen; simp only [List.length_nil, List.length_append, List.length_map, List.length_cons]; omega) (by rw [show Try.prog.bytesOf 60 = 24 by kernel_rfl]; simp only [List.length_nil, List.length_append, List.length_map, List.length_cons]; omega))) rfl (by first | exact own_mid List.mem_cons_self | (simp; done)) rfl rfl ?_
          rintro _ _ ⟨rfl, rfl⟩
          refine ⟨[], rfl, ?_⟩
          refine SX.val rfl (Val.nilCheck rfl) (by first | (simp [mids, It.mids, ownPc, mapPc]; done) | (intro k hk; simp [mids, It.mids, ownPc, mapPc] at hk ⊢; grind)) rfl rfl ?_
          refine SX.val rfl (Val.fieldAddr tabOk rfl rfl rfl rfl rfl) (by first | (simp [mids, It.mids, ownPc, mapPc]; done) | (intro k hk; simp [mids, It.mids, ownPc, mapPc] at hk ⊢; grind)) rfl rfl ?_
          refine SX.nil ?_
          refine SE.effZ rfl (Eff.store (L' := DS.cells q n id (⟨d.stamp, false, d.req, (d.said ++ [(m.from_, (parseR m.body n).1.result)]), (d.acc ++ [Oc.mk id (parseR m.body n).1.stamp (parseR m.body n).1.result])⟩)) tabOk rfl rfl rfl (by repeat first|assumption|exact Upd.here|apply Upd.there) rfl (Nat.le_of_ble_eq_true (by rfl)) rfl (by rfl)) rfl rfl ?_
          rintro _ _ ⟨rfl, rfl⟩
          refine SE.seq ?_
          refine SC.seq (SC.region ?_)
          refine SL.val (Val.assign rfl) rfl rfl ?_
          refine SL.nil (SE.seq ?_)
          refine SC.ret ?_
          have h0 : (readR T n id d.stamp d.waits m).2 = 0 := by rw [hR]
          have hv9 : ¬ (aget d.said m.from_).isSome = true := said_who fun j hj => hz.2 j hj (by omega)
          obtain ⟨hE, hS⟩ := drecv_new h0 hv9
          have hN9 : d.said.take z = d.said := List.take_of_length_le (by omega)
          have hDn : drecvD T n id d m = decide ((max n 1 - 1) / 3 < (((1 + cnt d.said (parseR m.body n).1.result : Nat)) : Int)) := by unfold drecvD; rw [hR]
          rw [hR] at hS
          first
            | rw [if_pos (by rw [hDn]; exact decide_eq_true (by rw [hN9] at hc134; omega))] at hS
            | rw [if_neg (by rw [hDn]; simp only [decide_eq_true_eq]; rw [hN9] at hc134; omega)] at hS
          refine SE.fin (rs := [.tmp 4]) rfl (RV.tmp rfl RV.nil) (()) (by rw [hS]; repeat (first | exact List.nil_sublist _ | exact List.Sublist.refl _ | apply List.Sublist.cons_cons | apply List.Sublist.cons)) (by simp [It.rids]) ?_
          rw [hE]
          rfl
      · skip
        refine SX.eff rfl (Eff.buildSl tabOk Try.underlying49 rfl rfl rfl rfl rfl rfl rfl) (by simp) rfl rfl ?_
        rintro _ _ ⟨rfl, rfl⟩
        refine SX.effN [own 100 2 r113 []] [] rfl (Eff.appendE (zs := saidL d.said) tabOk [] rfl Try.underlying49 rfl rfl rfl rfl rfl rfl (said_ones d.said) (by unfold maxLen; simp only [List.length_nil, List.length_append, List.length_map, List.length_cons]; omega) (by rw [show Try.prog.bytesOf 100 = 16 by kernel_rfl]; simp only [List.length_nil, List.length_append, List.length_map, List.length_cons]; omega)) rfl (by first | exact own_mid List.mem_cons_self | (simp; done)) rfl rfl ?_
        rintro _ _ ⟨r118, rfl, rfl⟩
        refine ⟨[own 100 2 r118 (saidL d.said)], rfl, ?_⟩
        refine SX.effN [own 100 2 r118 (saidL d.said)] [] rfl (Eff.frozen [] (Eff.appendE (zs := saidL (d.said ++ [(m.from_, (parseR m.body n).1.result)])) tabOk [] (by unfold saidL; rw [List.map_append]; rfl) Try.underlying49 rfl rfl rfl rfl rfl rfl (by intro c hc; rw [List.mem_singleton] at hc; subst hc; rfl) (by unfold maxLen; simp only [List.length_nil, List.length_append, List.length_map, List.length_cons]; omega) (by rw [show Try.prog.bytesOf 100 = 16 by kernel_rfl]; simp only [List.length_nil, List.length_append, List.length_map, List.length_cons]; omega))) rfl (by first | exact own_mid List.mem_cons_self | (simp; done)) rfl rfl ?_
        rintro _ _ ⟨rfl, rfl⟩
        refine ⟨[], rfl, ?_⟩
        refine SX.val rfl (Val.nilCheck rfl) (by first | (simp [mids, It.mids, ownPc, mapPc]; done) | (intro k hk; simp [mids, It.mids, ownPc, mapPc] at hk ⊢; grind)) rfl rfl ?_
        refine SX.val rfl (Val.fieldAddr tabOk rfl rfl rfl rfl rfl) (by first | (simp [mids, It.mids, ownPc, mapPc]; done) | (intro k hk; simp [mids, It.mids, ownPc, mapPc] at hk ⊢; grind)) rfl rfl ?_
        refine SX.nil ?_
        refine SE.effZ rfl (Eff.store (L' := DS.cells q n id (⟨d.stamp, d.waits, d.req, (d.said ++ [(m.from_, (parseR m.body n).1.result)]), d.acc⟩)) tabOk rfl rfl rfl (by repeat first|assumption|exact Upd.here|apply Upd.there) rfl (Nat.le_of_ble_eq_true (by rfl)) rfl (by rfl)) rfl rfl ?_
        rintro _ _ ⟨rfl, rfl⟩
        refine SE.seq ?_
        refine SC.seq ?_
        refine SC.seq (SC.region ?_)
        refine SL.val (Val.move rfl) rfl rfl ?_
        refine SL.val (Val.move rfl) rfl rfl ?_
        refine SL.val (Val.nilCheck rfl) rfl rfl ?_
        refine SL.val (Val.fieldAddr tabOk rfl rfl rfl rfl rfl) rfl rfl ?_
        refine SL.val (Val.load1 tabOk rfl rfl (by first|(apply Or.inl;(repeat first|assumption|exact m0|apply m1);done)|(apply Or.inr;(repeat first|assumption|exact m0|apply m1);done)) List.not_mem_nil (by rfl)) rfl rfl ?_
        refine SL.call (rfaults_s (n := n) (by omega)) Casts.refl (by kernel_rfl) rfl rfl rfl ?_
        refine After.pure (by repeat (first | exact Reads.nil | (refine Reads.blk ?_ ?_; focus ((repeat first|assumption|exact m0|apply m1); done)) | (refine Reads.rd ?_ ?_; focus ((repeat first|assumption|exact m0|apply m1); done)) | (refine Reads.pc ?_ ?_; focus ((repeat first|assumption|exact m0|apply m1); done)) | (refine Reads.rdpc ?_ ?_; focus ((repeat first|assumption|exact m0|apply m1); done)))) (fun _ => rfl) ?_
        intro _
        refine SL.val (Val.gtI rfl rfl) rfl rfl ?_
        refine SL.nil (SE.seq ?_)
        refine SC.condP rfl ?_ ?_
        rotate_left
        · intro hc134
          refine SC.skip ?_
          refine SE.seq ?_
          refine SC.seq (SC.region ?_)
          refine SL.val (Val.assign rfl) rfl rfl ?_
          refine SL.nil (SE.seq ?_)
          refine SC.ret ?_
          have h0 : (readR T n id d.stamp d.waits m).2 = 0 := by rw [hR]
          have hv9 : ¬ (aget d.said m.from_).isSome = true := said_who fun j hj => hz.2 j hj (by omega)
          obtain ⟨hE, hS⟩ := drecv_new h0 hv9
          have hN9 : d.said.take z = d.said := List.take_of_length_le (by omega)
          have hDn : drecvD T n id d m = decide ((max n 1 - 1) / 3 < (((1 + cnt d.said (parseR m.body n).1.result : Nat)) : Int)) := by unfold drecvD; rw [hR]
          rw [hR] at hS
          first
            | rw [if_pos (by rw [hDn]; exact decide_eq_true (by rw [hN9] at hc134; omega))] at hS
            | rw [if_neg (by rw [hDn]; simp only [decide_eq_true_eq]; rw [hN9] at hc134; omega)] at hS
          refine SE.fin (rs := [.tmp 4]) rfl (RV.tmp rfl RV.nil) (()) (by rw [hS]; repeat (first | exact List.nil_sublist _ | exact List.Sublist.refl _ | apply List.Sublist.cons_cons | apply List.Sublist.cons)) (by simp [It.rids]) ?_
          rw [hE]
          rfl
        intro hc134
        refine SC.seq (SC.region ?_)
        refine SL.val (Val.move rfl) rfl rfl ?_
        refine SL.val (Val.nilCheck rfl) rfl rfl ?_
        refine SL.val (Val.fieldAddr tabOk rfl rfl rfl rfl rfl) rfl rfl ?_
        refine SL.eff (Eff.store (L' := DS.cells q n id (⟨d.stamp, false, d.req, (d.said ++ [(m.from_, (parseR m.body n).1.result)]), d.acc⟩)) tabOk rfl rfl rfl (by repeat first|assumption|exact Upd.here|apply Upd.there) rfl (Nat.le_of_ble_eq_true (by rfl)) rfl (by rfl)) rfl rfl ?_
        rintro _ _ ⟨rfl, rfl⟩
        refine SL.nil (SE.seq ?_)
        refine SC.drawZ [] (.q 0 (.q 2 (.q 3 (.q 4 (.q 5 (.q 7 (.q 8 (.q 9 (.q 10 (.q 11 (.q 12 (.q 13 (.q 14 (.q 15 (.two 1 16 (.two 6 16 (.e 16 (.e 17 (.q 18 (.q 19 .nil)))) (.e 6 (.e 17 (.q 18 (.q 19 .nil))))) (.e 1 (.e 6 (.e 17 (.q 18 (.q 19 .nil)))))))))))))))))))) (by kernel_rfl) (by kernel_rfl) ?_
        refine SX.val rfl (Val.move rfl) (by first | (simp [mids, It.mids, ownPc, mapPc]; done) | (intro k hk; simp [mids, It.mids, ownPc, mapPc] at hk ⊢; grind)) rfl rfl ?_
        refine SX.val rfl (Val.move rfl) (by first | (simp [mids, It.mids, ownPc, mapPc]; done) | (intro k hk; simp [mids, It.mids, ownPc, mapPc] at hk ⊢; grind)) rfl rfl ?_
        refine SX.val rfl (Val.nilCheck rfl) (by first | (simp [mids, It.mids, ownPc, mapPc]; done) | (intro k hk; simp [mids, It.mids, ownPc, mapPc] at hk ⊢; grind)) rfl rfl ?_
        refine SX.val rfl (Val.fieldAddr tabOk rfl rfl rfl rfl rfl) (by first | (simp [mids, It.mids, ownPc, mapPc]; done) | (intro k hk; simp [mids, It.mids, ownPc, mapPc] at hk ⊢; grind)) rfl rfl ?_
        refine SX.val rfl (Val.load1 tabOk rfl rfl (by first|(apply Or.inl;(repeat first|assumption|exact m0|apply m1);done)|(apply Or.inr;(repeat first|assumption|exact m0|apply m1);done)) List.not_mem_nil (by rfl)) (by first | (simp [mids, It.mids, ownPc, mapPc]; done) | (intro k hk; simp [mids, It.mids, ownPc, mapPc] at hk ⊢; grind)) rfl rfl ?_
        refine SX.val rfl (Val.move rfl) (by first | (simp [mids, It.mids, ownPc, mapPc]; done) | (intro k hk; simp [mids, It.mids, ownPc, mapPc] at hk ⊢; grind)) rfl rfl ?_
        refine SX.val rfl (Val.nilCheck rfl) (by first | (simp [mids, It.mids, ownPc, mapPc]; done) | (intro k hk; simp [mids, It.mids, ownPc, mapPc] at hk ⊢; grind)) rfl rfl ?_
        refine SX.val rfl (Val.fieldAddr tabOk rfl rfl rfl rfl rfl) (by first | (simp [mids, It.mids, ownPc, mapPc]; done) | (intro k hk; simp [mids, It.mids, ownPc, mapPc] at hk ⊢; grind)) rfl rfl ?_
        refine SX.val rfl (Val.load1 tabOk rfl rfl (by first|(apply Or.inl;(repeat first|assumption|exact m0|apply m1);done)|(apply Or.inr;(repeat first|assumption|exact m0|apply m1);done)) List.not_mem_nil (by rfl)) (by first | (simp [mids, It.mids, ownPc, mapPc]; done) | (intro k hk; simp [mids, It.mids, ownPc, mapPc] at hk ⊢; grind)) rfl rfl ?_
        refine SX.val rfl (Val.fieldAddr tabOk rfl rfl rfl rfl rfl) (by first | (simp [mids, It.mids, ownPc, mapPc]; done) | (intro k hk; simp [mids, It.mids, ownPc, mapPc] at hk ⊢; grind)) rfl rfl ?_
        refine SX.val rfl (Val.load1 tabOk rfl rfl (by first|(apply Or.inl;(repeat first|assumption|exact m0|apply m1);done)|(apply Or.inr;(repeat first|assumption|exact m0|apply m1);done)) List.not_mem_nil (by rfl)) (by first | (simp [mids, It.mids, ownPc, mapPc]; done) | (intro k hk; simp [mids, It.mids, ownPc, mapPc] at hk ⊢; grind)) rfl rfl ?_
        refine SX.val rfl (Val.fieldAddr tabOk rfl rfl rfl rfl rfl) (by first | (simp [mids, It.mids, ownPc, mapPc]; done) | (intro k hk; simp [mids, It.mids, ownPc, mapPc] at hk ⊢; grind)) rfl rfl ?_
        refine SX.val rfl (Val.load1 tabOk rfl rfl (by first|(apply Or.inl;(repeat first|assumption|exact m0|apply m1);done)|(apply Or.inr;(repeat first|assumption|exact m0|apply m1);done)) List.not_mem_nil (by rfl)) (by first | (simp [mids, It.mids, ownPc, mapPc]; done) | (intro k hk; simp [mids, It.mids, ownPc, mapPc] at hk ⊢; grind)) rfl rfl ?_
        refine SX.val rfl (Val.buildS (L := Oc.abs (Oc.mk id (parseR m.body n).1.stamp (parseR m.body n).1.result)) tabOk rfl rfl rfl rfl) (by first | (simp [mids, It.mids, ownPc, mapPc]; done) | (intro k hk; simp [mids, It.mids, ownPc, mapPc] at hk ⊢; grind)) rfl rfl ?_
        refine SX.two ?_ ?_
        · skip
          refine SX.effN [] [] rfl (Eff.buildOwn tabOk Try.underlying42 rfl rfl rfl rfl rfl rfl rfl) rfl (by first | exact own_mid List.mem_cons_self | (simp; done)) rfl rfl ?_
          rintro _ _ ⟨r139, rfl, rfl⟩
          refine ⟨[own 60 3 r139 []], rfl, ?_⟩
          refine SX.two ?_ ?_
          · skip
            refine SX.effN [own 60 3 r139 []] [] rfl (Eff.appendE (zs := d.acc.map Oc.abs) tabOk [] rfl Try.underlying42 rfl rfl rfl rfl rfl rfl (ocs_ones d.acc) (by unfold maxLen; simp only [List.length_nil, List.length_append, List.length_map, List.length_cons]; omega) (by rw [show Try.prog.bytesOf 60 = 24 by kernel_rfl]; simp only [List.length_nil, List.length_append, List.length_map, List.length_cons]; omega)) rfl (by first | exact own_mid List.mem_cons_self | (simp; done)) rfl rfl ?_
            rintro _ _ ⟨r144, rfl, rfl⟩
            refine ⟨[own 60 3 r144 (d.acc.map Oc.abs)], rfl, ?_⟩
            refine SX.eff rfl (Eff.buildSl tabOk Try.underlying42 rfl rfl rfl rfl rfl rfl rfl) (by simp) rfl rfl ?_
            rintro _ _ ⟨rfl, rfl⟩
            refine SX.effN [own 60 3 r144 (d.acc.map Oc.abs)] [] rfl (Eff.frozen [] (Eff.appendE (zs := (d.acc ++ [Oc.mk id (parseR m.body n).1.stamp (parseR m.body n).1.result]).map Oc.abs) tabOk [] (by rw [List.map_append]; rfl) Try.underlying42 rfl rfl rfl rfl rfl rfl (by intro c hc; rw [List.mem_singleton] at hc; subst hc; rfl) (by unfold maxLen; simp only [List.length_nil, List.length_append, List.length_map, List.length_cons]; omega) (by rw [show Try.prog.bytesOf 60 = 24 by kernel_rfl]; simp only [List.length_nil, List.length_append, List.length_map, List.length_cons]; omega))) rfl (by first | exact own_mid List.mem_cons_self | (simp; done)) rfl rfl ?_
            rintro _ _ ⟨rfl, rfl⟩
            refine ⟨[], rfl, ?_⟩
            refine SX.val rfl (Val.nilCheck rfl) (by first | (simp [mids, It.mids, ownPc, mapPc]; done) | (intro k hk; simp [mids, It.mids, ownPc, mapPc] at hk ⊢; grind)) rfl rfl ?_
            refine SX.val rfl (Val.fieldAddr tabOk rfl rfl rfl rfl rfl) (by first | (simp [mids, It.mids, ownPc, mapPc]; done) | (intro k hk; simp [mids, It.mids, ownPc, mapPc] at hk ⊢; grind)) rfl rfl ?_
            refine SX.nil ?_
            refine SE.effZ rfl (Eff.store (L' := DS.cells q n id (⟨d.stamp, false, d.req, (d.said ++ [(m.from_, (parseR m.body n).1.result)]), (d.acc ++ [Oc.mk id (parseR m.body n).1.stamp (parseR m.body n).1.result])⟩)) tabOk rfl rfl rfl (by repeat first|assumption|exact Upd.here|apply Upd.there) rfl (Nat.le_of_ble_eq_true (by rfl)) rfl (by rfl)) rfl rfl ?_
            rintro _ _ ⟨rfl, rfl⟩
            refine SE.seq ?_
            refine SC.seq (SC.region ?_)
            refine SL.val (Val.assign rfl) rfl rfl ?_
            refine SL.nil (SE.seq ?_)
            refine SC.ret ?_
            have h0 : (readR T n id d.stamp d.waits m).2 = 0 := by rw [hR]
            have hv9 : ¬ (aget d.said m.from_).isSome = true := said_who fun j hj => hz.2 j hj (by omega)
            obtain ⟨hE, hS⟩ := drecv_new h0 hv9
            have hN9 : d.said.take z = d.said := List.take_of_length_le (by omega)
            have hDn : drecvD T n id d m = decide ((max n 1 - 1) / 3 < (((1 + cnt d.said (parseR m.body n).1.result : Nat)) : Int)) := by unfold drecvD; rw [hR]
            rw [hR] at hS
            first
              | rw [if_pos (by rw [hDn]; exact decide_eq_true (by rw [hN9] at hc134; omega))] at hS
              | rw [if_neg (by rw [hDn]; simp only [decide_eq_true_eq]; rw [hN9] at hc134; omega)] at hS
            refine SE.fin (rs := [.tmp 4]) rfl (RV.tmp rfl RV.nil) (()) (by rw [hS]; repeat (first | exact List.nil_sublist _ | exact List.Sublist.refl _ | apply List.Sublist.cons_cons | apply List.Sublist.cons)) (by simp [It.rids]) ?_
            rw [hE]
            rfl
          · skip
            refine SX.eff rfl (Eff.buildSl tabOk Try.underlying42 rfl rfl rfl rfl rfl rfl rfl) (by simp) rfl rfl ?_
            rintro _ _ ⟨rfl, rfl⟩
            refine SX.effN [own 60 3 r139 []] [] rfl (Eff.appendE (zs := d.acc.map Oc.abs) tabOk [] rfl Try.underlying42 rfl rfl rfl rfl rfl rfl (ocs_ones d.acc) (by unfold maxLen; simp only [List.length_nil, List.length_append, List.length_map, List.length_cons]; omega) (by rw [show Try.prog.bytesOf 60 = 24 by kernel_rfl]; simp only [List.length_nil, List.length_append, List.length_map, List.length_cons]; omega)) rfl (by first | exact own_mid List.mem_cons_self | (simp; done)) rfl rfl ?_
            rintro _ _ ⟨r144, rfl, rfl⟩
            refine ⟨[own 60 3 r144 (d.acc.map Oc.abs)], rfl, ?_⟩
            refine SX.effN [own 60 3 r144 (d.acc.map Oc.abs)] [] rfl (Eff.frozen [] (Eff.appendE (zs := (d.acc ++ [Oc.mk id (parseR m.body n).1.stamp (parseR m.body n).1.result]).map Oc.abs) tabOk [] (by rw [List.map_append]; rfl) Try.underlying42 rfl rfl rfl rfl rfl rfl (by intro c hc; rw [List.mem_singleton] at hc; subst hc; rfl) (by unfold maxLen; simp only [List.length_nil, List.length_append, List.length_map, List.length_cons]; omega) (by rw [show Try.prog.bytesOf 60 = 24 by kernel_rfl]; simp only [List.length_nil, List.length_append, List.length_map, List.length_cons]; omega))) rfl (by first | exact own_mid List.mem_cons_self | (simp; done)) rfl rfl ?_
            rintro _ _ ⟨rfl, rfl⟩
            refine ⟨[], rfl, ?_⟩
            refine SX.val rfl (Val.nilCheck rfl) (by first | (simp [mids, It.mids, ownPc, mapPc]; done) | (intro k hk; simp [mids, It.mids, ownPc, mapPc] at hk ⊢; grind)) rfl rfl ?_
            refine SX.val rfl (Val.fieldAddr tabOk rfl rfl rfl rfl rfl) (by first | (simp [mids, It.mids, ownPc, mapPc]; done) | (intro k hk; simp [mids, It.mids, ownPc, mapPc] at hk ⊢; grind)) rfl rfl ?_
            refine SX.nil ?_
            refine SE.effZ rfl (Eff.store (L' := DS.cells q n id (⟨d.stamp, false, d.req, (d.said ++ [(m.from_, (parseR m.body n).1.result)]), (d.acc ++ [Oc.mk id (parseR m.body n).1.stamp (parseR m.body n).1.result])⟩)) tabOk rfl rfl rfl (by repeat first|assumption|exact Upd.here|apply Upd.there) rfl (Nat.le_of_ble_eq_true (by rfl)) rfl (by rfl)) rfl rfl ?_
            rintro _ _ ⟨rfl, rfl⟩
            refine SE.seq ?_
            refine SC.seq (SC.region ?_)
            refine SL.val (Val.assign rfl) rfl rfl ?_
            refine SL.nil (SE.seq ?_)
            refine SC.ret ?_
            have h0 : (readR T n id d.stamp d.waits m).2 = 0 := by rw [hR]
            have hv9 : ¬ (aget d.said m.from_).isSome = true := said_who fun j hj => hz.2 j hj (by omega)
            obtain ⟨hE, hS⟩ := drecv_new h0 hv9
            have hN9 : d.said.take z = d.said := List.take_of_length_le (by omega)
            have hDn : drecvD T n id d m = decide ((max n 1 - 1) / 3 < (((1 + cnt d.said (parseR m.body n).1.result : Nat)) : Int)) := by unfold drecvD; rw [hR]
            rw [hR] at hS
            first
              | rw [if_pos (by rw [hDn]; exact decide_eq_true (by rw [hN9] at hc134; omega))] at hS
              | rw [if_neg (by rw [hDn]; simp only [decide_eq_true_eq]; rw [hN9] at hc134; omega)] at hS
            refine SE.fin (rs := [.tmp 4]) rfl (RV.tmp rfl RV.nil) (()) (by rw [hS]; repeat (first | exact List.nil_sublist _ | exact List.Sublist.refl _ | apply List.Sublist.cons_cons | apply List.Sublist.cons)) (by simp [It.rids]) ?_
            rw [hE]
            rfl
        · skip
          refine SX.eff rfl (Eff.buildSl tabOk Try.underlying42 rfl rfl rfl rfl rfl rfl rfl) (by simp) rfl rfl ?_
          rintro _ _ ⟨rfl, rfl⟩
          refine SX.effN [] [] rfl (Eff.buildOwn tabOk Try.underlying42 rfl rfl rfl rfl rfl rfl rfl) rfl (by first | exact own_mid List.mem_cons_self | (simp; done)) rfl rfl ?_
          rintro _ _ ⟨r139, rfl, rfl⟩
          refine ⟨[own 60 3 r139 []], rfl, ?_⟩
          refine SX.effN [own 60 3 r139 []] [] rfl (Eff.appendE (zs := d.acc.map Oc.abs) tabOk [] rfl Try.underlying42 rfl rfl rfl rfl rfl rfl (ocs_ones d.acc) (by unfold maxLen; simp only [List.length_nil, List.length_append, List.length_map, List.length_cons]; omega) (by rw [show Try.prog.bytesOf 60 = 24 by kernel_rfl]; simp only [List.length_nil, List.length_append, List.length_map, List.length_cons]; omega)) rfl (by first | exact own_mid List.mem_cons_self | (simp; done)) rfl rfl ?_
          rintro _ _ ⟨r144, rfl, rfl⟩
          refine ⟨[own 60 3 r144 (d.acc.map Oc.abs)], rfl, ?_⟩
          refine SX.effN [own 60 3 r144 (d.acc.map Oc.abs)] [] rfl (Eff.frozen [] (Eff.appendE (zs := (d.acc ++ [Oc.mk id (parseR m.body n).1.stamp (parseR m.body n).1.result]).map Oc.abs) tabOk [] (by rw [List.map_append]; rfl) Try.underlying42 rfl rfl rfl rfl rfl rfl (by intro c hc; rw [List.mem_singleton] at hc; subst hc; rfl) (by unfold maxLen; simp only [List.length_nil, List.length_append, List.length_map, List.length_cons]; omega) (by rw [show Try.prog.bytesOf 60 = 24 by kernel_rfl]; simp only [List.length_nil, List.length_append, List.length_map, List.length_cons]; omega))) rfl (by first | exact own_mid List.mem_cons_self | (simp; done)) rfl rfl ?_
          rintro _ _ ⟨rfl, rfl⟩
          refine ⟨[], rfl, ?_⟩
          refine SX.val rfl (Val.nilCheck rfl) (by first | (simp [mids, It.mids, ownPc, mapPc]; done) | (intro k hk; simp [mids, It.mids, ownPc, mapPc] at hk ⊢; grind)) rfl rfl ?_
          refine SX.val rfl (Val.fieldAddr tabOk rfl rfl rfl rfl rfl) (by first | (simp [mids, It.mids, ownPc, mapPc]; done) | (intro k hk; simp [mids, It.mids, ownPc, mapPc] at hk ⊢; grind)) rfl rfl ?_
          refine SX.nil ?_
          refine SE.effZ rfl (Eff.store (L' := DS.cells q n id (⟨d.stamp, false, d.req, (d.said ++ [(m.from_, (parseR m.body n).1.result)]), (d.acc ++ [Oc.mk id (parseR m.body n).1.stamp (parseR m.body n).1.result])⟩)) tabOk rfl rfl rfl (by repeat first|assumption|exact Upd.here|apply Upd.there) rfl (Nat.le_of_ble_eq_true (by rfl)) rfl (by rfl)) rfl rfl ?_
          rintro _ _ ⟨rfl, rfl⟩
          refine SE.seq ?_
          refine SC.seq (SC.region ?_)
          refine SL.val (Val.assign rfl) rfl rfl ?_
          refine SL.nil (SE.seq ?_)
          refine SC.ret ?_
          have h0 : (readR T n id d.stamp d.waits m).2 = 0 := by rw [hR]
          have hv9 : ¬ (aget d.said m.from_).isSome = true := said_who fun j hj => hz.2 j hj (by omega)
          obtain ⟨hE, hS⟩ := drecv_new h0 hv9
          have hN9 : d.said.take z = d.said := List.take_of_length_le (by omega)
          have hDn : drecvD T n id d m = decide ((max n 1 - 1) / 3 < (((1 + cnt d.said (parseR m.body n).1.result : Nat)) : Int)) := by unfold drecvD; rw [hR]
          rw [hR] at hS
          first
            | rw [if_pos (by rw [hDn]; exact decide_eq_true (by rw [hN9] at hc134; omega))] at hS
            | rw [if_neg (by rw [hDn]; simp only [decide_eq_true_eq]; rw [hN9] at hc134; omega)] at hS
          refine SE.fin (rs := [.tmp 4]) rfl (RV.tmp rfl RV.nil) (()) (by rw [hS]; repeat (first | exact List.nil_sublist _ | exact List.Sublist.refl _ | apply List.Sublist.cons_cons | apply List.Sublist.cons)) (by simp [It.rids]) ?_
          rw [hE]
          rfl
    · skip
      refine SX.eff rfl (Eff.buildSl tabOk Try.underlying49 rfl rfl rfl rfl rfl rfl rfl) (by simp) rfl rfl ?_
      rintro _ _ ⟨rfl, rfl⟩
      refine SX.effN [] [] rfl (Eff.buildOwn tabOk Try.underlying49 rfl rfl rfl rfl rfl rfl rfl) rfl (by first | exact own_mid List.mem_cons_self | (simp; done)) rfl rfl ?_
      rintro _ _ ⟨r113, rfl, rfl⟩
      refine ⟨[own 100 2 r113 []], rfl, ?_⟩
      refine SX.effN [own 100 2 r113 []] [] rfl (Eff.appendE (zs := saidL d.said) tabOk [] rfl Try.underlying49 rfl rfl rfl rfl rfl rfl (said_ones d.said) (by unfold maxLen; simp only [List.length_nil, List.length_append, List.length_map, List.length_cons]; omega) (by rw [show Try.prog.bytesOf 100 = 16 by kernel_rfl]; simp only [List.length_nil, List.length_append, List.length_map, List.length_cons]; omega)) rfl (by first | exact own_mid List.mem_cons_self | (simp; done)) rfl rfl ?_
      rintro _ _ ⟨r118, rfl, rfl⟩
      refine ⟨[own 100 2 r118 (saidL d.said)], rfl, ?_⟩
      refine SX.effN [own 100 2 r118 (saidL d.said)] [] rfl (Eff.frozen [] (Eff.appendE (zs := saidL (d.said ++ [(m.from_, (parseR m.body n).1.result)])) tabOk [] (by unfold saidL; rw [List.map_append]; rfl) Try.underlying49 rfl rfl rfl rfl rfl rfl (by intro c hc; rw [List.mem_singleton] at hc; subst hc; rfl) (by unfold maxLen; simp only [List.length_nil, List.length_append, List.length_map, List.length_cons]; omega) (by rw [show Try.prog.bytesOf 100 = 16 by kernel_rfl]; simp only [List.length_nil, List.length_append, List.length_map, List.length_cons]; omega))) rfl (by first | exact own_mid List.mem_cons_self | (simp; done)) rfl rfl ?_
      rintro _ _ ⟨rfl, rfl⟩
      refine ⟨[], rfl, ?_⟩
      refine SX.val rfl (Val.nilCheck rfl) (by first | (simp [mids, It.mids, ownPc, mapPc]; done) | (intro k hk; simp [mids, It.mids, ownPc, mapPc] at hk ⊢; grind)) rfl rfl ?_
      refine SX.val rfl (Val.fieldAddr tabOk rfl rfl rfl rfl rfl) (by first | (simp [mids, It.mids, ownPc, mapPc]; done) | (intro k hk; simp [mids, It.mids, ownPc, mapPc] at hk ⊢; grind)) rfl rfl ?_
      refine SX.nil ?_
      refine SE.effZ rfl (Eff.store (L' := DS.cells q n id (⟨d.stamp, d.waits, d.req, (d.said ++ [(m.from_, (parseR m.body n).1.result)]), d.acc⟩)) tabOk rfl rfl rfl (by repeat first|assumption|exact Upd.here|apply Upd.there) rfl (Nat.le_of_ble_eq_true (by rfl)) rfl (by rfl)) rfl rfl ?_
      rintro _ _ ⟨rfl, rfl⟩
      refine SE.seq ?_
      refine SC.seq ?_
      refine SC.seq (SC.region ?_)
      refine SL.val (Val.move rfl) rfl rfl ?_
      refine SL.val (Val.move rfl) rfl rfl ?_
      refine SL.val (Val.nilCheck rfl) rfl rfl ?_
      refine SL.val (Val.fieldAddr tabOk rfl rfl rfl rfl rfl) rfl rfl ?_
      refine SL.val (Val.load1 tabOk rfl rfl (by first|(apply Or.inl;(repeat first|assumption|exact m0|apply m1);done)|(apply Or.inr;(repeat first|assumption|exact m0|apply m1);done)) List.not_mem_nil (by rfl)) rfl rfl ?_
      refine SL.call (rfaults_s (n := n) (by omega)) Casts.refl (by kernel_rfl) rfl rfl rfl ?_
      refine After.pure (by repeat (first | exact Reads.nil | (refine Reads.blk ?_ ?_; focus ((repeat first|assumption|exact m0|apply m1); done)) | (refine Reads.rd ?_ ?_; focus ((repeat first|assumption|exact m0|apply m1); done)) | (refine Reads.pc ?_ ?_; focus ((repeat first|assumption|exact m0|apply m1); done)) | (refine Reads.rdpc ?_ ?_; focus ((repeat first|assumption|exact m0|apply m1); done)))) (fun _ => rfl) ?_
      intro _
      refine SL.val (Val.gtI rfl rfl) rfl rfl ?_
      refine SL.nil (SE.seq ?_)
      refine SC.condP rfl ?_ ?_
      rotate_left
      · intro hc134
        refine SC.skip ?_
        refine SE.seq ?_
        refine SC.seq (SC.region ?_)
        refine SL.val (Val.assign rfl) rfl rfl ?_
        refine SL.nil (SE.seq ?_)
        refine SC.ret ?_
        have h0 : (readR T n id d.stamp d.waits m).2 = 0 := by rw [hR]
        have hv9 : ¬ (aget d.said m.from_).isSome = true := said_who fun j hj => hz.2 j hj (by omega)
        obtain ⟨hE, hS⟩ := drecv_new h0 hv9
        have hN9 : d.said.take z = d.said := List.take_of_length_le (by omega)
        have hDn : drecvD T n id d m = decide ((max n 1 - 1) / 3 < (((1 + cnt d.said (parseR m.body n).1.result : Nat)) : Int)) := by unfold drecvD; rw [hR]
        rw [hR] at hS
        first
          | rw [if_pos (by rw [hDn]; exact decide_eq_true (by rw [hN9] at hc134; omega))] at hS
          | rw [if_neg (by rw [hDn]; simp only [decide_eq_true_eq]; rw [hN9] at hc134; omega)] at hS
        refine SE.fin (rs := [.tmp 4]) rfl (RV.tmp rfl RV.nil) (()) (by rw [hS]; repeat (first | exact List.nil_sublist _ | exact List.Sublist.refl _ | apply List.Sublist.cons_cons | apply List.Sublist.cons)) (by simp [It.rids]) ?_
        rw [hE]
        rfl
      intro hc134
      refine SC.seq (SC.region ?_)
      refine SL.val (Val.move rfl) rfl rfl ?_
      refine SL.val (Val.nilCheck rfl) rfl rfl ?_
      refine SL.val (Val.fieldAddr tabOk rfl rfl rfl rfl rfl) rfl rfl ?_
      refine SL.eff (Eff.store (L' := DS.cells q n id (⟨d.stamp, false, d.req, (d.said ++ [(m.from_, (parseR m.body n).1.result)]), d.acc⟩)) tabOk rfl rfl rfl (by repeat first|assumption|exact Upd.here|apply Upd.there) rfl (Nat.le_of_ble_eq_true (by rfl)) rfl (by rfl)) rfl rfl ?_
      rintro _ _ ⟨rfl, rfl⟩
      refine SL.nil (SE.seq ?_)
      refine SC.drawZ [] (.q 0 (.q 2 (.q 3 (.q 4 (.q 5 (.q 7 (.q 8 (.q 9 (.q 10 (.q 11 (.q 12 (.q 13 (.q 14 (.q 15 (.two 1 16 (.two 6 16 (.e 16 (.e 17 (.q 18 (.q 19 .nil)))) (.e 6 (.e 17 (.q 18 (.q 19 .nil))))) (.e 1 (.e 6 (.e 17 (.q 18 (.q 19 .nil)))))))))))))))))))) (by kernel_rfl) (by kernel_rfl) ?_
      refine SX.val rfl (Val.move rfl) (by first | (simp [mids, It.mids, ownPc, mapPc]; done) | (intro k hk; simp [mids, It.mids, ownPc, mapPc] at hk ⊢; grind)) rfl rfl ?_
      refine SX.val rfl (Val.move rfl) (by first | (simp [mids, It.mids, ownPc, mapPc]; done) | (intro k hk; simp [mids, It.mids, ownPc, mapPc] at hk ⊢; grind)) rfl rfl ?_
      refine SX.val rfl (Val.nilCheck rfl) (by first | (simp [mids, It.mids, ownPc, mapPc]; done) | (intro k hk; simp [mids, It.mids, ownPc, mapPc] at hk ⊢; grind)) rfl rfl ?_
      refine SX.val rfl (Val.fieldAddr tabOk rfl rfl rfl rfl rfl) (by first | (simp [mids, It.mids, ownPc, mapPc]; done) | (intro k hk; simp [mids, It.mids, ownPc, mapPc] at hk ⊢; grind)) rfl rfl ?_
      refine SX.val rfl (Val.load1 tabOk rfl rfl (by first|(apply Or.inl;(repeat first|assumption|exact m0|apply m1);done)|(apply Or.inr;(repeat first|assumption|exact m0|apply m1);done)) List.not_mem_nil (by rfl)) (by first | (simp [mids, It.mids, ownPc, mapPc]; done) | (intro k hk; simp [mids, It.mids, ownPc, mapPc] at hk ⊢; grind)) rfl rfl ?_
      refine SX.val rfl (Val.move rfl) (by first | (simp [mids, It.mids, ownPc, mapPc]; done) | (intro k hk; simp [mids, It.mids, ownPc, mapPc] at hk ⊢; grind)) rfl rfl ?_
      refine SX.val rfl (Val.nilCheck rfl) (by first | (simp [mids, It.mids, ownPc, mapPc]; done) | (intro k hk; simp [mids, It.mids, ownPc, mapPc] at hk ⊢; grind)) rfl rfl ?_
      refine SX.val rfl (Val.fieldAddr tabOk rfl rfl rfl rfl rfl) (by first | (simp [mids, It.mids, ownPc, mapPc]; done) | (intro k hk; simp [mids, It.mids, ownPc, mapPc] at hk ⊢; grind)) rfl rfl ?_
      refine SX.val rfl (Val.load1 tabOk rfl rfl (by first|(apply Or.inl;(repeat first|assumption|exact m0|apply m1);done)|(apply Or.inr;(repeat first|assumption|exact m0|apply m1);done)) List.not_mem_nil (by rfl)) (by first | (simp [mids, It.mids, ownPc, mapPc]; done) | (intro k hk; simp [mids, It.mids, ownPc, mapPc] at hk ⊢; grind)) rfl rfl ?_
      refine SX.val rfl (Val.fieldAddr tabOk rfl rfl rfl rfl rfl) (by first | (simp [mids, It.mids, ownPc, mapPc]; done) | (intro k hk; simp [mids, It.mids, ownPc, mapPc] at hk ⊢; grind)) rfl rfl ?_
      refine SX.val rfl (Val.load1 tabOk rfl rfl (by first|(apply Or.inl;(repeat first|assumption|exact m0|apply m1);done)|(apply Or.inr;(repeat first|assumption|exact m0|apply m1);done)) List.not_mem_nil (by rfl)) (by first | (simp [mids, It.mids, ownPc, mapPc]; done) | (intro k hk; simp [mids, It.mids, ownPc, mapPc] at hk ⊢; grind)) rfl rfl ?_
      refine SX.val rfl (Val.fieldAddr tabOk rfl rfl rfl rfl rfl) (by first | (simp [mids, It.mids, ownPc, mapPc]; done) | (intro k hk; simp [mids, It.mids, ownPc, mapPc] at hk ⊢; grind)) rfl rfl ?_
      refine SX.val rfl (Val.load1 tabOk rfl rfl (by first|(apply Or.inl;(repeat first|assumption|exact m0|apply m1);done)|(apply Or.inr;(repeat first|assumption|exact m0|apply m1);done)) List.not_mem_nil (by rfl)) (by first | (simp [mids, It.mids, ownPc, mapPc]; done) | (intro k hk; simp [mids, It.mids, ownPc, mapPc] at hk ⊢; grind)) rfl rfl ?_
      refine SX.val rfl (Val.buildS (L := Oc.abs (Oc.mk id (parseR m.body n).1.stamp (parseR m.body n).1.result)) tabOk rfl rfl rfl rfl) (by first | (simp [mids, It.mids, ownPc, mapPc]; done) | (intro k hk; simp [mids, It.mids, ownPc, mapPc] at hk ⊢; grind)) rfl rfl ?_
      refine SX.two ?_ ?_
      · skip
        refine SX.effN [] [] rfl (Eff.buildOwn tabOk Try.underlying42 rfl rfl rfl rfl rfl rfl rfl) rfl (by first | exact own_mid List.mem_cons_self | (simp; done)) rfl rfl ?_
        rintro _ _ ⟨r139, rfl, rfl⟩
        refine ⟨[own 60 3 r139 []], rfl, ?_⟩
        refine SX.two ?_ ?_
        · skip
          refine SX.effN [own 60 3 r139 []] [] rfl (Eff.appendE (zs := d.acc.map Oc.abs) tabOk [] rfl Try.underlying42 rfl rfl rfl rfl rfl rfl (ocs_ones d.acc) (by unfold maxLen; simp only [List.length_nil, List.length_append, List.length_map, List.length_cons]; omega) (by rw [show Try.prog.bytesOf 60 = 24 by kernel_rfl]; simp only [List.length_nil, List.length_append, List.length_map, List.length_cons]; omega)) rfl (by first | exact own_mid List.mem_cons_self | (simp; done)) rfl rfl ?_
          rintro _ _ ⟨r144, rfl, rfl⟩
          refine ⟨[own 60 3 r144 (d.acc.map Oc.abs)], rfl, ?_⟩
          refine SX.eff rfl (Eff.buildSl tabOk Try.underlying42 rfl rfl rfl rfl rfl rfl rfl) (by simp) rfl rfl ?_
          rintro _ _ ⟨rfl, rfl⟩
          refine SX.effN [own 60 3 r144 (d.acc.map Oc.abs)] [] rfl (Eff.frozen [] (Eff.appendE (zs := (d.acc ++ [Oc.mk id (parseR m.body n).1.stamp (parseR m.body n).1.result]).map Oc.abs) tabOk [] (by rw [List.map_append]; rfl) Try.underlying42 rfl rfl rfl rfl rfl rfl (by intro c hc; rw [List.mem_singleton] at hc; subst hc; rfl) (by unfold maxLen; simp only [List.length_nil, List.length_append, List.length_map, List.length_cons]; omega) (by rw [show Try.prog.bytesOf 60 = 24 by kernel_rfl]; simp only [List.length_nil, List.length_append, List.length_map, List.length_cons]; omega))) rfl (by first | exact own_mid List.mem_cons_self | (simp; done)) rfl rfl ?_
          rintro _ _ ⟨rfl, rfl⟩
          refine ⟨[], rfl, ?_⟩
          refine SX.val rfl (Val.nilCheck rfl) (by first | (simp [mids, It.mids, ownPc, mapPc]; done) | (intro k hk; simp [mids, It.mids, ownPc, mapPc] at hk ⊢; grind)) rfl rfl ?_
          refine SX.val rfl (Val.fieldAddr tabOk rfl rfl rfl rfl rfl) (by first | (simp [mids, It.mids, ownPc, mapPc]; done) | (intro k hk; simp [mids, It.mids, ownPc, mapPc] at hk ⊢; grind)) rfl rfl ?_
          refine SX.nil ?_
          refine SE.effZ rfl (Eff.store (L' := DS.cells q n id (⟨d.stamp, false, d.req, (d.said ++ [(m.from_, (parseR m.body n).1.result)]), (d.acc ++ [Oc.mk id (parseR m.body n).1.stamp (parseR m.body n).1.result])⟩)) tabOk rfl rfl rfl (by repeat first|assumption|exact Upd.here|apply Upd.there) rfl (Nat.le_of_ble_eq_true (by rfl)) rfl (by rfl)) rfl rfl ?_
          rintro _ _ ⟨rfl, rfl⟩
          refine SE.seq ?_
          refine SC.seq (SC.region ?_)
          refine SL.val (Val.assign rfl) rfl rfl ?_
          refine SL.nil (SE.seq ?_)
          refine SC.ret ?_
          have h0 : (readR T n id d.stamp d.waits m).2 = 0 := by rw [hR]
          have hv9 : ¬ (aget d.said m.from_).isSome = true := said_who fun j hj => hz.2 j hj (by omega)
          obtain ⟨hE, hS⟩ := drecv_new h0 hv9
          have hN9 : d.said.take z = d.said := List.take_of_length_le (by omega)
          have hDn : drecvD T n id d m = decide ((max n 1 - 1) / 3 < (((1 + cnt d.said (parseR m.body n).1.result : Nat)) : Int)) := by unfold drecvD; rw [hR]
          rw [hR] at hS
          first
            | rw [if_pos (by rw [hDn]; exact decide_eq_true (by rw [hN9] at hc134; omega))] at hS
            | rw [if_neg (by rw [hDn]; simp only [decide_eq_true_eq]; rw [hN9] at hc134; omega)] at hS
          refine SE.fin (rs := [.tmp 4]) rfl (RV.tmp rfl RV.nil) (()) (by rw [hS]; repeat (first | exact List.nil_sublist _ | exact List.Sublist.refl _ | apply List.Sublist.cons_cons | apply List.Sublist.cons)) (by simp [It.rids]) ?_
          rw [hE]
          rfl
        · skip
          refine SX.eff rfl (Eff.buildSl tabOk Try.underlying42 rfl rfl rfl rfl rfl rfl rfl) (by simp) rfl rfl ?_
          rintro _ _ ⟨rfl, rfl⟩
          refine SX.effN [own 60 3 r139 []] [] rfl (Eff.appendE (zs := d.acc.map Oc.abs) tabOk [] rfl Try.underlying42 rfl rfl rfl rfl rfl rfl (ocs_ones d.acc) (by unfold maxLen; simp only [List.length_nil, List.length_append, List.length_map, List.length_cons]; omega) (by rw [show Try.prog.bytesOf 60 = 24 by kernel_rfl]; simp only [List.length_nil, List.length_append, List.length_map, List.length_cons]; omega)) rfl (by first | exact own_mid List.mem_cons_self | (simp; done)) rfl rfl ?_
          rintro _ _ ⟨r144, rfl, rfl⟩
          refine ⟨[own 60 3 r144 (d.acc.map Oc.abs)], rfl, ?_⟩
          refine SX.effN [own 60 3 r144 (d.acc.map Oc.abs)] [] rfl (Eff.frozen [] (Eff.appendE (zs := (d.acc ++ [Oc.mk id (parseR m.body n).1.stamp (parseR m.body n).1.result]).map Oc.abs) tabOk [] (by rw [List.map_append]; rfl) Try.underlying42 rfl rfl rfl rfl rfl rfl (by intro c hc; rw [List.mem_singleton] at hc; subst hc; rfl) (by unfold maxLen; simp only [List.length_nil, List.length_append, List.length_map, List.length_cons]; omega) (by rw [show Try.prog.bytesOf 60 = 24 by kernel_rfl]; simp only [List.length_nil, List.length_append, List.length_map, List.length_cons]; omega))) rfl (by first | exact own_mid List.mem_cons_self | (simp; done)) rfl rfl ?_
          rintro _ _ ⟨rfl, rfl⟩
          refine ⟨[], rfl, ?_⟩
          refine SX.val rfl (Val.nilCheck rfl) (by first | (simp [mids, It.mids, ownPc, mapPc]; done) | (intro k hk; simp [mids, It.mids, ownPc, mapPc] at hk ⊢; grind)) rfl rfl ?_
          refine SX.val rfl (Val.fieldAddr tabOk rfl rfl rfl rfl rfl) (by first | (simp [mids, It.mids, ownPc, mapPc]; done) | (intro k hk; simp [mids, It.mids, ownPc, mapPc] at hk ⊢; grind)) rfl rfl ?_
          refine SX.nil ?_
          refine SE.effZ rfl (Eff.store (L' := DS.cells q n id (⟨d.stamp, false, d.req, (d.said ++ [(m.from_, (parseR m.body n).1.result)]), (d.acc ++ [Oc.mk id (parseR m.body n).1.stamp (parseR m.body n).1.result])⟩)) tabOk rfl rfl rfl (by repeat first|assumption|exact Upd.here|apply Upd.there) rfl (Nat.le_of_ble_eq_true (by rfl)) rfl (by rfl)) rfl rfl ?_
          rintro _ _ ⟨rfl, rfl⟩
          refine SE.seq ?_
          refine SC.seq (SC.region ?_)
          refine SL.val (Val.assign rfl) rfl rfl ?_
          refine SL.nil (SE.seq ?_)
          refine SC.ret ?_
          have h0 : (readR T n id d.stamp d.waits m).2 = 0 := by rw [hR]
          have hv9 : ¬ (aget d.said m.from_).isSome = true := said_who fun j hj => hz.2 j hj (by omega)
          obtain ⟨hE, hS⟩ := drecv_new h0 hv9
          have hN9 : d.said.take z = d.said := List.take_of_length_le (by omega)
          have hDn : drecvD T n id d m = decide ((max n 1 - 1) / 3 < (((1 + cnt d.said (parseR m.body n).1.result : Nat)) : Int)) := by unfold drecvD; rw [hR]
          rw [hR] at hS
          first
            | rw [if_pos (by rw [hDn]; exact decide_eq_true (by rw [hN9] at hc134; omega))] at hS
            | rw [if_neg (by rw [hDn]; simp only [decide_eq_true_eq]; rw [hN9] at hc134; omega)] at hS
          refine SE.fin (rs := [.tmp 4]) rfl (RV.tmp rfl RV.nil) (()) (by rw [hS]; repeat (first | exact List.nil_sublist _ | exact List.Sublist.refl _ | apply List.Sublist.cons_cons | apply List.Sublist.cons)) (by simp [It.rids]) ?_
          rw [hE]
          rfl
      · skip
        refine SX.eff rfl (Eff.buildSl tabOk Try.underlying42 rfl rfl rfl rfl rfl rfl rfl) (by simp) rfl rfl ?_
        rintro _ _ ⟨rfl, rfl⟩
        refine SX.effN [] [] rfl (Eff.buildOwn tabOk Try.underlying42 rfl rfl rfl rfl rfl rfl rfl) rfl (by first | exact own_mid List.mem_cons_self | (simp; done)) rfl rfl ?_
        rintro _ _ ⟨r139, rfl, rfl⟩
        refine ⟨[own 60 3 r139 []], rfl, ?_⟩
        refine SX.effN [own 60 3 r139 []] [] rfl (Eff.appendE (zs := d.acc.map Oc.abs) tabOk [] rfl Try.underlying42 rfl rfl rfl rfl rfl rfl (ocs_ones d.acc) (by unfold maxLen; simp only [List.length_nil, List.length_append, List.length_map, List.length_cons]; omega) (by rw [show Try.prog.bytesOf 60 = 24 by kernel_rfl]; simp only [List.length_nil, List.length_append, List.length_map, List.length_cons]; omega)) rfl (by first | exact own_mid List.mem_cons_self | (simp; done)) rfl rfl ?_
        rintro _ _ ⟨r144, rfl, rfl⟩
        refine ⟨[own 60 3 r144 (d.acc.map Oc.abs)], rfl, ?_⟩
        refine SX.effN [own 60 3 r144 (d.acc.map Oc.abs)] [] rfl (Eff.frozen [] (Eff.appendE (zs := (d.acc ++ [Oc.mk id (parseR m.body n).1.stamp (parseR m.body n).1.result]).map Oc.abs) tabOk [] (by rw [List.map_append]; rfl) Try.underlying42 rfl rfl rfl rfl rfl rfl (by intro c hc; rw [List.mem_singleton] at hc; subst hc; rfl) (by unfold maxLen; simp only [List.length_nil, List.length_append, List.length_map, List.length_cons]; omega) (by rw [show Try.prog.bytesOf 60 = 24 by kernel_rfl]; simp only [List.length_nil, List.length_append, List.length_map, List.length_cons]; omega))) rfl (by first | exact own_mid List.mem_cons_self | (simp; done)) rfl rfl ?_
        rintro _ _ ⟨rfl, rfl⟩
        refine ⟨[], rfl, ?_⟩
        refine SX.val rfl (Val.nilCheck rfl) (by first | (simp [mids, It.mids, ownPc, mapPc]; done) | (intro k hk; simp [mids, It.mids, ownPc, mapPc] at hk ⊢; grind)) rfl rfl ?_
        refine SX.val rfl (Val.fieldAddr tabOk rfl rfl rfl rfl rfl) (by first | (simp [mids, It.mids, ownPc, mapPc]; done) | (intro k hk; simp [mids, It.mids, ownPc, mapPc] at hk ⊢; grind)) rfl rfl ?_
        refine SX.nil ?_
        refine SE.effZ rfl (Eff.store (L' := DS.cells q n id (⟨d.stamp, false, d.req, (d.said ++ [(m.from_, (parseR m.body n).1.result)]), (d.acc ++ [Oc.mk id (parseR m.body n).1.stamp (parseR m.body n).1.result])⟩)) tabOk rfl rfl rfl (by repeat first|assumption|exact Upd.here|apply Upd.there) rfl (Nat.le_of_ble_eq_true (by rfl)) rfl (by rfl)) rfl rfl ?_
        rintro _ _ ⟨rfl, rfl⟩
        refine SE.seq ?_
        refine SC.seq (SC.region ?_)
        refine SL.val (Val.assign rfl) rfl rfl ?_
        refine SL.nil (SE.seq ?_)
        refine SC.ret ?_
        have h0 : (readR T n id d.stamp d.waits m).2 = 0 := by rw [hR]
        have hv9 : ¬ (aget d.said m.from_).isSome = true := said_who fun j hj => hz.2 j hj (by omega)
        obtain ⟨hE, hS⟩ := drecv_new h0 hv9
        have hN9 : d.said.take z = d.said := List.take_of_length_le (by omega)
        have hDn : drecvD T n id d m = decide ((max n 1 - 1) / 3 < (((1 + cnt d.said (parseR m.body n).1.result : Nat)) : Int)) := by unfold drecvD; rw [hR]
        rw [hR] at hS
        first
          | rw [if_pos (by rw [hDn]; exact decide_eq_true (by rw [hN9] at hc134; omega))] at hS
          | rw [if_neg (by rw [hDn]; simp only [decide_eq_true_eq]; rw [hN9] at hc134; omega)] at hS
        refine SE.fin (rs := [.tmp 4]) rfl (RV.tmp rfl RV.nil) (()) (by rw [hS]; repeat (first | exact List.nil_sublist _ | exact List.Sublist.refl _ | apply List.Sublist.cons_cons | apply List.Sublist.cons)) (by simp [It.rids]) ?_
        rw [hE]
        rfl
  · skip
    refine SX.alloc tabOk rfl rfl rfl rfl fun b5 => ?_
    refine SX.call rfl (rpparse_s (l := m.body) (n := n) (by omega)) (by simp [mids, It.mids]) Casts.refl (by kernel_rfl) rfl rfl rfl ?_
    refine After.pure (by repeat (first | exact Reads.nil | (refine Reads.blk ?_ ?_; focus ((repeat first|assumption|exact m0|apply m1); done)) | (refine Reads.rd ?_ ?_; focus ((repeat first|assumption|exact m0|apply m1); done)) | (refine Reads.pc ?_ ?_; focus ((repeat first|assumption|exact m0|apply m1); done)) | (refine Reads.rdpc ?_ ?_; focus ((repeat first|assumption|exact m0|apply m1); done)))) (fun _ => rfl) ?_
    intro _
    refine SX.val rfl (Val.move rfl) (by first | (simp [mids, It.mids, ownPc, mapPc]; done) | (intro k hk; simp [mids, It.mids, ownPc, mapPc] at hk ⊢; grind)) rfl rfl ?_
    refine SX.val rfl (Val.extract rfl rfl) (by first | (simp [mids, It.mids, ownPc, mapPc]; done) | (intro k hk; simp [mids, It.mids, ownPc, mapPc] at hk ⊢; grind)) rfl rfl ?_
    refine SX.val rfl (Val.extract rfl rfl) (by first | (simp [mids, It.mids, ownPc, mapPc]; done) | (intro k hk; simp [mids, It.mids, ownPc, mapPc] at hk ⊢; grind)) rfl rfl ?_
    refine SX.eff rfl (Eff.store (L' := (parseR m.body n).1.abs) tabOk rfl rfl rfl (by repeat first|assumption|exact Upd.here|apply Upd.there) rfl (Nat.le_of_ble_eq_true (by rfl)) rfl (by exact putL_whole rfl)) (by simp) rfl rfl ?_
    rintro _ _ ⟨rfl, rfl⟩
    refine SX.val rfl (Val.assign rfl) (by first | (simp [mids, It.mids, ownPc, mapPc]; done) | (intro k hk; simp [mids, It.mids, ownPc, mapPc] at hk ⊢; grind)) rfl rfl ?_
    refine SX.nil (SE.seq ?_)
    refine SC.seq ?_
    refine SC.seq (SC.region ?_)
    refine SL.val (Val.move rfl) rfl rfl ?_
    refine SL.val (Val.neI rfl rfl) rfl rfl ?_
    refine SL.nil (SE.seq ?_)
    refine SC.condP rfl ?_ ?_
    · intro hc67
      refine SC.seq (SC.region ?_)
      refine SL.val (Val.move rfl) rfl rfl ?_
      refine SL.val (Val.assign rfl) rfl rfl ?_
      refine SL.nil (SE.seq ?_)
      refine SC.ret ?_
      refine SE.then_ (by intro h; cases h) ?_
      have hR : (readR T n id d.stamp d.waits m) = (Rp.zero, (parseR m.body n).2) := by
        unfold readR
        rw [if_neg (by omega), if_neg (by omega), if_pos (by assumption)]
      obtain ⟨hE, hS⟩ := drecv_err hR (by first | assumption | decide)
      refine SE.fin (rs := [.tmp 4]) rfl (RV.tmp rfl RV.nil) (()) (by rw [hS]; repeat (first | exact List.nil_sublist _ | exact List.Sublist.refl _ | apply List.Sublist.cons_cons | apply List.Sublist.cons)) (by simp [It.rids]) ?_
      rw [hE]
      rfl
    intro hc67
    refine SC.skip ?_
    refine SE.seq ?_
    refine SC.seq ?_
    refine SC.seq ?_
    refine SC.draw [] (.q 0 (.q 1 (.q 2 (.q 3 (.q 4 (.q 5 (.q 6 .nil))))))) (by kernel_rfl) (by kernel_rfl) ?_
    refine SX.val rfl (Val.fieldAddr tabOk rfl rfl rfl rfl rfl) (by simp) rfl rfl ?_
    refine SX.val rfl (Val.load1 tabOk rfl rfl (by first|(apply Or.inl;(repeat first|assumption|exact m0|apply m1);done)|(apply Or.inr;(repeat first|assumption|exact m0|apply m1);done)) List.not_mem_nil (by rfl)) (by simp) rfl rfl ?_
    refine SX.val rfl (Val.move rfl) (by simp) rfl rfl ?_
    refine SX.val rfl (Val.nilCheck rfl) (by simp) rfl rfl ?_
    refine SX.val rfl (Val.fieldAddr tabOk rfl rfl rfl rfl rfl) (by simp) rfl rfl ?_
    refine SX.val rfl (Val.load1 tabOk rfl rfl (by first|(apply Or.inl;(repeat first|assumption|exact m0|apply m1);done)|(apply Or.inr;(repeat first|assumption|exact m0|apply m1);done)) List.not_mem_nil (by rfl)) (by simp) rfl rfl ?_
    refine SX.val rfl (Val.neI rfl rfl) (by simp) rfl rfl ?_
    refine SX.nil (SE.seq ?_)
    refine SC.condP rfl ?_ ?_
    · intro hc75
      refine SC.seq (SC.region ?_)
      refine SL.val (Val.assign rfl) rfl rfl ?_
      refine SL.nil (SE.seq ?_)
      refine SC.ret ?_
      refine SE.then_ (by intro h; cases h) ?_
      have hR : (readR T n id d.stamp d.waits m) = (Rp.zero, 17) := by
        unfold readR
        rw [if_neg (by omega), if_neg (by omega), if_neg (by omega), if_pos (by assumption)]
      obtain ⟨hE, hS⟩ := drecv_err hR (by first | assumption | decide)
      refine SE.fin (rs := [.tmp 4]) rfl (RV.tmp rfl RV.nil) (()) (by rw [hS]; repeat (first | exact List.nil_sublist _ | exact List.Sublist.refl _ | apply List.Sublist.cons_cons | apply List.Sublist.cons)) (by simp [It.rids]) ?_
      rw [hE]
      rfl
    intro hc75
    refine SC.skip ?_
    refine SE.seq ?_
    refine SC.seq ?_
    refine SC.seq ?_
    refine SC.draw [] (.q 0 (.q 1 (.q 2 (.q 3 (.q 4 (.q 5 (.q 6 (.q 7 (.q 8 (.q 9 (.q 10 (.q 11 (.q 12 (.q 13 .nil)))))))))))))) (by kernel_rfl) (by kernel_rfl) ?_
    refine SX.val rfl (Val.move rfl) (by simp) rfl rfl ?_
    refine SX.val rfl (Val.nilCheck rfl) (by simp) rfl rfl ?_
    refine SX.val rfl (Val.fieldAddr tabOk rfl rfl rfl rfl rfl) (by simp) rfl rfl ?_
    refine SX.val rfl (Val.load1 tabOk rfl rfl (by first|(apply Or.inl;(repeat first|assumption|exact m0|apply m1);done)|(apply Or.inr;(repeat first|assumption|exact m0|apply m1);done)) List.not_mem_nil (by rfl)) (by simp) rfl rfl ?_
    refine SX.val rfl (Val.notB rfl) (by simp) rfl rfl ?_
    refine SX.val rfl (Val.move rfl) (by simp) rfl rfl ?_
    refine SX.both (t := 81) rfl ?_ ?_
    · intro hc81
      have hW : d.waits = false := by simpa using hc81
      iterate 7 refine SX.skip rfl rfl rfl ?_
      refine SX.val rfl (Val.pickT rfl rfl) (by simp) rfl rfl ?_
      refine SX.nil (SE.seq ?_)
      refine SC.condT rfl ?_
      refine SC.seq (SC.region ?_)
      refine SL.val (Val.assign rfl) rfl rfl ?_
      refine SL.nil (SE.seq ?_)
      refine SC.ret ?_
      refine SE.then_ (by intro h; cases h) ?_
      have hR : (readR T n id d.stamp d.waits m) = (Rp.zero, 10) := by
        unfold readR
        rw [if_neg (by omega), if_neg (by omega), if_neg (by omega), if_neg (by omega), if_pos (by first | exact .inl hW | exact .inr (by assumption))]
      obtain ⟨hE, hS⟩ := drecv_err hR (by first | assumption | decide)
      refine SE.fin (rs := [.tmp 4]) rfl (RV.tmp rfl RV.nil) (()) (by rw [hS]; repeat (first | exact List.nil_sublist _ | exact List.Sublist.refl _ | apply List.Sublist.cons_cons | apply List.Sublist.cons)) (by simp [It.rids]) ?_
      rw [hE]
      rfl
    intro hc81
    have hW : ¬ d.waits = false := by simpa using hc81
    refine SX.val rfl (Val.fieldAddr tabOk rfl rfl rfl rfl rfl) (by simp) rfl rfl ?_
    refine SX.val rfl (Val.load1 tabOk rfl rfl (by first|(apply Or.inl;(repeat first|assumption|exact m0|apply m1);done)|(apply Or.inr;(repeat first|assumption|exact m0|apply m1);done)) List.not_mem_nil (by rfl)) (by simp) rfl rfl ?_
    refine SX.val rfl (Val.move rfl) (by simp) rfl rfl ?_
    refine SX.val rfl (Val.nilCheck rfl) (by simp) rfl rfl ?_
    refine SX.val rfl (Val.fieldAddr tabOk rfl rfl rfl rfl rfl) (by simp) rfl rfl ?_
    refine SX.val rfl (Val.load1 tabOk rfl rfl (by first|(apply Or.inl;(repeat first|assumption|exact m0|apply m1);done)|(apply Or.inr;(repeat first|assumption|exact m0|apply m1);done)) List.not_mem_nil (by rfl)) (by simp) rfl rfl ?_
    refine SX.val rfl (Val.neI rfl rfl) (by simp) rfl rfl ?_
    refine SX.val rfl (Val.pickF rfl rfl) (by simp) rfl rfl ?_
    refine SX.nil (SE.seq ?_)
    refine SC.condP rfl ?_ ?_
    · intro hc89
      refine SC.seq (SC.region ?_)
      refine SL.val (Val.assign rfl) rfl rfl ?_
      refine SL.nil (SE.seq ?_)
      refine SC.ret ?_
      refine SE.then_ (by intro h; cases h) ?_
      have hR : (readR T n id d.stamp d.waits m) = (Rp.zero, 10) := by
        unfold readR
        rw [if_neg (by omega), if_neg (by omega), if_neg (by omega), if_neg (by omega), if_pos (by first | exact .inl hW | exact .inr (by assumption))]
      obtain ⟨hE, hS⟩ := drecv_err hR (by first | assumption | decide)
      refine SE.fin (rs := [.tmp 4]) rfl (RV.tmp rfl RV.nil) (()) (by rw [hS]; repeat (first | exact List.nil_sublist _ | exact List.Sublist.refl _ | apply List.Sublist.cons_cons | apply List.Sublist.cons)) (by simp [It.rids]) ?_
      rw [hE]
      rfl
    intro hc89
    refine SC.skip ?_
    refine SE.seq ?_
    refine SC.seq (SC.region ?_)
    refine SL.val (Val.assign rfl) rfl rfl ?_
    refine SL.nil (SE.seq ?_)
    refine SC.seq ?_
    refine SC.seq (SC.region ?_)
    refine SL.val (Val.move rfl) rfl rfl ?_
    refine SL.val (Val.nilCheck rfl) rfl rfl ?_
    refine SL.val (Val.fieldAddr tabOk rfl rfl rfl rfl rfl) rfl rfl ?_
    refine SL.val (Val.load1 tabOk rfl rfl (by first|(apply Or.inl;(repeat first|assumption|exact m0|apply m1);done)|(apply Or.inr;(repeat first|assumption|exact m0|apply m1);done)) List.not_mem_nil (by rfl)) rfl rfl ?_
    first
      | refine SL.val (Val.lenSl rfl Try.underlying49 (List.length_map _)) rfl rfl ?_
      | refine SL.val (Val.lenOwn rfl (by repeat first|assumption|exact m0|apply m1) Try.underlying49 (List.length_map _)) rfl rfl ?_
      | refine SL.val (Val.lenNil rfl Try.underlying49) rfl rfl ?_
    refine SL.val (Val.move rfl) rfl rfl ?_
    refine SL.nil (SE.seq ?_)
    refine SC.block ?_
    have hn7 := (parseR_ok2 (l := m.body) (n := n) (by omega)).1
    have hR : readR T n id d.stamp d.waits m = ((parseR m.body n).1, 0) := by
      unfold readR
      rw [if_neg (by omega), if_neg (by omega), if_neg (by omega), if_neg (by omega), if_neg (by rintro (h | h); exact hW h; omega)]
    refine SC.loop (ι := Nat) (fun z => [.blk b5 53 (parseR m.body n).1.abs, .blk b3 40 m.abs, .blk r 51 (DS.cells q n id (d)), .rd q 68 [mapV bd, mapV bt], .rdpc (mapPc bt Value.string cntV sOk (T))]) (fun z => [(0, ptr r), (3, ptr b3), (5, ptr b5), (7, int ((1 + cnt (d.said.take z) (parseR m.body n).1.result : Nat) : Int)), (93, .sl 2 (saidL d.said)), (94, int (d.said.length : Nat)), (95, int (z : Nat))]) (fun z => z ≤ d.said.length ∧ ∀ j (hj : j < d.said.length), j < z → ¬ d.said[j].1 = m.from_) (fun z => d.said.length - z) (0) (⟨Nat.zero_le _, fun j _ h => absurd h (by omega)⟩) (by exact ⟨rfl, rfl, rfl, rfl, rfl, rfl, rfl, trivial⟩) (by repeat first|exact s0 _|exact s1 _|apply s2|apply s3) ?_
    intro z hz
    refine SC.seq (SC.region ?_)
    refine SL.val (Val.ltI rfl rfl) rfl rfl ?_
    refine SL.nil (SE.seq ?_)
    refine SC.seq ?_
    refine SC.condP rfl ?_ ?_
    · intro hc96
      have hlt : z < d.said.length := by omega
      have hct := cnt_take hlt (parseR m.body n).1.result
      have hcb := cnt_le (d.said.take z) (parseR m.body n).1.result
      rw [List.length_take] at hcb
      refine SC.skip ?_
      refine SE.seq ?_
      refine SC.seq ?_
      refine SC.block ?_
      refine SC.seq (SC.region ?_)
      refine SL.val (Val.indexSl tabOk Try.underlying49 rfl rfl rfl rfl (at_map (by omega)) rfl rfl) rfl rfl ?_
      refine SL.val (Val.loadAR tabOk rfl rfl rfl rfl) rfl rfl ?_
      refine SL.eff (Eff.alloc tabOk rfl) rfl rfl ?_
      rintro _ _ ⟨b9, rfl, rfl⟩
      refine SL.eff (Eff.store (L' := [int (d.said[z]'hlt).1, int (d.said[z]'hlt).2]) tabOk rfl rfl rfl (by repeat first|assumption|exact Upd.here|apply Upd.there) rfl (Nat.le_of_ble_eq_true (by rfl)) rfl (by exact putL_whole rfl)) rfl rfl ?_
      rintro _ _ ⟨rfl, rfl⟩
      refine SL.nil (SE.seq ?_)
      refine SC.seq ?_
      refine SC.seq (SC.region ?_)
      refine SL.val (Val.fieldAddr tabOk rfl rfl rfl rfl rfl) rfl rfl ?_
      refine SL.val (Val.load1 tabOk rfl rfl (by first|(apply Or.inl;(repeat first|assumption|exact m0|apply m1);done)|(apply Or.inr;(repeat first|assumption|exact m0|apply m1);done)) List.not_mem_nil (by rfl)) rfl rfl ?_
      refine SL.val (Val.fieldAddr tabOk rfl rfl rfl rfl rfl) rfl rfl ?_
      refine SL.val (Val.load1 tabOk rfl rfl (by first|(apply Or.inl;(repeat first|assumption|exact m0|apply m1);done)|(apply Or.inr;(repeat first|assumption|exact m0|apply m1);done)) List.not_mem_nil (by rfl)) rfl rfl ?_
      refine SL.val (Val.eqI rfl rfl) rfl rfl ?_
      refine SL.nil (SE.seq ?_)
      refine SC.condP rfl ?_ ?_
      · intro hc103
        refine SC.seq (SC.region ?_)
        refine SL.val (Val.assign rfl) rfl rfl ?_
        refine SL.nil (SE.seq ?_)
        refine SC.ret ?_
        refine SE.then_ (by intro h; cases h) ?_
        refine SE.ret ?_
        refine SE.then_ (by intro h; cases h) ?_
        refine SE.then_ (by intro h; cases h) ?_
        refine SE.ret ?_
        refine SE.then_ (by intro h; cases h) ?_
        obtain ⟨hE, hS⟩ := drecv_twice (T := T) (n := n) (id := id) (d := d) (m := m) (by rw [hR]) (said_at hlt (by omega))
        refine SE.fin (rs := [.tmp 4]) rfl (RV.tmp rfl RV.nil) (()) (by rw [hS]; repeat (first | exact List.nil_sublist _ | exact List.Sublist.refl _ | apply List.Sublist.cons_cons | apply List.Sublist.cons)) (by simp [It.rids]) ?_
        rw [hE]
        rfl
      intro hc103
      refine SC.skip ?_
      refine SE.seq ?_
      refine SC.seq (SC.region ?_)
      refine SL.val (Val.fieldAddr tabOk rfl rfl rfl rfl rfl) rfl rfl ?_
      refine SL.val (Val.load1 tabOk rfl rfl (by first|(apply Or.inl;(repeat first|assumption|exact m0|apply m1);done)|(apply Or.inr;(repeat first|assumption|exact m0|apply m1);done)) List.not_mem_nil (by rfl)) rfl rfl ?_
      refine SL.val (Val.fieldAddr tabOk rfl rfl rfl rfl rfl) rfl rfl ?_
      refine SL.val (Val.load1 tabOk rfl rfl (by first|(apply Or.inl;(repeat first|assumption|exact m0|apply m1);done)|(apply Or.inr;(repeat first|assumption|exact m0|apply m1);done)) List.not_mem_nil (by rfl)) rfl rfl ?_
      refine SL.val (Val.eqI rfl rfl) rfl rfl ?_
      refine SL.nil (SE.seq ?_)
      refine SC.condP rfl ?_ ?_
      rotate_left
      · intro hc108
        rw [if_neg (by assumption)] at hct
        refine SC.skip ?_
        refine SE.inBlock ?_
        refine SE.seq ?_
        refine SC.region ?_
        first
          | refine SL.val (Val.addI rfl rfl (by simp only [InR, lo, hi]; omega)) rfl rfl ?_
          | refine SL.val (Val.addW rfl rfl) rfl rfl ?_
        refine SL.val (Val.move rfl) rfl rfl ?_
        refine SL.nil ?_
        refine SE.round (z + 1) (by first | omega | (dsimp only; omega)) (⟨hlt, fun j hj h => by rcases Nat.lt_or_ge j z with h1 | h1; exact hz.2 j hj h1; obtain rfl : j = z := (by omega); assumption⟩) (by rw [hct]; first | exact ⟨rfl, rfl, rfl, rfl, rfl, rfl, rfl, trivial⟩ | exact ⟨rfl, rfl, rfl, congrArg (fun k : Int => some (Abs.v (Value.int .i64 k))) (by omega), rfl, rfl, rfl, trivial⟩) (by repeat first|exact s0 _|exact s1 _|apply s2|apply s3)
      intro hc108
      rw [if_pos (by assumption)] at hct
      refine SC.region ?_
      refine SL.val (Val.move rfl) rfl rfl ?_
      first
        | refine SL.val (Val.addI rfl rfl (by simp only [InR, lo, hi]; omega)) rfl rfl ?_
        | refine SL.val (Val.addW rfl rfl) rfl rfl ?_
      refine SL.val (Val.assign rfl) rfl rfl ?_
      refine SL.nil ?_
      refine SE.inBlock ?_
      refine SE.seq ?_
      refine SC.region ?_
      first
        | refine SL.val (Val.addI rfl rfl (by simp only [InR, lo, hi]; omega)) rfl rfl ?_
        | refine SL.val (Val.addW rfl rfl) rfl rfl ?_
      refine SL.val (Val.move rfl) rfl rfl ?_
      refine SL.nil ?_
      refine SE.round (z + 1) (by first | omega | (dsimp only; omega)) (⟨hlt, fun j hj h => by rcases Nat.lt_or_ge j z with h1 | h1; exact hz.2 j hj h1; obtain rfl : j = z := (by omega); assumption⟩) (by rw [hct]; first | exact ⟨rfl, rfl, rfl, rfl, rfl, rfl, rfl, trivial⟩ | exact ⟨rfl, rfl, rfl, congrArg (fun k : Int => some (Abs.v (Value.int .i64 k))) (by omega), rfl, rfl, rfl, trivial⟩) (by repeat first|exact s0 _|exact s1 _|apply s2|apply s3)
    intro hc96
    refine SC.exit ?_
    refine SE.then_ (by intro h; cases h) ?_
    refine SE.then_ (by intro h; cases h) ?_
    refine SE.exit ?_
    refine SE.seq ?_
    refine SC.seq ?_
    refine SC.drawZ [] (.q 0 (.q 2 (.q 3 (.q 4 (.q 5 (.q 7 (.q 8 (.q 9 (.q 10 (.q 11 (.two 1 12 (.two 6 12 (.e 12 (.e 13 (.q 14 (.q 15 .nil)))) (.e 6 (.e 13 (.q 14 (.q 15 .nil))))) (.e 1 (.e 6 (.e 13 (.q 14 (.q 15 .nil)))))))))))))))) (by kernel_rfl) (by kernel_rfl) ?_
    refine SX.val rfl (Val.move rfl) (by first | (simp [mids, It.mids, ownPc, mapPc]; done) | (intro k hk; simp [mids, It.mids, ownPc, mapPc] at hk ⊢; grind)) rfl rfl ?_
    refine SX.val rfl (Val.move rfl) (by first | (simp [mids, It.mids, ownPc, mapPc]; done) | (intro k hk; simp [mids, It.mids, ownPc, mapPc] at hk ⊢; grind)) rfl rfl ?_
    refine SX.val rfl (Val.nilCheck rfl) (by first | (simp [mids, It.mids, ownPc, mapPc]; done) | (intro k hk; simp [mids, It.mids, ownPc, mapPc] at hk ⊢; grind)) rfl rfl ?_
    refine SX.val rfl (Val.fieldAddr tabOk rfl rfl rfl rfl rfl) (by first | (simp [mids, It.mids, ownPc, mapPc]; done) | (intro k hk; simp [mids, It.mids, ownPc, mapPc] at hk ⊢; grind)) rfl rfl ?_
    refine SX.val rfl (Val.load1 tabOk rfl rfl (by first|(apply Or.inl;(repeat first|assumption|exact m0|apply m1);done)|(apply Or.inr;(repeat first|assumption|exact m0|apply m1);done)) List.not_mem_nil (by rfl)) (by first | (simp [mids, It.mids, ownPc, mapPc]; done) | (intro k hk; simp [mids, It.mids, ownPc, mapPc] at hk ⊢; grind)) rfl rfl ?_
    refine SX.val rfl (Val.fieldAddr tabOk rfl rfl rfl rfl rfl) (by first | (simp [mids, It.mids, ownPc, mapPc]; done) | (intro k hk; simp [mids, It.mids, ownPc, mapPc] at hk ⊢; grind)) rfl rfl ?_
    refine SX.val rfl (Val.load1 tabOk rfl rfl (by first|(apply Or.inl;(repeat first|assumption|exact m0|apply m1);done)|(apply Or.inr;(repeat first|assumption|exact m0|apply m1);done)) List.not_mem_nil (by rfl)) (by first | (simp [mids, It.mids, ownPc, mapPc]; done) | (intro k hk; simp [mids, It.mids, ownPc, mapPc] at hk ⊢; grind)) rfl rfl ?_
    refine SX.val rfl (Val.fieldAddr tabOk rfl rfl rfl rfl rfl) (by first | (simp [mids, It.mids, ownPc, mapPc]; done) | (intro k hk; simp [mids, It.mids, ownPc, mapPc] at hk ⊢; grind)) rfl rfl ?_
    refine SX.val rfl (Val.load1 tabOk rfl rfl (by first|(apply Or.inl;(repeat first|assumption|exact m0|apply m1);done)|(apply Or.inr;(repeat first|assumption|exact m0|apply m1);done)) List.not_mem_nil (by rfl)) (by first | (simp [mids, It.mids, ownPc, mapPc]; done) | (intro k hk; simp [mids, It.mids, ownPc, mapPc] at hk ⊢; grind)) rfl rfl ?_
    refine SX.val rfl (Val.buildS tabOk rfl rfl rfl rfl) (by first | (simp [mids, It.mids, ownPc, mapPc]; done) | (intro k hk; simp [mids, It.mids, ownPc, mapPc] at hk ⊢; grind)) rfl rfl ?_
    refine SX.two ?_ ?_
    · skip
      refine SX.effN [] [] rfl (Eff.buildOwn tabOk Try.underlying49 rfl rfl rfl rfl rfl rfl rfl) rfl (by first | exact own_mid List.mem_cons_self | (simp; done)) rfl rfl ?_
      rintro _ _ ⟨r113, rfl, rfl⟩
      refine ⟨[own 100 2 r113 []], rfl, ?_⟩
      refine SX.two ?_ ?_
      · skip
        refine SX.effN [own 100 2 r113 []] [] rfl (Eff.appendE (zs := saidL d.said) tabOk [] rfl Try.underlying49 rfl rfl rfl rfl rfl rfl (said_ones d.said) (by unfold maxLen; simp only [List.length_nil, List.length_append, List.length_map, List.length_cons]; omega) (by rw [show Try.prog.bytesOf 100 = 16 by kernel_rfl]; simp only [List.length_nil, List.length_append, List.length_map, List.length_cons]; omega)) rfl (by first | exact own_mid List.mem_cons_self | (simp; done)) rfl rfl ?_
        rintro _ _ ⟨r118, rfl, rfl⟩
        refine ⟨[own 100 2 r118 (saidL d.said)], rfl, ?_⟩
        refine SX.eff rfl (Eff.buildSl tabOk Try.underlying49 rfl rfl rfl rfl rfl rfl rfl) (by simp) rfl rfl ?_
        rintro _ _ ⟨rfl, rfl⟩
        refine SX.effN [own 100 2 r118 (saidL d.said)] [] rfl (Eff.frozen [] (Eff.appendE (zs := saidL (d.said ++ [(m.from_, (parseR m.body n).1.result)])) tabOk [] (by unfold saidL; rw [List.map_append]; rfl) Try.underlying49 rfl rfl rfl rfl rfl rfl (by intro c hc; rw [List.mem_singleton] at hc; subst hc; rfl) (by unfold maxLen; simp only [List.length_nil, List.length_append, List.length_map, List.length_cons]; omega) (by rw [show Try.prog.bytesOf 100 = 16 by kernel_rfl]; simp only [List.length_nil, List.length_append, List.length_map, List.length_cons]; omega))) rfl (by first | exact own_mid List.mem_cons_self | (simp; done)) rfl rfl ?_
        rintro _ _ ⟨rfl, rfl⟩
        refine ⟨[], rfl, ?_⟩
        refine SX.val rfl (Val.nilCheck rfl) (by first | (simp [mids, It.mids, ownPc, mapPc]; done) | (intro k hk; simp [mids, It.mids, ownPc, mapPc] at hk ⊢; grind)) rfl rfl ?_
        refine SX.val rfl (Val.fieldAddr tabOk rfl rfl rfl rfl rfl) (by first | (simp [mids, It.mids, ownPc, mapPc]; done) | (intro k hk; simp [mids, It.mids, ownPc, mapPc] at hk ⊢; grind)) rfl rfl ?_
        refine SX.nil ?_
        refine SE.effZ rfl (Eff.store (L' := DS.cells q n id (⟨d.stamp, d.waits, d.req, (d.said ++ [(m.from_, (parseR m.body n).1.result)]), d.acc⟩)) tabOk rfl rfl rfl (by repeat first|assumption|exact Upd.here|apply Upd.there) rfl (Nat.le_of_ble_eq_true (by rfl)) rfl (by rfl)) rfl rfl ?_
        rintro _ _ ⟨rfl, rfl⟩
        refine SE.seq ?_
        refine SC.seq ?_
        refine SC.seq (SC.region ?_)
        refine SL.val (Val.move rfl) rfl rfl ?_
        refine SL.val (Val.move rfl) rfl rfl ?_
        refine SL.val (Val.nilCheck rfl) rfl rfl ?_
        refine SL.val (Val.fieldAddr tabOk rfl rfl rfl rfl rfl) rfl rfl ?_
        refine SL.val (Val.load1 tabOk rfl rfl (by first|(apply Or.inl;(repeat first|assumption|exact m0|apply m1);done)|(apply Or.inr;(repeat first|assumption|exact m0|apply m1);done)) List.not_mem_nil (by rfl)) rfl rfl ?_
        refine SL.call (rfaults_s (n := n) (by omega)) Casts.refl (by kernel_rfl) rfl rfl rfl ?_
        refine After.pure (by repeat (first | exact Reads.nil | (refine Reads.blk ?_ ?_; focus ((repeat first|assumption|exact m0|apply m1); done)) | (refine Reads.rd ?_ ?_; focus ((repeat first|assumption|exact m0|apply m1); done)) | (refine Reads.pc ?_ ?_; focus ((repeat first|assumption|exact m0|apply m1); done)) | (refine Reads.rdpc ?_ ?_; focus ((repeat first|assumption|exact m0|apply m1); done)))) (fun _ => rfl) ?_
        intro _
        refine SL.val (Val.gtI rfl rfl) rfl rfl ?_
        refine SL.nil (SE.seq ?_)
        refine SC.condP rfl ?_ ?_
        rotate_left
        · intro hc134
          refine SC.skip ?_
          refine SE.seq ?_
          refine SC.seq (SC.region ?_)
          refine SL.val (Val.assign rfl) rfl rfl ?_
          refine SL.nil (SE.seq ?_)
          refine SC.ret ?_
          have h0 : (readR T n id d.stamp d.waits m).2 = 0 := by rw [hR]
          have hv9 : ¬ (aget d.said m.from_).isSome = true := said_who fun j hj => hz.2 j hj (by omega)
          obtain ⟨hE, hS⟩ := drecv_new h0 hv9
          have hN9 : d.said.take z = d.said := List.take_of_length_le (by omega)
          have hDn : drecvD T n id d m = decide ((max n 1 - 1) / 3 < (((1 + cnt d.said (parseR m.body n).1.result : Nat)) : Int)) := by unfold drecvD; rw [hR]
          rw [hR] at hS
          first
            | rw [if_pos (by rw [hDn]; exact decide_eq_true (by rw [hN9] at hc134; omega))] at hS
            | rw [if_neg (by rw [hDn]; simp only [decide_eq_true_eq]; rw [hN9] at hc134; omega)] at hS
          refine SE.fin (rs := [.tmp 4]) rfl (RV.tmp rfl RV.nil) (()) (by rw [hS]; repeat (first | exact List.nil_sublist _ | exact List.Sublist.refl _ | apply List.Sublist.cons_cons | apply List.Sublist.cons)) (by simp [It.rids]) ?_
          rw [hE]
          rfl
        intro hc134
        refine SC.seq (SC.region ?_)
        refine SL.val (Val.move rfl) rfl rfl ?_
        refine SL.val (Val.nilCheck rfl) rfl rfl ?_
        refine SL.val (Val.fieldAddr tabOk rfl rfl rfl rfl rfl) rfl rfl ?_
        refine SL.eff (Eff.store (L' := DS.cells q n id (⟨d.stamp, false, d.req, (d.said ++ [(m.from_, (parseR m.body n).1.result)]), d.acc⟩)) tabOk rfl rfl rfl (by repeat first|assumption|exact Upd.here|apply Upd.there) rfl (Nat.le_of_ble_eq_true (by rfl)) rfl (by rfl)) rfl rfl ?_
        rintro _ _ ⟨rfl, rfl⟩
        refine SL.nil (SE.seq ?_)
        refine SC.drawZ [] (.q 0 (.q 2 (.q 3 (.q 4 (.q 5 (.q 7 (.q 8 (.q 9 (.q 10 (.q 11 (.q 12 (.q 13 (.q 14 (.q 15 (.two 1 16 (.two 6 16 (.e 16 (.e 17 (.q 18 (.q 19 .nil)))) (.e 6 (.e 17 (.q 18 (.q 19 .nil))))) (.e 1 (.e 6 (.e 17 (.q 18 (.q 19 .nil)))))))))))))))))))) (by kernel_rfl) (by kernel_rfl) ?_
        refine SX.val rfl (Val.move rfl) (by first | (simp [mids, It.mids, ownPc, mapPc]; done) | (intro k hk; simp [mids, It.mids, ownPc, mapPc] at hk ⊢; grind)) rfl rfl ?_
        refine SX.val rfl (Val.move rfl) (by first | (simp [mids, It.mids, ownPc, mapPc]; done) | (intro k hk; simp [mids, It.mids, ownPc, mapPc] at hk ⊢; grind)) rfl rfl ?_
        refine SX.val rfl (Val.nilCheck rfl) (by first | (simp [mids, It.mids, ownPc, mapPc]; done) | (intro k hk; simp [mids, It.mids, ownPc, mapPc] at hk ⊢; grind)) rfl rfl ?_
        refine SX.val rfl (Val.fieldAddr tabOk rfl rfl rfl rfl rfl) (by first | (simp [mids, It.mids, ownPc, mapPc]; done) | (intro k hk; simp [mids, It.mids, ownPc, mapPc] at hk ⊢; grind)) rfl rfl ?_
        refine SX.val rfl (Val.load1 tabOk rfl rfl (by first|(apply Or.inl;(repeat first|assumption|exact m0|apply m1);done)|(apply Or.inr;(repeat first|assumption|exact m0|apply m1);done)) List.not_mem_nil (by rfl)) (by first | (simp [mids, It.mids, ownPc, mapPc]; done) | (intro k hk; simp [mids, It.mids, ownPc, mapPc] at hk ⊢; grind)) rfl rfl ?_
        refine SX.val rfl (Val.move rfl) (by first | (simp [mids, It.mids, ownPc, mapPc]; done) | (intro k hk; simp [mids, It.mids, ownPc, mapPc] at hk ⊢; grind)) rfl rfl ?_
        refine SX.val rfl (Val.nilCheck rfl) (by first | (simp [mids, It.mids, ownPc, mapPc]; done) | (intro k hk; simp [mids, It.mids, ownPc, mapPc] at hk ⊢; grind)) rfl rfl ?_
        refine SX.val rfl (Val.fieldAddr tabOk rfl rfl rfl rfl rfl) (by first | (simp [mids, It.mids, ownPc, mapPc]; done) | (intro k hk; simp [mids, It.mids, ownPc, mapPc] at hk ⊢; grind)) rfl rfl ?_
        refine SX.val rfl (Val.load1 tabOk rfl rfl (by first|(apply Or.inl;(repeat first|assumption|exact m0|apply m1);done)|(apply Or.inr;(repeat first|assumption|exact m0|apply m1);done)) List.not_mem_nil (by rfl)) (by first | (simp [mids, It.mids, ownPc, mapPc]; done) | (intro k hk; simp [mids, It.mids, ownPc, mapPc] at hk ⊢; grind)) rfl rfl ?_
        refine SX.val rfl (Val.fieldAddr tabOk rfl rfl rfl rfl rfl) (by first | (simp [mids, It.mids, ownPc, mapPc]; done) | (intro k hk; simp [mids, It.mids, ownPc, mapPc] at hk ⊢; grind)) rfl rfl ?_
        refine SX.val rfl (Val.load1 tabOk rfl rfl (by first|(apply Or.inl;(repeat first|assumption|exact m0|apply m1);done)|(apply Or.inr;(repeat first|assumption|exact m0|apply m1);done)) List.not_mem_nil (by rfl)) (by first | (simp [mids, It.mids, ownPc, mapPc]; done) | (intro k hk; simp [mids, It.mids, ownPc, mapPc] at hk ⊢; grind)) rfl rfl ?_
        refine SX.val rfl (Val.fieldAddr tabOk rfl rfl rfl rfl rfl) (by first | (simp [mids, It.mids, ownPc, mapPc]; done) | (intro k hk; simp [mids, It.mids, ownPc, mapPc] at hk ⊢; grind)) rfl rfl ?_
        refine SX.val rfl (Val.load1 tabOk rfl rfl (by first|(apply Or.inl;(repeat first|assumption|exact m0|apply m1);done)|(apply Or.inr;(repeat first|assumption|exact m0|apply m1);done)) List.not_mem_nil (by rfl)) (by first | (simp [mids, It.mids, ownPc, mapPc]; done) | (intro k hk; simp [mids, It.mids, ownPc, mapPc] at hk ⊢; grind)) rfl rfl ?_
        refine SX.val rfl (Val.buildS (L := Oc.abs (Oc.mk id (parseR m.body n).1.stamp (parseR m.body n).1.result)) tabOk rfl rfl rfl rfl) (by first | (simp [mids, It.mids, ownPc, mapPc]; done) | (intro k hk; simp [mids, It.mids, ownPc, mapPc] at hk ⊢; grind)) rfl rfl ?_
        refine SX.two ?_ ?_
        · skip
          refine SX.effN [] [] rfl (Eff.buildOwn tabOk Try.underlying42 rfl rfl rfl rfl rfl rfl rfl) rfl (by first | exact own_mid List.mem_cons_self | (simp; done)) rfl rfl ?_
          rintro _ _ ⟨r139, rfl, rfl⟩
          refine ⟨[own 60 3 r139 []], rfl, ?_⟩
          refine SX.two ?_ ?_
          · skip
            refine SX.effN [own 60 3 r139 []] [] rfl (Eff.appendE (zs := d.acc.map Oc.abs) tabOk [] rfl Try.underlying42 rfl rfl rfl rfl rfl rfl (ocs_ones d.acc) (by unfold maxLen; simp only [List.length_nil, List.length_append, List.length_map, List.length_cons]; omega) (by rw [show Try.prog.bytesOf 60 = 24 by kernel_rfl]; simp only [List.length_nil, List.length_append, List.length_map, List.length_cons]; omega)) rfl (by first | exact own_mid List.mem_cons_self | (simp; done)) rfl rfl ?_
            rintro _ _ ⟨r144, rfl, rfl⟩
            refine ⟨[own 60 3 r144 (d.acc.map Oc.abs)], rfl, ?_⟩
            refine SX.eff rfl (Eff.buildSl tabOk Try.underlying42 rfl rfl rfl rfl rfl rfl rfl) (by simp) rfl rfl ?_
            rintro _ _ ⟨rfl, rfl⟩
            refine SX.effN [own 60 3 r144 (d.acc.map Oc.abs)] [] rfl (Eff.frozen [] (Eff.appendE (zs := (d.acc ++ [Oc.mk id (parseR m.body n).1.stamp (parseR m.body n).1.result]).map Oc.abs) tabOk [] (by rw [List.map_append]; rfl) Try.underlying42 rfl rfl rfl rfl rfl rfl (by intro c hc; rw [List.mem_singleton] at hc; subst hc; rfl) (by unfold maxLen; simp only [List.length_nil, List.length_append, List.length_map, List.length_cons]; omega) (by rw [show Try.prog.bytesOf 60 = 24 by kernel_rfl]; simp only [List.length_nil, List.length_append, List.length_map, List.length_cons]; omega))) rfl (by first | exact own_mid List.mem_cons_self | (simp; done)) rfl rfl ?_
            rintro _ _ ⟨rfl, rfl⟩
            refine ⟨[], rfl, ?_⟩
            refine SX.val rfl (Val.nilCheck rfl) (by first | (simp [mids, It.mids, ownPc, mapPc]; done) | (intro k hk; simp [mids, It.mids, ownPc, mapPc] at hk ⊢; grind)) rfl rfl ?_
            refine SX.val rfl (Val.fieldAddr tabOk rfl rfl rfl rfl rfl) (by first | (simp [mids, It.mids, ownPc, mapPc]; done) | (intro k hk; simp [mids, It.mids, ownPc, mapPc] at hk ⊢; grind)) rfl rfl ?_
            refine SX.nil ?_
            refine SE.effZ rfl (Eff.store (L' := DS.cells q n id (⟨d.stamp, false, d.req, (d.said ++ [(m.from_, (parseR m.body n).1.result)]), (d.acc ++ [Oc.mk id (parseR m.body n).1.stamp (parseR m.body n).1.result])⟩)) tabOk rfl rfl rfl (by repeat first|assumption|exact Upd.here|apply Upd.there) rfl (Nat.le_of_ble_eq_true (by rfl)) rfl (by rfl)) rfl rfl ?_
            rintro _ _ ⟨rfl, rfl⟩
            refine SE.seq ?_
            refine SC.seq (SC.region ?_)
            refine SL.val (Val.assign rfl) rfl rfl ?_
            refine SL.nil (SE.seq ?_)
            refine SC.ret ?_
            have h0 : (readR T n id d.stamp d.waits m).2 = 0 := by rw [hR]
            have hv9 : ¬ (aget d.said m.from_).isSome = true := said_who fun j hj => hz.2 j hj (by omega)
            obtain ⟨hE, hS⟩ := drecv_new h0 hv9
            have hN9 : d.said.take z = d.said := List.take_of_length_le (by omega)
            have hDn : drecvD T n id d m = decide ((max n 1 - 1) / 3 < (((1 + cnt d.said (parseR m.body n).1.result : Nat)) : Int)) := by unfold drecvD; rw [hR]
            rw [hR] at hS
            first
              | rw [if_pos (by rw [hDn]; exact decide_eq_true (by rw [hN9] at hc134; omega))] at hS
              | rw [if_neg (by rw [hDn]; simp only [decide_eq_true_eq]; rw [hN9] at hc134; omega)] at hS
            refine SE.fin (rs := [.tmp 4]) rfl (RV.tmp rfl RV.nil) (()) (by rw [hS]; repeat (first | exact List.nil_sublist _ | exact List.Sublist.refl _ | apply List.Sublist.cons_cons | apply List.Sublist.cons)) (by simp [It.rids]) ?_
            rw [hE]
            rfl
          · skip
            refine SX.eff rfl (Eff.buildSl tabOk Try.underlying42 rfl rfl rfl rfl rfl rfl rfl) (by simp) rfl rfl ?_
            rintro _ _ ⟨rfl, rfl⟩
            refine SX.effN [own 60 3 r139 []] [] rfl (Eff.appendE (zs := d.acc.map Oc.abs) tabOk [] rfl Try.underlying42 rfl rfl rfl rfl rfl rfl (ocs_ones d.acc) (by unfold maxLen; simp only [List.length_nil, List.length_append, List.length_map, List.length_cons]; omega) (by rw [show Try.prog.bytesOf 60 = 24 by kernel_rfl]; simp only [List.length_nil, List.length_append, List.length_map, List.length_cons]; omega)) rfl (by first | exact own_mid List.mem_cons_self | (simp; done)) rfl rfl ?_
            rintro _ _ ⟨r144, rfl, rfl⟩
            refine ⟨[own 60 3 r144 (d.acc.map Oc.abs)], rfl, ?_⟩
            refine SX.effN [own 60 3 r144 (d.acc.map Oc.abs)] [] rfl (Eff.frozen [] (Eff.appendE (zs := (d.acc ++ [Oc.mk id (parseR m.body n).1.stamp (parseR m.body n).1.result]).map Oc.abs) tabOk [] (by rw [List.map_append]; rfl) Try.underlying42 rfl rfl rfl rfl rfl rfl (by intro c hc; rw [List.mem_singleton] at hc; subst hc; rfl) (by unfold maxLen; simp only [List.length_nil, List.length_append, List.length_map, List.length_cons]; omega) (by rw [show Try.prog.bytesOf 60 = 24 by kernel_rfl]; simp only [List.length_nil, List.length_append, List.length_map, List.length_cons]; omega))) rfl (by first | exact own_mid List.mem_cons_self | (simp; done)) rfl rfl ?_
            rintro _ _ ⟨rfl, rfl⟩
            refine ⟨[], rfl, ?_⟩
            refine SX.val rfl (Val.nilCheck rfl) (by first | (simp [mids, It.mids, ownPc, mapPc]; done) | (intro k hk; simp [mids, It.mids, ownPc, mapPc] at hk ⊢; grind)) rfl rfl ?_
            refine SX.val rfl (Val.fieldAddr tabOk rfl rfl rfl rfl rfl) (by first | (simp [mids, It.mids, ownPc, mapPc]; done) | (intro k hk; simp [mids, It.mids, ownPc, mapPc] at hk ⊢; grind)) rfl rfl ?_
            refine SX.nil ?_
            refine SE.effZ rfl (Eff.store (L' := DS.cells q n id (⟨d.stamp, false, d.req, (d.said ++ [(m.from_, (parseR m.body n).1.result)]), (d.acc ++ [Oc.mk id (parseR m.body n).1.stamp (parseR m.body n).1.result])⟩)) tabOk rfl rfl rfl (by repeat first|assumption|exact Upd.here|apply Upd.there) rfl (Nat.le_of_ble_eq_true (by rfl)) rfl (by rfl)) rfl rfl ?_
            rintro _ _ ⟨rfl, rfl⟩
            refine SE.seq ?_
            refine SC.seq (SC.region ?_)
            refine SL.val (Val.assign rfl) rfl rfl ?_
            refine SL.nil (SE.seq ?_)
            refine SC.ret ?_
            have h0 : (readR T n id d.stamp d.waits m).2 = 0 := by rw [hR]
            have hv9 : ¬ (aget d.said m.from_).isSome = true := said_who fun j hj => hz.2 j hj (by omega)
            obtain ⟨hE, hS⟩ := drecv_new h0 hv9
            have hN9 : d.said.take z = d.said := List.take_of_length_le (by omega)
            have hDn : drecvD T n id d m = decide ((max n 1 - 1) / 3 < (((1 + cnt d.said (parseR m.body n).1.result : Nat)) : Int)) := by unfold drecvD; rw [hR]
            rw [hR] at hS
            first
              | rw [if_pos (by rw [hDn]; exact decide_eq_true (by rw [hN9] at hc134; omega))] at hS
              | rw [if_neg (by rw [hDn]; simp only [decide_eq_true_eq]; rw [hN9] at hc134; omega)] at hS
            refine SE.fin (rs := [.tmp 4]) rfl (RV.tmp rfl RV.nil) (()) (by rw [hS]; repeat (first | exact List.nil_sublist _ | exact List.Sublist.refl _ | apply List.Sublist.cons_cons | apply List.Sublist.cons)) (by simp [It.rids]) ?_
            rw [hE]
            rfl
        · skip
          refine SX.eff rfl (Eff.buildSl tabOk Try.underlying42 rfl rfl rfl rfl rfl rfl rfl) (by simp) rfl rfl ?_
          rintro _ _ ⟨rfl, rfl⟩
          refine SX.effN [] [] rfl (Eff.buildOwn tabOk Try.underlying42 rfl rfl rfl rfl rfl rfl rfl) rfl (by first | exact own_mid List.mem_cons_self | (simp; done)) rfl rfl ?_
          rintro _ _ ⟨r139, rfl, rfl⟩
          refine ⟨[own 60 3 r139 []], rfl, ?_⟩
          refine SX.effN [own 60 3 r139 []] [] rfl (Eff.appendE (zs := d.acc.map Oc.abs) tabOk [] rfl Try.underlying42 rfl rfl rfl rfl rfl rfl (ocs_ones d.acc) (by unfold maxLen; simp only [List.length_nil, List.length_append, List.length_map, List.length_cons]; omega) (by rw [show Try.prog.bytesOf 60 = 24 by kernel_rfl]; simp only [List.length_nil, List.length_append, List.length_map, List.length_cons]; omega)) rfl (by first | exact own_mid List.mem_cons_self | (simp; done)) rfl rfl ?_
          rintro _ _ ⟨r144, rfl, rfl⟩
          refine ⟨[own 60 3 r144 (d.acc.map Oc.abs)], rfl, ?_⟩
          refine SX.effN [own 60 3 r144 (d.acc.map Oc.abs)] [] rfl (Eff.frozen [] (Eff.appendE (zs := (d.acc ++ [Oc.mk id (parseR m.body n).1.stamp (parseR m.body n).1.result]).map Oc.abs) tabOk [] (by rw [List.map_append]; rfl) Try.underlying42 rfl rfl rfl rfl rfl rfl (by intro c hc; rw [List.mem_singleton] at hc; subst hc; rfl) (by unfold maxLen; simp only [List.length_nil, List.length_append, List.length_map, List.length_cons]; omega) (by rw [show Try.prog.bytesOf 60 = 24 by kernel_rfl]; simp only [List.length_nil, List.length_append, List.length_map, List.length_cons]; omega))) rfl (by first | exact own_mid List.mem_cons_self | (simp; done)) rfl rfl ?_
          rintro _ _ ⟨rfl, rfl⟩
          refine ⟨[], rfl, ?_⟩
          refine SX.val rfl (Val.nilCheck rfl) (by first | (simp [mids, It.mids, ownPc, mapPc]; done) | (intro k hk; simp [mids, It.mids, ownPc, mapPc] at hk ⊢; grind)) rfl rfl ?_
          refine SX.val rfl (Val.fieldAddr tabOk rfl rfl rfl rfl rfl) (by first | (simp [mids, It.mids, ownPc, mapPc]; done) | (intro k hk; simp [mids, It.mids, ownPc, mapPc] at hk ⊢; grind)) rfl rfl ?_
          refine SX.nil ?_
          refine SE.effZ rfl (Eff.store (L' := DS.cells q n id (⟨d.stamp, false, d.req, (d.said ++ [(m.from_, (parseR m.body n).1.result)]), (d.acc ++ [Oc.mk id (parseR m.body n).1.stamp (parseR m.body n).1.result])⟩)) tabOk rfl rfl rfl (by repeat first|assumption|exact Upd.here|apply Upd.there) rfl (Nat.le_of_ble_eq_true (by rfl)) rfl (by rfl)) rfl rfl ?_
          rintro _ _ ⟨rfl, rfl⟩
          refine SE.seq ?_
          refine SC.seq (SC.region ?_)
          refine SL.val (Val.assign rfl) rfl rfl ?_
          refine SL.nil (SE.seq ?_)
          refine SC.ret ?_
          have h0 : (readR T n id d.stamp d.waits m).2 = 0 := by rw [hR]
          have hv9 : ¬ (aget d.said m.from_).isSome = true := said_who fun j hj => hz.2 j hj (by omega)
          obtain ⟨hE, hS⟩ := drecv_new h0 hv9
          have hN9 : d.said.take z = d.said := List.take_of_length_le (by omega)
          have hDn : drecvD T n id d m = decide ((max n 1 - 1) / 3 < (((1 + cnt d.said (parseR m.body n).1.result : Nat)) : Int)) := by unfold drecvD; rw [hR]
          rw [hR] at hS
          first
            | rw [if_pos (by rw [hDn]; exact decide_eq_true (by rw [hN9] at hc134; omega))] at hS
            | rw [if_neg (by rw [hDn]; simp only [decide_eq_true_eq]; rw [hN9] at hc134; omega)] at hS
          refine SE.fin (rs := [.tmp 4]) rfl (RV.tmp rfl RV.nil) (()) (by rw [hS]; repeat (first | exact List.nil_sublist _ | exact List.Sublist.refl _ | apply List.Sublist.cons_cons | apply List.Sublist.cons)) (by simp [It.rids]) ?_
          rw [hE]
          rfl
      · skip
        refine SX.eff rfl (Eff.buildSl tabOk Try.underlying49 rfl rfl rfl rfl rfl rfl rfl) (by simp) rfl rfl ?_
        rintro _ _ ⟨rfl, rfl⟩
        refine SX.effN [own 100 2 r113 []] [] rfl (Eff.appendE (zs := saidL d.said) tabOk [] rfl Try.underlying49 rfl rfl rfl rfl rfl rfl (said_ones d.said) (by unfold maxLen; simp only [List.length_nil, List.length_append, List.length_map, List.length_cons]; omega) (by rw [show Try.prog.bytesOf 100 = 16 by kernel_rfl]; simp only [List.length_nil, List.length_append, List.length_map, List.length_cons]; omega)) rfl (by first | exact own_mid List.mem_cons_self | (simp; done)) rfl rfl ?_
        rintro _ _ ⟨r118, rfl, rfl⟩
        refine ⟨[own 100 2 r118 (saidL d.said)], rfl, ?_⟩
        refine SX.effN [own 100 2 r118 (saidL d.said)] [] rfl (Eff.frozen [] (Eff.appendE (zs := saidL (d.said ++ [(m.from_, (parseR m.body n).1.result)])) tabOk [] (by unfold saidL; rw [List.map_append]; rfl) Try.underlying49 rfl rfl rfl rfl rfl rfl (by intro c hc; rw [List.mem_singleton] at hc; subst hc; rfl) (by unfold maxLen; simp only [List.length_nil, List.length_append, List.length_map, List.length_cons]; omega) (by rw [show Try.prog.bytesOf 100 = 16 by kernel_rfl]; simp only [List.length_nil, List.length_append, List.length_map, List.length_cons]; omega))) rfl (by first | exact own_mid List.mem_cons_self | (simp; done)) rfl rfl ?_
        rintro _ _ ⟨rfl, rfl⟩
        refine ⟨[], rfl, ?_⟩
        refine SX.val rfl (Val.nilCheck rfl) (by first | (simp [mids, It.mids, ownPc, mapPc]; done) | (intro k hk; simp [mids, It.mids, ownPc, mapPc] at hk ⊢; grind)) rfl rfl ?_
        refine SX.val rfl (Val.fieldAddr tabOk rfl rfl rfl rfl rfl) (by first | (simp [mids, It.mids, ownPc, mapPc]; done) | (intro k hk; simp [mids, It.mids, ownPc, mapPc] at hk ⊢; grind)) rfl rfl ?_
        refine SX.nil ?_
        refine SE.effZ rfl (Eff.store (L' := DS.cells q n id (⟨d.stamp, d.waits, d.req, (d.said ++ [(m.from_, (parseR m.body n).1.result)]), d.acc⟩)) tabOk rfl rfl rfl (by repeat first|assumption|exact Upd.here|apply Upd.there) rfl (Nat.le_of_ble_eq_true (by rfl)) rfl (by rfl)) rfl rfl ?_
        rintro _ _ ⟨rfl, rfl⟩
        refine SE.seq ?_
        refine SC.seq ?_
        refine SC.seq (SC.region ?_)
        refine SL.val (Val.move rfl) rfl rfl ?_
        refine SL.val (Val.move rfl) rfl rfl ?_
        refine SL.val (Val.nilCheck rfl) rfl rfl ?_
        refine SL.val (Val.fieldAddr tabOk rfl rfl rfl rfl rfl) rfl rfl ?_
        refine SL.val (Val.load1 tabOk rfl rfl (by first|(apply Or.inl;(repeat first|assumption|exact m0|apply m1);done)|(apply Or.inr;(repeat first|assumption|exact m0|apply m1);done)) List.not_mem_nil (by rfl)) rfl rfl ?_
        refine SL.call (rfaults_s (n := n) (by omega)) Casts.refl (by kernel_rfl) rfl rfl rfl ?_
        refine After.pure (by repeat (first | exact Reads.nil | (refine Reads.blk ?_ ?_; focus ((repeat first|assumption|exact m0|apply m1); done)) | (refine Reads.rd ?_ ?_; focus ((repeat first|assumption|exact m0|apply m1); done)) | (refine Reads.pc ?_ ?_; focus ((repeat first|assumption|exact m0|apply m1); done)) | (refine Reads.rdpc ?_ ?_; focus ((repeat first|assumption|exact m0|apply m1); done)))) (fun _ => rfl) ?_
        intro _
        refine SL.val (Val.gtI rfl rfl) rfl rfl ?_
        refine SL.nil (SE.seq ?_)
        refine SC.condP rfl ?_ ?_
        rotate_left
        · intro hc134
          refine SC.skip ?_
          refine SE.seq ?_
          refine SC.seq (SC.region ?_)
          refine SL.val (Val.assign rfl) rfl rfl ?_
          refine SL.nil (SE.seq ?_)
          refine SC.ret ?_
          have h0 : (readR T n id d.stamp d.waits m).2 = 0 := by rw [hR]
          have hv9 : ¬ (aget d.said m.from_).isSome = true := said_who fun j hj => hz.2 j hj (by omega)
          obtain ⟨hE, hS⟩ := drecv_new h0 hv9
          have hN9 : d.said.take z = d.said := List.take_of_length_le (by omega)
          have hDn : drecvD T n id d m = decide ((max n 1 - 1) / 3 < (((1 + cnt d.said (parseR m.body n).1.result : Nat)) : Int)) := by unfold drecvD; rw [hR]
          rw [hR] at hS
          first
            | rw [if_pos (by rw [hDn]; exact decide_eq_true (by rw [hN9] at hc134; omega))] at hS
            | rw [if_neg (by rw [hDn]; simp only [decide_eq_true_eq]; rw [hN9] at hc134; omega)] at hS
          refine SE.fin (rs := [.tmp 4]) rfl (RV.tmp rfl RV.nil) (()) (by rw [hS]; repeat (first | exact List.nil_sublist _ | exact List.Sublist.refl _ | apply List.Sublist.cons_cons | apply List.Sublist.cons)) (by simp [It.rids]) ?_
          rw [hE]
          rfl
        intro hc134
        refine SC.seq (SC.region ?_)
        refine SL.val (Val.move rfl) rfl rfl ?_
        refine SL.val (Val.nilCheck rfl) rfl rfl ?_
        refine SL.val (Val.fieldAddr tabOk rfl rfl rfl rfl rfl) rfl rfl ?_
        refine SL.eff (Eff.store (L' := DS.cells q n id (⟨d.stamp, false, d.req, (d.said ++ [(m.from_, (parseR m.body n).1.result)]), d.acc⟩)) tabOk rfl rfl rfl (by repeat first|assumption|exact Upd.here|apply Upd.there) rfl (Nat.le_of_ble_eq_true (by rfl)) rfl (by rfl)) rfl rfl ?_
        rintro _ _ ⟨rfl, rfl⟩
        refine SL.nil (SE.seq ?_)
        refine SC.drawZ [] (.q 0 (.q 2 (.q 3 (.q 4 (.q 5 (.q 7 (.q 8 (.q 9 (.q 10 (.q 11 (.q 12 (.q 13 (.q 14 (.q 15 (.two 1 16 (.two 6 16 (.e 16 (.e 17 (.q 18 (.q 19 .nil)))) (.e 6 (.e 17 (.q 18 (.q 19 .nil))))) (.e 1 (.e 6 (.e 17 (.q 18 (.q 19 .nil)))))))))))))))))))) (by kernel_rfl) (by kernel_rfl) ?_
        refine SX.val rfl (Val.move rfl) (by first | (simp [mids, It.mids, ownPc, mapPc]; done) | (intro k hk; simp [mids, It.mids, ownPc, mapPc] at hk ⊢; grind)) rfl rfl ?_
        refine SX.val rfl (Val.move rfl) (by first | (simp [mids, It.mids, ownPc, mapPc]; done) | (intro k hk; simp [mids, It.mids, ownPc, mapPc] at hk ⊢; grind)) rfl rfl ?_
        refine SX.val rfl (Val.nilCheck rfl) (by first | (simp [mids, It.mids, ownPc, mapPc]; done) | (intro k hk; simp [mids, It.mids, ownPc, mapPc] at hk ⊢; grind)) rfl rfl ?_
        refine SX.val rfl (Val.fieldAddr tabOk rfl rfl rfl rfl rfl) (by first | (simp [mids, It.mids, ownPc, mapPc]; done) | (intro k hk; simp [mids, It.mids, ownPc, mapPc] at hk ⊢; grind)) rfl rfl ?_
        refine SX.val rfl (Val.load1 tabOk rfl rfl (by first|(apply Or.inl;(repeat first|assumption|exact m0|apply m1);done)|(apply Or.inr;(repeat first|assumption|exact m0|apply m1);done)) List.not_mem_nil (by rfl)) (by first | (simp [mids, It.mids, ownPc, mapPc]; done) | (intro k hk; simp [mids, It.mids, ownPc, mapPc] at hk ⊢; grind)) rfl rfl ?_
        refine SX.val rfl (Val.move rfl) (by first | (simp [mids, It.mids, ownPc, mapPc]; done) | (intro k hk; simp [mids, It.mids, ownPc, mapPc] at hk ⊢; grind)) rfl rfl ?_
        refine SX.val rfl (Val.nilCheck rfl) (by first | (simp [mids, It.mids, ownPc, mapPc]; done) | (intro k hk; simp [mids, It.mids, ownPc, mapPc] at hk ⊢; grind)) rfl rfl ?_
        refine SX.val rfl (Val.fieldAddr tabOk rfl rfl rfl rfl rfl) (by first | (simp [mids, It.mids, ownPc, mapPc]; done) | (intro k hk; simp [mids, It.mids, ownPc, mapPc] at hk ⊢; grind)) rfl rfl ?_
        refine SX.val rfl (Val.load1 tabOk rfl rfl (by first|(apply Or.inl;(repeat first|assumption|exact m0|apply m1);done)|(apply Or.inr;(repeat first|assumption|exact m0|apply m1);done)) List.not_mem_nil (by rfl)) (by first | (simp [mids, It.mids, ownPc, mapPc]; done) | (intro k hk; simp [mids, It.mids, ownPc, mapPc] at hk ⊢; grind)) rfl rfl ?_
        refine SX.val rfl (Val.fieldAddr tabOk rfl rfl rfl rfl rfl) (by first | (simp [mids, It.mids, ownPc, mapPc]; done) | (intro k hk; simp [mids, It.mids, ownPc, mapPc] at hk ⊢; grind)) rfl rfl ?_
        refine SX.val rfl (Val.load1 tabOk rfl rfl (by first|(apply Or.inl;(repeat first|assumption|exact m0|apply m1);done)|(apply Or.inr;(repeat first|assumption|exact m0|apply m1);done)) List.not_mem_nil (by rfl)) (by first | (simp [mids, It.mids, ownPc, mapPc]; done) | (intro k hk; simp [mids, It.mids, ownPc, mapPc] at hk ⊢; grind)) rfl rfl ?_
        refine SX.val rfl (Val.fieldAddr tabOk rfl rfl rfl rfl rfl) (by first | (simp [mids, It.mids, ownPc, mapPc]; done) | (intro k hk; simp [mids, It.mids, ownPc, mapPc] at hk ⊢; grind)) rfl rfl ?_
        refine SX.val rfl (Val.load1 tabOk rfl rfl (by first|(apply Or.inl;(repeat first|assumption|exact m0|apply m1);done)|(apply Or.inr;(repeat first|assumption|exact m0|apply m1);done)) List.not_mem_nil (by rfl)) (by first | (simp [mids, It.mids, ownPc, mapPc]; done) | (intro k hk; simp [mids, It.mids, ownPc, mapPc] at hk ⊢; grind)) rfl rfl ?_
        refine SX.val rfl (Val.buildS (L := Oc.abs (Oc.mk id (parseR m.body n).1.stamp (parseR m.body n).1.result)) tabOk rfl rfl rfl rfl) (by first | (simp [mids, It.mids, ownPc, mapPc]; done) | (intro k hk; simp [mids, It.mids, ownPc, mapPc] at hk ⊢; grind)) rfl rfl ?_
        refine SX.two ?_ ?_
        · skip
          refine SX.effN [] [] rfl (Eff.buildOwn tabOk Try.underlying42 rfl rfl rfl rfl rfl rfl rfl) rfl (by first | exact own_mid List.mem_cons_self | (simp; done)) rfl rfl ?_
          rintro _ _ ⟨r139, rfl, rfl⟩
          refine ⟨[own 60 3 r139 []], rfl, ?_⟩
          refine SX.two ?_ ?_
          · skip
            refine SX.effN [own 60 3 r139 []] [] rfl (Eff.appendE (zs := d.acc.map Oc.abs) tabOk [] rfl Try.underlying42 rfl rfl rfl rfl rfl rfl (ocs_ones d.acc) (by unfold maxLen; simp only [List.length_nil, List.length_append, List.length_map, List.length_cons]; omega) (by rw [show Try.prog.bytesOf 60 = 24 by kernel_rfl]; simp only [List.length_nil, List.length_append, List.length_map, List.length_cons]; omega)) rfl (by first | exact own_mid List.mem_cons_self | (simp; done)) rfl rfl ?_
            rintro _ _ ⟨r144, rfl, rfl⟩
            refine ⟨[own 60 3 r144 (d.acc.map Oc.abs)], rfl, ?_⟩
            refine SX.eff rfl (Eff.buildSl tabOk Try.underlying42 rfl rfl rfl rfl rfl rfl rfl) (by simp) rfl rfl ?_
            rintro _ _ ⟨rfl, rfl⟩
            refine SX.effN [own 60 3 r144 (d.acc.map Oc.abs)] [] rfl (Eff.frozen [] (Eff.appendE (zs := (d.acc ++ [Oc.mk id (parseR m.body n).1.stamp (parseR m.body n).1.result]).map Oc.abs) tabOk [] (by rw [List.map_append]; rfl) Try.underlying42 rfl rfl rfl rfl rfl rfl (by intro c hc; rw [List.mem_singleton] at hc; subst hc; rfl) (by unfold maxLen; simp only [List.length_nil, List.length_append, List.length_map, List.length_cons]; omega) (by rw [show Try.prog.bytesOf 60 = 24 by kernel_rfl]; simp only [List.length_nil, List.length_append, List.length_map, List.length_cons]; omega))) rfl (by first | exact own_mid List.mem_cons_self | (simp; done)) rfl rfl ?_
            rintro _ _ ⟨rfl, rfl⟩
            refine ⟨[], rfl, ?_⟩
            refine SX.val rfl (Val.nilCheck rfl) (by first | (simp [mids, It.mids, ownPc, mapPc]; done) | (intro k hk; simp [mids, It.mids, ownPc, mapPc] at hk ⊢; grind)) rfl rfl ?_
            refine SX.val rfl (Val.fieldAddr tabOk rfl rfl rfl rfl rfl) (by first | (simp [mids, It.mids, ownPc, mapPc]; done) | (intro k hk; simp [mids, It.mids, ownPc, mapPc] at hk ⊢; grind)) rfl rfl ?_
            refine SX.nil ?_
            refine SE.effZ rfl (Eff.store (L' := DS.cells q n id (⟨d.stamp, false, d.req, (d.said ++ [(m.from_, (parseR m.body n).1.result)]), (d.acc ++ [Oc.mk id (parseR m.body n).1.stamp (parseR m.body n).1.result])⟩)) tabOk rfl rfl rfl (by repeat first|assumption|exact Upd.here|apply Upd.there) rfl (Nat.le_of_ble_eq_true (by rfl)) rfl (by rfl)) rfl rfl ?_
            rintro _ _ ⟨rfl, rfl⟩
            refine SE.seq ?_
            refine SC.seq (SC.region ?_)
            refine SL.val (Val.assign rfl) rfl rfl ?_
            refine SL.nil (SE.seq ?_)
            refine SC.ret ?_
            have h0 : (readR T n id d.stamp d.waits m).2 = 0 := by rw [hR]
            have hv9 : ¬ (aget d.said m.from_).isSome = true := said_who fun j hj => hz.2 j hj (by omega)
            obtain ⟨hE, hS⟩ := drecv_new h0 hv9
            have hN9 : d.said.take z = d.said := List.take_of_length_le (by omega)
            have hDn : drecvD T n id d m = decide ((max n 1 - 1) / 3 < (((1 + cnt d.said (parseR m.body n).1.result : Nat)) : Int)) := by unfold drecvD; rw [hR]
            rw [hR] at hS
            first
              | rw [if_pos (by rw [hDn]; exact decide_eq_true (by rw [hN9] at hc134; omega))] at hS
              | rw [if_neg (by rw [hDn]; simp only [decide_eq_true_eq]; rw [hN9] at hc134; omega)] at hS
            refine SE.fin (rs := [.tmp 4]) rfl (RV.tmp rfl RV.nil) (()) (by rw [hS]; repeat (first | exact List.nil_sublist _ | exact List.Sublist.refl _ | apply List.Sublist.cons_cons | apply List.Sublist.cons)) (by simp [It.rids]) ?_
            rw [hE]
            rfl
          · skip
            refine SX.eff rfl (Eff.buildSl tabOk Try.underlying42 rfl rfl rfl rfl rfl rfl rfl) (by simp) rfl rfl ?_
            rintro _ _ ⟨rfl, rfl⟩
            refine SX.effN [own 60 3 r139 []] [] rfl (Eff.appendE (zs := d.acc.map Oc.abs) tabOk [] rfl Try.underlying42 rfl rfl rfl rfl rfl rfl (ocs_ones d.acc) (by unfold maxLen; simp only [List.length_nil, List.length_append, List.length_map, List.length_cons]; omega) (by rw [show Try.prog.bytesOf 60 = 24 by kernel_rfl]; simp only [List.length_nil, List.length_append, List.length_map, List.length_cons]; omega)) rfl (by first | exact own_mid List.mem_cons_self | (simp; done)) rfl rfl ?_
            rintro _ _ ⟨r144, rfl, rfl⟩
            refine ⟨[own 60 3 r144 (d.acc.map Oc.abs)], rfl, ?_⟩
            refine SX.effN [own 60 3 r144 (d.acc.map Oc.abs)] [] rfl (Eff.frozen [] (Eff.appendE (zs := (d.acc ++ [Oc.mk id (parseR m.body n).1.stamp (parseR m.body n).1.result]).map Oc.abs) tabOk [] (by rw [List.map_append]; rfl) Try.underlying42 rfl rfl rfl rfl rfl rfl (by intro c hc; rw [List.mem_singleton] at hc; subst hc; rfl) (by unfold maxLen; simp only [List.length_nil, List.length_append, List.length_map, List.length_cons]; omega) (by rw [show Try.prog.bytesOf 60 = 24 by kernel_rfl]; simp only [List.length_nil, List.length_append, List.length_map, List.length_cons]; omega))) rfl (by first | exact own_mid List.mem_cons_self | (simp; done)) rfl rfl ?_
            rintro _ _ ⟨rfl, rfl⟩
            refine ⟨[], rfl, ?_⟩
            refine SX.val rfl (Val.nilCheck rfl) (by first | (simp [mids, It.mids, ownPc, mapPc]; done) | (intro k hk; simp [mids, It.mids, ownPc, mapPc] at hk ⊢; grind)) rfl rfl ?_
            refine SX.val rfl (Val.fieldAddr tabOk rfl rfl rfl rfl rfl) (by first | (simp [mids, It.mids, ownPc, mapPc]; done) | (intro k hk; simp [mids, It.mids, ownPc, mapPc] at hk ⊢; grind)) rfl rfl ?_
            refine SX.nil ?_
            refine SE.effZ rfl (Eff.store (L' := DS.cells q n id (⟨d.stamp, false, d.req, (d.said ++ [(m.from_, (parseR m.body n).1.result)]), (d.acc ++ [Oc.mk id (parseR m.body n).1.stamp (parseR m.body n).1.result])⟩)) tabOk rfl rfl rfl (by repeat first|assumption|exact Upd.here|apply Upd.there) rfl (Nat.le_of_ble_eq_true (by rfl)) rfl (by rfl)) rfl rfl ?_
            rintro _ _ ⟨rfl, rfl⟩
            refine SE.seq ?_
            refine SC.seq (SC.region ?_)
            refine SL.val (Val.assign rfl) rfl rfl ?_
            refine SL.nil (SE.seq ?_)
            refine SC.ret ?_
            have h0 : (readR T n id d.stamp d.waits m).2 = 0 := by rw [hR]
            have hv9 : ¬ (aget d.said m.from_).isSome = true := said_who fun j hj => hz.2 j hj (by omega)
            obtain ⟨hE, hS⟩ := drecv_new h0 hv9
            have hN9 : d.said.take z = d.said := List.take_of_length_le (by omega)
            have hDn : drecvD T n id d m = decide ((max n 1 - 1) / 3 < (((1 + cnt d.said (parseR m.body n).1.result : Nat)) : Int)) := by unfold drecvD; rw [hR]
            rw [hR] at hS
            first
              | rw [if_pos (by rw [hDn]; exact decide_eq_true (by rw [hN9] at hc134; omega))] at hS
              | rw [if_neg (by rw [hDn]; simp only [decide_eq_true_eq]; rw [hN9] at hc134; omega)] at hS
            refine SE.fin (rs := [.tmp 4]) rfl (RV.tmp rfl RV.nil) (()) (by rw [hS]; repeat (first | exact List.nil_sublist _ | exact List.Sublist.refl _ | apply List.Sublist.cons_cons | apply List.Sublist.cons)) (by simp [It.rids]) ?_
            rw [hE]
            rfl
        · skip
          refine SX.eff rfl (Eff.buildSl tabOk Try.underlying42 rfl rfl rfl rfl rfl rfl rfl) (by simp) rfl rfl ?_
          rintro _ _ ⟨rfl, rfl⟩
          refine SX.effN [] [] rfl (Eff.buildOwn tabOk Try.underlying42 rfl rfl rfl rfl rfl rfl rfl) rfl (by first | exact own_mid List.mem_cons_self | (simp; done)) rfl rfl ?_
          rintro _ _ ⟨r139, rfl, rfl⟩
          refine ⟨[own 60 3 r139 []], rfl, ?_⟩
          refine SX.effN [own 60 3 r139 []] [] rfl (Eff.appendE (zs := d.acc.map Oc.abs) tabOk [] rfl Try.underlying42 rfl rfl rfl rfl rfl rfl (ocs_ones d.acc) (by unfold maxLen; simp only [List.length_nil, List.length_append, List.length_map, List.length_cons]; omega) (by rw [show Try.prog.bytesOf 60 = 24 by kernel_rfl]; simp only [List.length_nil, List.length_append, List.length_map, List.length_cons]; omega)) rfl (by first | exact own_mid List.mem_cons_self | (simp; done)) rfl rfl ?_
          rintro _ _ ⟨r144, rfl, rfl⟩
          refine ⟨[own 60 3 r144 (d.acc.map Oc.abs)], rfl, ?_⟩
          refine SX.effN [own 60 3 r144 (d.acc.map Oc.abs)] [] rfl (Eff.frozen [] (Eff.appendE (zs := (d.acc ++ [Oc.mk id (parseR m.body n).1.stamp (parseR m.body n).1.result]).map Oc.abs) tabOk [] (by rw [List.map_append]; rfl) Try.underlying42 rfl rfl rfl rfl rfl rfl (by intro c hc; rw [List.mem_singleton] at hc; subst hc; rfl) (by unfold maxLen; simp only [List.length_nil, List.length_append, List.length_map, List.length_cons]; omega) (by rw [show Try.prog.bytesOf 60 = 24 by kernel_rfl]; simp only [List.length_nil, List.length_append, List.length_map, List.length_cons]; omega))) rfl (by first | exact own_mid List.mem_cons_self | (simp; done)) rfl rfl ?_
          rintro _ _ ⟨rfl, rfl⟩
          refine ⟨[], rfl, ?_⟩
          refine SX.val rfl (Val.nilCheck rfl) (by first | (simp [mids, It.mids, ownPc, mapPc]; done) | (intro k hk; simp [mids, It.mids, ownPc, mapPc] at hk ⊢; grind)) rfl rfl ?_
          refine SX.val rfl (Val.fieldAddr tabOk rfl rfl rfl rfl rfl) (by first | (simp [mids, It.mids, ownPc, mapPc]; done) | (intro k hk; simp [mids, It.mids, ownPc, mapPc] at hk ⊢; grind)) rfl rfl ?_
          refine SX.nil ?_
          refine SE.effZ rfl (Eff.store (L' := DS.cells q n id (⟨d.stamp, false, d.req, (d.said ++ [(m.from_, (parseR m.body n).1.result)]), (d.acc ++ [Oc.mk id (parseR m.body n).1.stamp (parseR m.body n).1.result])⟩)) tabOk rfl rfl rfl (by repeat first|assumption|exact Upd.here|apply Upd.there) rfl (Nat.le_of_ble_eq_true (by rfl)) rfl (by rfl)) rfl rfl ?_
          rintro _ _ ⟨rfl, rfl⟩
          refine SE.seq ?_
          refine SC.seq (SC.region ?_)
          refine SL.val (Val.assign rfl) rfl rfl ?_
          refine SL.nil (SE.seq ?_)
          refine SC.ret ?_
          have h0 : (readR T n id d.stamp d.waits m).2 = 0 := by rw [hR]
          have hv9 : ¬ (aget d.said m.from_).isSome = true := said_who fun j hj => hz.2 j hj (by omega)
          obtain ⟨hE, hS⟩ := drecv_new h0 hv9
          have hN9 : d.said.take z = d.said := List.take_of_length_le (by omega)
          have hDn : drecvD T n id d m = decide ((max n 1 - 1) / 3 < (((1 + cnt d.said (parseR m.body n).1.result : Nat)) : Int)) := by unfold drecvD; rw [hR]
          rw [hR] at hS
          first
            | rw [if_pos (by rw [hDn]; exact decide_eq_true (by rw [hN9] at hc134; omega))] at hS
            | rw [if_neg (by rw [hDn]; simp only [decide_eq_true_eq]; rw [hN9] at hc134; omega)] at hS
          refine SE.fin (rs := [.tmp 4]) rfl (RV.tmp rfl RV.nil) (()) (by rw [hS]; repeat (first | exact List.nil_sublist _ | exact List.Sublist.refl _ | apply List.Sublist.cons_cons | apply List.Sublist.cons)) (by simp [It.rids]) ?_
          rw [hE]
          rfl
    · skip
      refine SX.eff rfl (Eff.buildSl tabOk Try.underlying49 rfl rfl rfl rfl rfl rfl rfl) (by simp) rfl rfl ?_
      rintro _ _ ⟨rfl, rfl⟩
      refine SX.effN [] [] rfl (Eff.buildOwn tabOk Try.underlying49 rfl rfl rfl rfl rfl rfl rfl) rfl (by first | exact own_mid List.mem_cons_self | (simp; done)) rfl rfl ?_
      rintro _ _ ⟨r113, rfl, rfl⟩
      refine ⟨[own 100 2 r113 []], rfl, ?_⟩
      refine SX.effN [own 100 2 r113 []] [] rfl (Eff.appendE (zs := saidL d.said) tabOk [] rfl Try.underlying49 rfl rfl rfl rfl rfl rfl (said_ones d.said) (by unfold maxLen; simp only [List.length_nil, List.length_append, List.length_map, List.length_cons]; omega) (by rw [show Try.prog.bytesOf 100 = 16 by kernel_rfl]; simp only [List.length_nil, List.length_append, List.length_map, List.length_cons]; omega)) rfl (by first | exact own_mid List.mem_cons_self | (simp; done)) rfl rfl ?_
      rintro _ _ ⟨r118, rfl, rfl⟩
      refine ⟨[own 100 2 r118 (saidL d.said)], rfl, ?_⟩
      refine SX.effN [own 100 2 r118 (saidL d.said)] [] rfl (Eff.frozen [] (Eff.appendE (zs := saidL (d.said ++ [(m.from_, (parseR m.body n).1.result)])) tabOk [] (by unfold saidL; rw [List.map_append]; rfl) Try.underlying49 rfl rfl rfl rfl rfl rfl (by intro c hc; rw [List.mem_singleton] at hc; subst hc; rfl) (by unfold maxLen; simp only [List.length_nil, List.length_append, List.length_map, List.length_cons]; omega) (by rw [show Try.prog.bytesOf 100 = 16 by kernel_rfl]; simp only [List.length_nil, List.length_append, List.length_map, List.length_cons]; omega))) rfl (by first | exact own_mid List.mem_cons_self | (simp; done)) rfl rfl ?_
      rintro _ _ ⟨rfl, rfl⟩
      refine ⟨[], rfl, ?_⟩
      refine SX.val rfl (Val.nilCheck rfl) (by first | (simp [mids, It.mids, ownPc, mapPc]; done) | (intro k hk; simp [mids, It.mids, ownPc, mapPc] at hk ⊢; grind)) rfl rfl ?_
      refine SX.val rfl (Val.fieldAddr tabOk rfl rfl rfl rfl rfl) (by first | (simp [mids, It.mids, ownPc, mapPc]; done) | (intro k hk; simp [mids, It.mids, ownPc, mapPc] at hk ⊢; grind)) rfl rfl ?_
      refine SX.nil ?_
      refine SE.effZ rfl (Eff.store (L' := DS.cells q n id (⟨d.stamp, d.waits, d.req, (d.said ++ [(m.from_, (parseR m.body n).1.result)]), d.acc⟩)) tabOk rfl rfl rfl (by repeat first|assumption|exact Upd.here|apply Upd.there) rfl (Nat.le_of_ble_eq_true (by rfl)) rfl (by rfl)) rfl rfl ?_
      rintro _ _ ⟨rfl, rfl⟩
      refine SE.seq ?_
      refine SC.seq ?_
      refine SC.seq (SC.region ?_)
      refine SL.val (Val.move rfl) rfl rfl ?_
      refine SL.val (Val.move rfl) rfl rfl ?_
      refine SL.val (Val.nilCheck rfl) rfl rfl ?_
      refine SL.val (Val.fieldAddr tabOk rfl rfl rfl rfl rfl) rfl rfl ?_
      refine SL.val (Val.load1 tabOk rfl rfl (by first|(apply Or.inl;(repeat first|assumption|exact m0|apply m1);done)|(apply Or.inr;(repeat first|assumption|exact m0|apply m1);done)) List.not_mem_nil (by rfl)) rfl rfl ?_
      refine SL.call (rfaults_s (n := n) (by omega)) Casts.refl (by kernel_rfl) rfl rfl rfl ?_
      refine After.pure (by repeat (first | exact Reads.nil | (refine Reads.blk ?_ ?_; focus ((repeat first|assumption|exact m0|apply m1); done)) | (refine Reads.rd ?_ ?_; focus ((repeat first|assumption|exact m0|apply m1); done)) | (refine Reads.pc ?_ ?_; focus ((repeat first|assumption|exact m0|apply m1); done)) | (refine Reads.rdpc ?_ ?_; focus ((repeat first|assumption|exact m0|apply m1); done)))) (fun _ => rfl) ?_
      intro _
      refine SL.val (Val.gtI rfl rfl) rfl rfl ?_
      refine SL.nil (SE.seq ?_)
      refine SC.condP rfl ?_ ?_
      rotate_left
      · intro hc134
        refine SC.skip ?_
        refine SE.seq ?_
        refine SC.seq (SC.region ?_)
        refine SL.val (Val.assign rfl) rfl rfl ?_
        refine SL.nil (SE.seq ?_)
        refine SC.ret ?_
        have h0 : (readR T n id d.stamp d.waits m).2 = 0 := by rw [hR]
        have hv9 : ¬ (aget d.said m.from_).isSome = true := said_who fun j hj => hz.2 j hj (by omega)
        obtain ⟨hE, hS⟩ := drecv_new h0 hv9
        have hN9 : d.said.take z = d.said := List.take_of_length_le (by omega)
        have hDn : drecvD T n id d m = decide ((max n 1 - 1) / 3 < (((1 + cnt d.said (parseR m.body n).1.result : Nat)) : Int)) := by unfold drecvD; rw [hR]
        rw [hR] at hS
        first
          | rw [if_pos (by rw [hDn]; exact decide_eq_true (by rw [hN9] at hc134; omega))] at hS
          | rw [if_neg (by rw [hDn]; simp only [decide_eq_true_eq]; rw [hN9] at hc134; omega)] at hS
        refine SE.fin (rs := [.tmp 4]) rfl (RV.tmp rfl RV.nil) (()) (by rw [hS]; repeat (first | exact List.nil_sublist _ | exact List.Sublist.refl _ | apply List.Sublist.cons_cons | apply List.Sublist.cons)) (by simp [It.rids]) ?_
        rw [hE]
        rfl
      intro hc134
      refine SC.seq (SC.region ?_)
      refine SL.val (Val.move rfl) rfl rfl ?_
      refine SL.val (Val.nilCheck rfl) rfl rfl ?_
      refine SL.val (Val.fieldAddr tabOk rfl rfl rfl rfl rfl) rfl rfl ?_
      refine SL.eff (Eff.store (L' := DS.cells q n id (⟨d.stamp, false, d.req, (d.said ++ [(m.from_, (parseR m.body n).1.result)]), d.acc⟩)) tabOk rfl rfl rfl (by repeat first|assumption|exact Upd.here|apply Upd.there) rfl (Nat.le_of_ble_eq_true (by rfl)) rfl (by rfl)) rfl rfl ?_
      rintro _ _ ⟨rfl, rfl⟩
      refine SL.nil (SE.seq ?_)
      refine SC.drawZ [] (.q 0 (.q 2 (.q 3 (.q 4 (.q 5 (.q 7 (.q 8 (.q 9 (.q 10 (.q 11 (.q 12 (.q 13 (.q 14 (.q 15 (.two 1 16 (.two 6 16 (.e 16 (.e 17 (.q 18 (.q 19 .nil)))) (.e 6 (.e 17 (.q 18 (.q 19 .nil))))) (.e 1 (.e 6 (.e 17 (.q 18 (.q 19 .nil)))))))))))))))))))) (by kernel_rfl) (by kernel_rfl) ?_
      refine SX.val rfl (Val.move rfl) (by first | (simp [mids, It.mids, ownPc, mapPc]; done) | (intro k hk; simp [mids, It.mids, ownPc, mapPc] at hk ⊢; grind)) rfl rfl ?_
      refine SX.val rfl (Val.move rfl) (by first | (simp [mids, It.mids, ownPc, mapPc]; done) | (intro k hk; simp [mids, It.mids, ownPc, mapPc] at hk ⊢; grind)) rfl rfl ?_
      refine SX.val rfl (Val.nilCheck rfl) (by first | (simp [mids, It.mids, ownPc, mapPc]; done) | (intro k hk; simp [mids, It.mids, ownPc, mapPc] at hk ⊢; grind)) rfl rfl ?_
      refine SX.val rfl (Val.fieldAddr tabOk rfl rfl rfl rfl rfl) (by first | (simp [mids, It.mids, ownPc, mapPc]; done) | (intro k hk; simp [mids, It.mids, ownPc, mapPc] at hk ⊢; grind)) rfl rfl ?_
      refine SX.val rfl (Val.load1 tabOk rfl rfl (by first|(apply Or.inl;(repeat first|assumption|exact m0|apply m1);done)|(apply Or.inr;(repeat first|assumption|exact m0|apply m1);done)) List.not_mem_nil (by rfl)) (by first | (simp [mids, It.mids, ownPc, mapPc]; done) | (intro k hk; simp [mids, It.mids, ownPc, mapPc] at hk ⊢; grind)) rfl rfl ?_
      refine SX.val rfl (Val.move rfl) (by first | (simp [mids, It.mids, ownPc, mapPc]; done) | (intro k hk; simp [mids, It.mids, ownPc, mapPc] at hk ⊢; grind)) rfl rfl ?_
      refine SX.val rfl (Val.nilCheck rfl) (by first | (simp [mids, It.mids, ownPc, mapPc]; done) | (intro k hk; simp [mids, It.mids, ownPc, mapPc] at hk ⊢; grind)) rfl rfl ?_
      refine SX.val rfl (Val.fieldAddr tabOk rfl rfl rfl rfl rfl) (by first | (simp [mids, It.mids, ownPc, mapPc]; done) | (intro k hk; simp [mids, It.mids, ownPc, mapPc] at hk ⊢; grind)) rfl rfl ?_
      refine SX.val rfl (Val.load1 tabOk rfl rfl (by first|(apply Or.inl;(repeat first|assumption|exact m0|apply m1);done)|(apply Or.inr;(repeat first|assumption|exact m0|apply m1);done)) List.not_mem_nil (by rfl)) (by first | (simp [mids, It.mids, ownPc, mapPc]; done) | (intro k hk; simp [mids, It.mids, ownPc, mapPc] at hk ⊢; grind)) rfl rfl ?_
      refine SX.val rfl (Val.fieldAddr tabOk rfl rfl rfl rfl rfl) (by first | (simp [mids, It.mids, ownPc, mapPc]; done) | (intro k hk; simp [mids, It.mids, ownPc, mapPc] at hk ⊢; grind)) rfl rfl ?_
      refine SX.val rfl (Val.load1 tabOk rfl rfl (by first|(apply Or.inl;(repeat first|assumption|exact m0|apply m1);done)|(apply Or.inr;(repeat first|assumption|exact m0|apply m1);done)) List.not_mem_nil (by rfl)) (by first | (simp [mids, It.mids, ownPc, mapPc]; done) | (intro k hk; simp [mids, It.mids, ownPc, mapPc] at hk ⊢; grind)) rfl rfl ?_
      refine SX.val rfl (Val.fieldAddr tabOk rfl rfl rfl rfl rfl) (by first | (simp [mids, It.mids, ownPc, mapPc]; done) | (intro k hk; simp [mids, It.mids, ownPc, mapPc] at hk ⊢; grind)) rfl rfl ?_
      refine SX.val rfl (Val.load1 tabOk rfl rfl (by first|(apply Or.inl;(repeat first|assumption|exact m0|apply m1);done)|(apply Or.inr;(repeat first|assumption|exact m0|apply m1);done)) List.not_mem_nil (by rfl)) (by first | (simp [mids, It.mids, ownPc, mapPc]; done) | (intro k hk; simp [mids, It.mids, ownPc, mapPc] at hk ⊢; grind)) rfl rfl ?_
      refine SX.val rfl (Val.buildS (L := Oc.abs (Oc.mk id (parseR m.body n).1.stamp (parseR m.body n).1.result)) tabOk rfl rfl rfl rfl) (by first | (simp [mids, It.mids, ownPc, mapPc]; done) | (intro k hk; simp [mids, It.mids, ownPc, mapPc] at hk ⊢; grind)) rfl rfl ?_
      refine SX.two ?_ ?_
      · skip
        refine SX.effN [] [] rfl (Eff.buildOwn tabOk Try.underlying42 rfl rfl rfl rfl rfl rfl rfl) rfl (by first | exact own_mid List.mem_cons_self | (simp; done)) rfl rfl ?_
        rintro _ _ ⟨r139, rfl, rfl⟩
        refine ⟨[own 60 3 r139 []], rfl, ?_⟩
        refine SX.two ?_ ?_
        · skip
          refine SX.effN [own 60 3 r139 []] [] rfl (Eff.appendE (zs := d.acc.map Oc.abs) tabOk [] rfl Try.underlying42 rfl rfl rfl rfl rfl rfl (ocs_ones d.acc) (by unfold maxLen; simp only [List.length_nil, List.length_append, List.length_map, List.length_cons]; omega) (by rw [show Try.prog.bytesOf 60 = 24 by kernel_rfl]; simp only [List.length_nil, List.length_append, List.length_map, List.length_cons]; omega)) rfl (by first | exact own_mid List.mem_cons_self | (simp; done)) rfl rfl ?_
          rintro _ _ ⟨r144, rfl, rfl⟩
          refine ⟨[own 60 3 r144 (d.acc.map Oc.abs)], rfl, ?_⟩
          refine SX.eff rfl (Eff.buildSl tabOk Try.underlying42 rfl rfl rfl rfl rfl rfl rfl) (by simp) rfl rfl ?_
          rintro _ _ ⟨rfl, rfl⟩
          refine SX.effN [own 60 3 r144 (d.acc.map Oc.abs)] [] rfl (Eff.frozen [] (Eff.appendE (zs := (d.acc ++ [Oc.mk id (parseR m.body n).1.stamp (parseR m.body n).1.result]).map Oc.abs) tabOk [] (by rw [List.map_append]; rfl) Try.underlying42 rfl rfl rfl rfl rfl rfl (by intro c hc; rw [List.mem_singleton] at hc; subst hc; rfl) (by unfold maxLen; simp only [List.length_nil, List.length_append, List.length_map, List.length_cons]; omega) (by rw [show Try.prog.bytesOf 60 = 24 by kernel_rfl]; simp only [List.length_nil, List.length_append, List.length_map, List.length_cons]; omega))) rfl (by first | exact own_mid List.mem_cons_self | (simp; done)) rfl rfl ?_
          rintro _ _ ⟨rfl, rfl⟩
          refine ⟨[], rfl, ?_⟩
          refine SX.val rfl (Val.nilCheck rfl) (by first | (simp [mids, It.mids, ownPc, mapPc]; done) | (intro k hk; simp [mids, It.mids, ownPc, mapPc] at hk ⊢; grind)) rfl rfl ?_
          refine SX.val rfl (Val.fieldAddr tabOk rfl rfl rfl rfl rfl) (by first | (simp [mids, It.mids, ownPc, mapPc]; done) | (intro k hk; simp [mids, It.mids, ownPc, mapPc] at hk ⊢; grind)) rfl rfl ?_
          refine SX.nil ?_
          refine SE.effZ rfl (Eff.store (L' := DS.cells q n id (⟨d.stamp, false, d.req, (d.said ++ [(m.from_, (parseR m.body n).1.result)]), (d.acc ++ [Oc.mk id (parseR m.body n).1.stamp (parseR m.body n).1.result])⟩)) tabOk rfl rfl rfl (by repeat first|assumption|exact Upd.here|apply Upd.there) rfl (Nat.le_of_ble_eq_true (by rfl)) rfl (by rfl)) rfl rfl ?_
          rintro _ _ ⟨rfl, rfl⟩
          refine SE.seq ?_
          refine SC.seq (SC.region ?_)
          refine SL.val (Val.assign rfl) rfl rfl ?_
          refine SL.nil (SE.seq ?_)
          refine SC.ret ?_
          have h0 : (readR T n id d.stamp d.waits m).2 = 0 := by rw [hR]
          have hv9 : ¬ (aget d.said m.from_).isSome = true := said_who fun j hj => hz.2 j hj (by omega)
          obtain ⟨hE, hS⟩ := drecv_new h0 hv9
          have hN9 : d.said.take z = d.said := List.take_of_length_le (by omega)
          have hDn : drecvD T n id d m = decide ((max n 1 - 1) / 3 < (((1 + cnt d.said (parseR m.body n).1.result : Nat)) : Int)) := by unfold drecvD; rw [hR]
          rw [hR] at hS
          first
            | rw [if_pos (by rw [hDn]; exact decide_eq_true (by rw [hN9] at hc134; omega))] at hS
            | rw [if_neg (by rw [hDn]; simp only [decide_eq_true_eq]; rw [hN9] at hc134; omega)] at hS
          refine SE.fin (rs := [.tmp 4]) rfl (RV.tmp rfl RV.nil) (()) (by rw [hS]; repeat (first | exact List.nil_sublist _ | exact List.Sublist.refl _ | apply List.Sublist.cons_cons | apply List.Sublist.cons)) (by simp [It.rids]) ?_
          rw [hE]
          rfl
        · skip
          refine SX.eff rfl (Eff.buildSl tabOk Try.underlying42 rfl rfl rfl rfl rfl rfl rfl) (by simp) rfl rfl ?_
          rintro _ _ ⟨rfl, rfl⟩
          refine SX.effN [own 60 3 r139 []] [] rfl (Eff.appendE (zs := d.acc.map Oc.abs) tabOk [] rfl Try.underlying42 rfl rfl rfl rfl rfl rfl (ocs_ones d.acc) (by unfold maxLen; simp only [List.length_nil, List.length_append, List.length_map, List.length_cons]; omega) (by rw [show Try.prog.bytesOf 60 = 24 by kernel_rfl]; simp only [List.length_nil, List.length_append, List.length_map, List.length_cons]; omega)) rfl (by first | exact own_mid List.mem_cons_self | (simp; done)) rfl rfl ?_
          rintro _ _ ⟨r144, rfl, rfl⟩
          refine ⟨[own 60 3 r144 (d.acc.map Oc.abs)], rfl, ?_⟩
          refine SX.effN [own 60 3 r144 (d.acc.map Oc.abs)] [] rfl (Eff.frozen [] (Eff.appendE (zs := (d.acc ++ [Oc.mk id (parseR m.body n).1.stamp (parseR m.body n).1.result]).map Oc.abs) tabOk [] (by rw [List.map_append]; rfl) Try.underlying42 rfl rfl rfl rfl rfl rfl (by intro c hc; rw [List.mem_singleton] at hc; subst hc; rfl) (by unfold maxLen; simp only [List.length_nil, List.length_append, List.length_map, List.length_cons]; omega) (by rw [show Try.prog.bytesOf 60 = 24 by kernel_rfl]; simp only [List.length_nil, List.length_append, List.length_map, List.length_cons]; omega))) rfl (by first | exact own_mid List.mem_cons_self | (simp; done)) rfl rfl ?_
          rintro _ _ ⟨rfl, rfl⟩
          refine ⟨[], rfl, ?_⟩
          refine SX.val rfl (Val.nilCheck rfl) (by first | (simp [mids, It.mids, ownPc, mapPc]; done) | (intro k hk; simp [mids, It.mids, ownPc, mapPc] at hk ⊢; grind)) rfl rfl ?_
          refine SX.val rfl (Val.fieldAddr tabOk rfl rfl rfl rfl rfl) (by first | (simp [mids, It.mids, ownPc, mapPc]; done) | (intro k hk; simp [mids, It.mids, ownPc, mapPc] at hk ⊢; grind)) rfl rfl ?_
          refine SX.nil ?_
          refine SE.effZ rfl (Eff.store (L' := DS.cells q n id (⟨d.stamp, false, d.req, (d.said ++ [(m.from_, (parseR m.body n).1.result)]), (d.acc ++ [Oc.mk id (parseR m.body n).1.stamp (parseR m.body n).1.result])⟩)) tabOk rfl rfl rfl (by repeat first|assumption|exact Upd.here|apply Upd.there) rfl (Nat.le_of_ble_eq_true (by rfl)) rfl (by rfl)) rfl rfl ?_
          rintro _ _ ⟨rfl, rfl⟩
          refine SE.seq ?_
          refine SC.seq (SC.region ?_)
          refine SL.val (Val.assign rfl) rfl rfl ?_
          refine SL.nil (SE.seq ?_)
          refine SC.ret ?_
          have h0 : (readR T n id d.stamp d.waits m).2 = 0 := by rw [hR]
          have hv9 : ¬ (aget d.said m.from_).isSome = true := said_who fun j hj => hz.2 j hj (by omega)
          obtain ⟨hE, hS⟩ := drecv_new h0 hv9
          have hN9 : d.said.take z = d.said := List.take_of_length_le (by omega)
          have hDn : drecvD T n id d m = decide ((max n 1 - 1) / 3 < (((1 + cnt d.said (parseR m.body n).1.result : Nat)) : Int)) := by unfold drecvD; rw [hR]
          rw [hR] at hS
          first
            | rw [if_pos (by rw [hDn]; exact decide_eq_true (by rw [hN9] at hc134; omega))] at hS
            | rw [if_neg (by rw [hDn]; simp only [decide_eq_true_eq]; rw [hN9] at hc134; omega)] at hS
          refine SE.fin (rs := [.tmp 4]) rfl (RV.tmp rfl RV.nil) (()) (by rw [hS]; repeat (first | exact List.nil_sublist _ | exact List.Sublist.refl _ | apply List.Sublist.cons_cons | apply List.Sublist.cons)) (by simp [It.rids]) ?_
          rw [hE]
          rfl
      · skip
        refine SX.eff rfl (Eff.buildSl tabOk Try.underlying42 rfl rfl rfl rfl rfl rfl rfl) (by simp) rfl rfl ?_
        rintro _ _ ⟨rfl, rfl⟩
        refine SX.effN [] [] rfl (Eff.buildOwn tabOk Try.underlying42 rfl rfl rfl rfl rfl rfl rfl) rfl (by first | exact own_mid List.mem_cons_self | (simp; done)) rfl rfl ?_
        rintro _ _ ⟨r139, rfl, rfl⟩
        refine ⟨[own 60 3 r139 []], rfl, ?_⟩
        refine SX.effN [own 60 3 r139 []] [] rfl (Eff.appendE (zs := d.acc.map Oc.abs) tabOk [] rfl Try.underlying42 rfl rfl rfl rfl rfl rfl (ocs_ones d.acc) (by unfold maxLen; simp only [List.length_nil, List.length_append, List.length_map, List.length_cons]; omega) (by rw [show Try.prog.bytesOf 60 = 24 by kernel_rfl]; simp only [List.length_nil, List.length_append, List.length_map, List.length_cons]; omega)) rfl (by first | exact own_mid List.mem_cons_self | (simp; done)) rfl rfl ?_
        rintro _ _ ⟨r144, rfl, rfl⟩
        refine ⟨[own 60 3 r144 (d.acc.map Oc.abs)], rfl, ?_⟩
        refine SX.effN [own 60 3 r144 (d.acc.map Oc.abs)] [] rfl (Eff.frozen [] (Eff.appendE (zs := (d.acc ++ [Oc.mk id (parseR m.body n).1.stamp (parseR m.body n).1.result]).map Oc.abs) tabOk [] (by rw [List.map_append]; rfl) Try.underlying42 rfl rfl rfl rfl rfl rfl (by intro c hc; rw [List.mem_singleton] at hc; subst hc; rfl) (by unfold maxLen; simp only [List.length_nil, List.length_append, List.length_map, List.length_cons]; omega) (by rw [show Try.prog.bytesOf 60 = 24 by kernel_rfl]; simp only [List.length_nil, List.length_append, List.length_map, List.length_cons]; omega))) rfl (by first | exact own_mid List.mem_cons_self | (simp; done)) rfl rfl ?_
        rintro _ _ ⟨rfl, rfl⟩
        refine ⟨[], rfl, ?_⟩
        refine SX.val rfl (Val.nilCheck rfl) (by first | (simp [mids, It.mids, ownPc, mapPc]; done) | (intro k hk; simp [mids, It.mids, ownPc, mapPc] at hk ⊢; grind)) rfl rfl ?_
        refine SX.val rfl (Val.fieldAddr tabOk rfl rfl rfl rfl rfl) (by first | (simp [mids, It.mids, ownPc, mapPc]; done) | (intro k hk; simp [mids, It.mids, ownPc, mapPc] at hk ⊢; grind)) rfl rfl ?_
        refine SX.nil ?_
        refine SE.effZ rfl (Eff.store (L' := DS.cells q n id (⟨d.stamp, false, d.req, (d.said ++ [(m.from_, (parseR m.body n).1.result)]), (d.acc ++ [Oc.mk id (parseR m.body n).1.stamp (parseR m.body n).1.result])⟩)) tabOk rfl rfl rfl (by repeat first|assumption|exact Upd.here|apply Upd.there) rfl (Nat.le_of_ble_eq_true (by rfl)) rfl (by rfl)) rfl rfl ?_
        rintro _ _ ⟨rfl, rfl⟩
        refine SE.seq ?_
        refine SC.seq (SC.region ?_)
        refine SL.val (Val.assign rfl) rfl rfl ?_
        refine SL.nil (SE.seq ?_)
        refine SC.ret ?_
        have h0 : (readR T n id d.stamp d.waits m).2 = 0 := by rw [hR]
        have hv9 : ¬ (aget d.said m.from_).isSome = true := said_who fun j hj => hz.2 j hj (by omega)
        obtain ⟨hE, hS⟩ := drecv_new h0 hv9
        have hN9 : d.said.take z = d.said := List.take_of_length_le (by omega)
        have hDn : drecvD T n id d m = decide ((max n 1 - 1) / 3 < (((1 + cnt d.said (parseR m.body n).1.result : Nat)) : Int)) := by unfold drecvD; rw [hR]
        rw [hR] at hS
        first
          | rw [if_pos (by rw [hDn]; exact decide_eq_true (by rw [hN9] at hc134; omega))] at hS
          | rw [if_neg (by rw [hDn]; simp only [decide_eq_true_eq]; rw [hN9] at hc134; omega)] at hS
        refine SE.fin (rs := [.tmp 4]) rfl (RV.tmp rfl RV.nil) (()) (by rw [hS]; repeat (first | exact List.nil_sublist _ | exact List.Sublist.refl _ | apply List.Sublist.cons_cons | apply List.Sublist.cons)) (by simp [It.rids]) ?_
        rw [hE]
        rfl
end
end Go.Proofs.Ytmkijjmbiiiicaa.A
