/-
  Packed out of the texts: Y7, Sum, Doc, A14, A16.
-/
import Derived.Test.YtonceioajbimaaaG07
/-
  Tallies of votes: the program's.
-/
set_option maxRecDepth 100000
set_option linter.unusedSimpArgs false
set_option linter.unusedVariables false
namespace Go.Proofs.Ytonceioajbimaaa.A
open Go.RowKit Go.Maps Go.Sort Go.Shelf

def vtE (x : Vt) : Abs := .agg (vtC x)
theorem vt_is (x : Vt) : (vtE x).is (vtV x) := is_agg (us := vtU x)
abbrev vtA (o : Option Vt) : Abs := (o.map vtE).getD (.agg vtZ)
theorem vt_zero : ∀ w, (zeroValue 29).run Try.prog w = .ok (vtV vt0) w := fun w => by
  kernel_rfl
theorem vtA_is (o : Option Vt) : (vtA o).is ((o.map vtV).getD (vtV vt0)) := getD_is vt_is (is_agg (us := vtU vt0)) o
section
variable {t bv bn : Nat} {m : List (Int × Vt)} {c : List (Vt × Nat)} {k : Vt} {who at_ : Int}
theorem vt_new_s  : Spec Try.prog 6 [] [] (fun z : Nat × Nat × Nat => [.blk z.1 69 [mapV z.2.1, mapV z.2.2], .pc (mapPc z.2.1 intK vtV intOk []), .pc (mapPc z.2.2 vtV cntV vtOk [])]) (fun z => ptr z.1) := by
  refine spec_of Try.func6 rfl Try.ntmps6 rfl fun G w => ?_
  refine SC.seq (SC.region ?_)
  refine SL.val (Val.assign rfl) rfl rfl ?_
  refine SL.nil (SE.seq ?_)
  refine SC.seq (SC.region ?_)
  refine SL.eff (Eff.makeMap intK vtV intOk (fun ac w => by simp [execOp, Instr.makeMap, newObj, Sem.run, Sem.run_bind, Result.andThen])) rfl rfl ?_
  rintro _ _ ⟨m1, rfl, rfl⟩
  refine SL.eff (Eff.makeMap vtV cntV vtOk (fun ac w => by simp [execOp, Instr.makeMap, newObj, Sem.run, Sem.run_bind, Result.andThen])) rfl rfl ?_
  rintro _ _ ⟨m2, rfl, rfl⟩
  refine SL.val (Val.buildS tabOk rfl rfl rfl rfl) rfl rfl ?_
  refine SL.eff (Eff.boxA rfl) rfl rfl ?_
  rintro _ _ ⟨b4, rfl, rfl⟩
  refine SL.val (Val.assign rfl) rfl rfl ?_
  refine SL.nil (SE.seq ?_)
  refine SC.ret ?_
  refine SE.perm (List.Perm.cons _ (List.Perm.swap _ _ _)) ?_
  refine SE.fin (rs := [.tmp 0]) rfl (RV.tmp rfl RV.nil) (b4, m1, m2) (by repeat first|exact s0 _|exact s1 _|apply s2|apply s3) (by simp [It.rids]) ?_
  exact rfl
theorem vt_len_s  : Spec Try.prog 14 [ptr t] [.blk t 69 [mapV bv, mapV bn], .pc (mapPc bv intK vtV intOk m), .pc (mapPc bn vtV cntV vtOk c)] (fun _ : Unit => [.blk t 69 [mapV bv, mapV bn], .pc (mapPc bv intK vtV intOk m), .pc (mapPc bn vtV cntV vtOk c)]) (fun _ => int (m.length : Nat)) := by
  refine spec_of Try.func14 rfl Try.ntmps14 rfl fun G w => ?_
  refine SC.seq (SC.region ?_)
  refine SL.val (Val.assign rfl) rfl rfl ?_
  refine SL.nil (SE.seq ?_)
  refine SC.seq ?_
  refine SC.seq (SC.region ?_)
  refine SL.val (Val.move rfl) rfl rfl ?_
  refine SL.val (Val.eqP rfl rfl (by kernel_rfl)) rfl rfl ?_
  refine SL.nil (SE.seq ?_)
  refine SC.condF rfl ?_
  refine SC.skip ?_
  refine SE.seq ?_
  refine SC.seq (SC.region ?_)
  refine SL.val (Val.move rfl) rfl rfl ?_
  refine SL.val (Val.nilCheck rfl) rfl rfl ?_
  refine SL.val (Val.fieldAddr tabOk rfl rfl rfl rfl rfl) rfl rfl ?_
  refine SL.val (Val.load1 tabOk rfl rfl (by first|(apply Or.inl;(repeat first|assumption|exact m0|apply m1);done)|(apply Or.inr;(repeat first|assumption|exact m0|apply m1);done)) List.not_mem_nil (by rfl)) rfl rfl ?_
  refine SL.val (Val.lenMap Try.underlying66 rfl (by first|(apply Or.inl;(repeat first|assumption|exact m0|apply m1);done)|(apply Or.inr;(repeat first|assumption|exact m0|apply m1);done)) List.not_mem_nil) rfl rfl ?_
  refine SL.val (Val.assign rfl) rfl rfl ?_
  refine SL.nil (SE.seq ?_)
  refine SC.ret ?_
  refine SE.fin (rs := [.tmp 2]) rfl (RV.tmp rfl RV.nil) (()) (by repeat first|exact s0 _|exact s1 _|apply s2|apply s3) (by simp [It.rids]) ?_
  exact rfl
theorem vt_voters_s (hl : m.length ≤ 1000) : Spec Try.prog 35 [ptr t] [.blk t 69 [mapV bv, mapV bn], .pc (mapPc bv intK vtV intOk m), .pc (mapPc bn vtV cntV vtOk c)] (fun v : Value => [own 3 1 v ((srt (m.map (·.1))).map fun x => [int x]), .blk t 69 [mapV bv, mapV bn], .pc (mapPc bv intK vtV intOk m), .pc (mapPc bn vtV cntV vtOk c)]) (fun v => .v v) := by
  refine spec_of Try.func35 rfl Try.ntmps35 rfl fun G w => ?_
  refine SC.seq (SC.region ?_)
  refine SL.val (Val.assign rfl) rfl rfl ?_
  refine SL.nil (SE.seq ?_)
  refine SC.seq ?_
  refine SC.seq (SC.region ?_)
  refine SL.val (Val.move rfl) rfl rfl ?_
  refine SL.val (Val.eqP rfl rfl (by kernel_rfl)) rfl rfl ?_
  refine SL.nil (SE.seq ?_)
  refine SC.condF rfl ?_
  refine SC.skip ?_
  refine SE.seq ?_
  refine SC.seq (SC.region ?_)
  refine SL.val (Val.move rfl) rfl rfl ?_
  refine SL.val (Val.nilCheck rfl) rfl rfl ?_
  refine SL.val (Val.fieldAddr tabOk rfl rfl rfl rfl rfl) rfl rfl ?_
  refine SL.val (Val.load1 tabOk rfl rfl (by first|(apply Or.inl;(repeat first|assumption|exact m0|apply m1);done)|(apply Or.inr;(repeat first|assumption|exact m0|apply m1);done)) List.not_mem_nil (by rfl)) rfl rfl ?_
  refine SL.call (keys_1_s (b := bv)) Casts.refl (by kernel_rfl) rfl rfl rfl ?_
  refine After.make (by repeat first|exact .nil|refine .blk (by repeat first|assumption|exact m0|apply m1) ?_|refine .rd (by repeat first|assumption|exact m0|apply m1) ?_|refine .pc (by repeat first|assumption|exact m0|apply m1) ?_|refine .rdpc (by repeat first|assumption|exact m0|apply m1) ?_) (fun _ => rfl) ?_
  intro zk
  refine SL.call (sorted_1_s (V := vtV) (m := m) (b := bv) (z := zk) (by omega)) Casts.refl (by kernel_rfl) rfl rfl rfl ?_
  refine After.make (by repeat first|exact .nil|refine .blk (by repeat first|assumption|exact m0|apply m1) ?_|refine .rd (by repeat first|assumption|exact m0|apply m1) ?_|refine .pc (by repeat first|assumption|exact m0|apply m1) ?_|refine .rdpc (by repeat first|assumption|exact m0|apply m1) ?_) (fun _ => rfl) ?_
  intro r10
  refine SL.val (Val.assign rfl) rfl rfl ?_
  refine SL.nil (SE.seq ?_)
  refine SC.ret ?_
  refine SE.fin (rs := [.tmp 2]) rfl (RV.tmp rfl RV.nil) (r10) (by repeat first|exact s0 _|exact s1 _|apply s2|apply s3) (by simp [It.rids]) ?_
  exact rfl
theorem vt_voters0_s  : Spec Try.prog 35 [.v (.pointer none)] [] (fun _ : Unit => []) (fun _ => .v (.slice none 0 0)) := by
  refine spec_of Try.func35 rfl Try.ntmps35 rfl fun G w => ?_
  refine SC.seq (SC.region ?_)
  refine SL.val (Val.assign rfl) rfl rfl ?_
  refine SL.nil (SE.seq ?_)
  refine SC.seq ?_
  refine SC.seq (SC.region ?_)
  refine SL.val (Val.move rfl) rfl rfl ?_
  refine SL.val (Val.eqP rfl rfl (by kernel_rfl)) rfl rfl ?_
  refine SL.nil (SE.seq ?_)
  refine SC.condT rfl ?_
  refine SC.seq (SC.region ?_)
  refine SL.val (Val.assign rfl) rfl rfl ?_
  refine SL.nil (SE.seq ?_)
  refine SC.ret ?_
  refine SE.then_ (by intro h; cases h) ?_
  refine SE.fin (rs := [.tmp 2]) rfl (RV.tmp rfl RV.nil) (()) (by repeat first|exact s0 _|exact s1 _|apply s2|apply s3) (by simp [It.rids]) ?_
  exact rfl
end
section
variable {t bv bn : Nat} {m : List (Int × Vt)} {c : List (Vt × Nat)} {k v : Vt} {who at_ : Int}
set_option maxHeartbeats 2000000 in
theorem vt_changeN_s (hw : intOk who) (hti : TInv m c) (hl : m.length ≤ 1000)  (hk : vtOk k) (hok : ∀ w v, aget m w = some v → vtOk v) (hv : aget m who = none) : Spec Try.prog 10 [ptr t, int who, vtE k] [.blk t 69 [mapV bv, mapV bn], .pc (mapPc bv intK vtV intOk m), .pc (mapPc bn vtV cntV vtOk c)] (fun _ : Unit => [.blk t 69 [mapV bv, mapV bn], .pc (mapPc bv intK vtV intOk (aput m who k)), .pc (mapPc bn vtV cntV vtOk (chgC m c who k))]) (fun _ => .tup []) := by
  refine spec_of Try.func10 rfl Try.ntmps10 rfl fun G w => ?_
  refine SC.seq (SC.region ?_)
  refine SL.eff (Eff.boxA (cs := vtC k) rfl) rfl rfl ?_
  rintro _ _ ⟨b5, rfl, rfl⟩
  refine SL.nil (SE.seq ?_)
  refine SC.seq ?_
  refine SC.seq (SC.region ?_)
  refine SL.val (Val.move rfl) rfl rfl ?_
  refine SL.val (Val.eqP rfl rfl (by kernel_rfl)) rfl rfl ?_
  refine SL.nil (SE.seq ?_)
  refine SC.condF rfl ?_
  refine SC.skip ?_
  refine SE.seq ?_
  refine SC.seq ?_
  refine SC.seq (SC.region ?_)
  refine SL.val (Val.move rfl) rfl rfl ?_
  refine SL.val (Val.nilCheck rfl) rfl rfl ?_
  refine SL.val (Val.fieldAddr tabOk rfl rfl rfl rfl rfl) rfl rfl ?_
  refine SL.val (Val.load1 tabOk rfl rfl (by first|(apply Or.inl;(repeat first|assumption|exact m0|apply m1);done)|(apply Or.inr;(repeat first|assumption|exact m0|apply m1);done)) List.not_mem_nil (by rfl)) rfl rfl ?_
  refine SL.val (Val.move rfl) rfl rfl ?_
  refine SL.val (Val.to (C := .tup [.agg vtZ, boo false]) (Val.mapGetOk (a := who) (zv := (vtV vt0)) (C := vtA (aget m who)) (int_fit Try.underlying3) Try.underlying66 vt_zero rfl (by first|(apply Or.inl;(repeat first|assumption|exact m0|apply m1);done)|(apply Or.inr;(repeat first|assumption|exact m0|apply m1);done)) List.not_mem_nil rfl is_v hw (vtA_is _)) (by rw [hv]; rfl)) rfl rfl ?_
  refine SL.val (Val.move rfl) rfl rfl ?_
  refine SL.val (Val.extract rfl rfl) rfl rfl ?_
  refine SL.val (Val.extract rfl rfl) rfl rfl ?_
  refine SL.eff (Eff.alloc tabOk rfl) rfl rfl ?_
  rintro _ _ ⟨b6, rfl, rfl⟩
  refine SL.eff (Eff.store (L' := vtZ) tabOk rfl rfl rfl (by repeat first|assumption|exact Upd.here|apply Upd.there) (by exact rfl) (Nat.le_of_ble_eq_true (by rfl)) (by exact rfl) (putL_whole (by exact rfl))) rfl rfl ?_
  rintro _ _ ⟨rfl, rfl⟩
  refine SL.val (Val.assign rfl) rfl rfl ?_
  refine SL.nil (SE.seq ?_)
  refine SC.seq (SC.region ?_)
  refine SL.val (Val.move rfl) rfl rfl ?_
  refine SL.nil (SE.seq ?_)
  refine SC.condF rfl ?_
  refine SC.skip ?_
  refine SE.seq ?_
  refine SC.seq ?_
  refine SC.drawZ [] (.q 0 (.q 1 (.q 2 (.q 3 (.q 4 (.q 5 .nil)))))) (by kernel_rfl) (by kernel_rfl) ?_
  refine SX.val rfl (Val.move rfl) (by simp) rfl rfl ?_
  refine SX.val rfl (Val.nilCheck rfl) (by simp) rfl rfl ?_
  refine SX.val rfl (Val.fieldAddr tabOk rfl rfl rfl rfl rfl) (by simp) rfl rfl ?_
  refine SX.val rfl (Val.load1 tabOk rfl rfl (by first|(apply Or.inl;(repeat first|assumption|exact m0|apply m1);done)|(apply Or.inr;(repeat first|assumption|exact m0|apply m1);done)) List.not_mem_nil (by rfl)) (by first | (simp [mids, It.mids, ownPc, mapPc]; done) | (intro k hk; simp [mids, It.mids, ownPc, mapPc, mapAtPc] at hk ⊢; grind)) rfl rfl ?_
  refine SX.val rfl (Val.move rfl) (by simp) rfl rfl ?_
  refine SX.val rfl (Val.loadA tabOk rfl rfl rfl (by first|(apply Or.inl;(repeat first|assumption|exact m0|apply m1);done)|(apply Or.inr;(repeat first|assumption|exact m0|apply m1);done)) List.not_mem_nil (vtC_len _)) (by first | (simp [mids, It.mids, ownPc, mapPc]; done) | (intro k hk; simp [mids, It.mids, ownPc, mapPc, mapAtPc] at hk ⊢; grind)) rfl rfl ?_
  refine SX.nil ?_
  refine SE.effZ rfl (Eff.mapPut (a := who) (v := k) (m' := aput m who k) (int_fit Try.underlying3) Try.underlying66 rfl (by repeat first|assumption|exact Upd.here|apply Upd.there) rfl is_v hw rfl (vt_is _) rfl) rfl rfl ?_
  rintro _ _ ⟨rfl, rfl⟩
  refine SE.seq ?_
  refine SC.known (p := t ∉ [bn] ∧ b5 ∉ [bn]) (fun _ _ h => by
      have h1 := h.mem.nodup
      simp [mids, It.mids, mapPc, ownPc] at h1 ⊢
      grind) fun hX => ?_
  refine SC.draw [bn] (.q 0 (.q 1 (.q 2 (.q 3 (.q 4 (.two 5 7 (.q 6 (.e 7 (.q 8 (.e 9 .nil)))) (.q 8 (.e 5 (.q 6 (.e 9 .nil)))))))))) (by kernel_rfl) (by kernel_rfl) ?_
  refine SX.val rfl (Val.move rfl) (by first | (simp [mids, It.mids, ownPc, mapPc]; done) | (intro k hk; simp [mids, It.mids, ownPc, mapPc, mapAtPc] at hk ⊢; grind)) rfl rfl ?_
  refine SX.val rfl (Val.nilCheck rfl) (by first | (simp [mids, It.mids, ownPc, mapPc]; done) | (intro k hk; simp [mids, It.mids, ownPc, mapPc, mapAtPc] at hk ⊢; grind)) rfl rfl ?_
  refine SX.val rfl (Val.fieldAddr tabOk rfl rfl rfl rfl rfl) (by first | (simp [mids, It.mids, ownPc, mapPc]; done) | (intro k hk; simp [mids, It.mids, ownPc, mapPc, mapAtPc] at hk ⊢; grind)) rfl rfl ?_
  refine SX.val rfl (Val.load1 tabOk rfl rfl (by first|(apply Or.inl;(repeat first|assumption|exact m0|apply m1);done)|(apply Or.inr;(repeat first|assumption|exact m0|apply m1);done)) (by first | exact hX.1 | exact hX.2) (by rfl)) (by first | (simp [mids, It.mids, ownPc, mapPc]; done) | (intro k hk; simp [mids, It.mids, ownPc, mapPc, mapAtPc] at hk ⊢; grind)) rfl rfl ?_
  refine SX.val rfl (Val.loadA tabOk rfl rfl rfl (by first|(apply Or.inl;(repeat first|assumption|exact m0|apply m1);done)|(apply Or.inr;(repeat first|assumption|exact m0|apply m1);done)) (by first | exact hX.1 | exact hX.2) (vtC_len _)) (by first | (simp [mids, It.mids, ownPc, mapPc]; done) | (intro k hk; simp [mids, It.mids, ownPc, mapPc, mapAtPc] at hk ⊢; grind)) rfl rfl ?_
  refine SX.two ?_ ?_
  · skip
    first
      | (refine SX.valE rfl (Val.mapGet (a := k) (zv := cntV 0) (C := int ((cget c k : Nat) : Int)) vt_fit Try.underlying67 int_zero rfl ?_ List.not_mem_nil rfl (vt_is _) hk (cget_is _ _)) rfl rfl ?_; focus (apply Or.inl; (repeat first|assumption|exact m0|apply m1); done))
      | (refine SX.valE rfl (Val.mapGetAt (a := k) (a' := k) (s := s54) (zv := cntV 0) (C := int ((cget c k : Nat) : Int)) vt_fit Try.underlying67 int_zero rfl ?_ rfl (vt_is _) hk (cget_ent_is _ _)) rfl rfl ?_; focus ((repeat first|assumption|exact m0|apply m1); done))
    refine SX.val rfl (Val.to (C := int ((cget c k + 1 : Nat) : Int)) (Val.addI rfl rfl (by have := hti.dec_le (aget m who) k; rw [hv] at this; have e : cget c k ≤ m.length := this; simp only [InR, lo, hi]; omega)) (congrArg int (by omega))) (by first | (simp [mids, It.mids, ownPc, mapPc]; done) | (intro k hk; simp [mids, It.mids, ownPc, mapPc, mapAtPc] at hk ⊢; grind)) rfl rfl ?_
    refine SX.eff rfl (Eff.mapEntry (a := k) (zv := 0) (V := cntV) (C := int ((cget c k : Nat) : Int)) vt_fit Try.underlying67 int_zero rfl (fun s => (by repeat first|assumption|exact Upd.here|apply Upd.there)) rfl (vt_is _) hk (cget_is _ _)) (by simp) rfl rfl ?_
    rintro _ _ ⟨s54, rfl, rfl⟩
    refine SX.val rfl (Val.extract rfl rfl) (by first | (simp [mids, It.mids, ownPc, mapPc]; done) | (intro k hk; simp [mids, It.mids, ownPc, mapPc, mapAtPc] at hk ⊢; grind)) rfl rfl ?_
    refine SX.eff rfl (Eff.entryStore (v := cget c k + 1) (m' := aput c k (cget c k + 1)) rfl (by repeat first|assumption|exact Upd.here|apply Upd.there) rfl rfl is_v (aput_aent _ _ _ _)) (by simp) rfl rfl ?_
    rintro _ _ ⟨rfl, rfl⟩
    refine SX.nil ?_
    refine SE.finN (rs := []) rfl RV.nil (()) (by rw [chgC_new hv]; repeat (first | exact List.nil_sublist _ | exact List.Sublist.refl _ | apply List.Sublist.cons_cons | apply List.Sublist.cons)) (by simp [It.rids]) ?_
    exact rfl
  · skip
    refine SX.eff rfl (Eff.mapEntry (a := k) (zv := 0) (V := cntV) (C := int ((cget c k : Nat) : Int)) vt_fit Try.underlying67 int_zero rfl (fun s => (by repeat first|assumption|exact Upd.here|apply Upd.there)) rfl (vt_is _) hk (cget_is _ _)) (by simp) rfl rfl ?_
    rintro _ _ ⟨s54, rfl, rfl⟩
    refine SX.val rfl (Val.extract rfl rfl) (by first | (simp [mids, It.mids, ownPc, mapPc]; done) | (intro k hk; simp [mids, It.mids, ownPc, mapPc, mapAtPc] at hk ⊢; grind)) rfl rfl ?_
    first
      | (refine SX.valE rfl (Val.mapGet (a := k) (zv := cntV 0) (C := int ((cget c k : Nat) : Int)) vt_fit Try.underlying67 int_zero rfl ?_ List.not_mem_nil rfl (vt_is _) hk (cget_is _ _)) rfl rfl ?_; focus (apply Or.inl; (repeat first|assumption|exact m0|apply m1); done))
      | (refine SX.valE rfl (Val.mapGetAt (a := k) (a' := k) (s := s54) (zv := cntV 0) (C := int ((cget c k : Nat) : Int)) vt_fit Try.underlying67 int_zero rfl ?_ rfl (vt_is _) hk (cget_ent_is _ _)) rfl rfl ?_; focus ((repeat first|assumption|exact m0|apply m1); done))
    refine SX.val rfl (Val.to (C := int ((cget c k + 1 : Nat) : Int)) (Val.addI rfl rfl (by have := hti.dec_le (aget m who) k; rw [hv] at this; have e : cget c k ≤ m.length := this; simp only [InR, lo, hi]; omega)) (congrArg int (by omega))) (by first | (simp [mids, It.mids, ownPc, mapPc]; done) | (intro k hk; simp [mids, It.mids, ownPc, mapPc, mapAtPc] at hk ⊢; grind)) rfl rfl ?_
    refine SX.eff rfl (Eff.entryStore (v := cget c k + 1) (m' := aput c k (cget c k + 1)) rfl (by repeat first|assumption|exact Upd.here|apply Upd.there) rfl rfl is_v (aput_aent _ _ _ _)) (by simp) rfl rfl ?_
    rintro _ _ ⟨rfl, rfl⟩
    refine SX.nil ?_
    refine SE.finN (rs := []) rfl RV.nil (()) (by rw [chgC_new hv]; repeat (first | exact List.nil_sublist _ | exact List.Sublist.refl _ | apply List.Sublist.cons_cons | apply List.Sublist.cons)) (by simp [It.rids]) ?_
    exact rfl
set_option maxHeartbeats 4000000 in
theorem vt_changeO_s (hw : intOk who) (hti : TInv m c) (hl : m.length ≤ 1000)  (hk : vtOk k) (hok : ∀ w v, aget m w = some v → vtOk v) (hv : aget m who = some v) : Spec Try.prog 10 [ptr t, int who, vtE k] [.blk t 69 [mapV bv, mapV bn], .pc (mapPc bv intK vtV intOk m), .pc (mapPc bn vtV cntV vtOk c)] (fun _ : Unit => [.blk t 69 [mapV bv, mapV bn], .pc (mapPc bv intK vtV intOk (aput m who k)), .pc (mapPc bn vtV cntV vtOk (chgC m c who k))]) (fun _ => .tup []) := by
  refine spec_of Try.func10 rfl Try.ntmps10 rfl fun G w => ?_
  refine SC.seq (SC.region ?_)
  refine SL.eff (Eff.boxA (cs := vtC k) rfl) rfl rfl ?_
  rintro _ _ ⟨b5, rfl, rfl⟩
  refine SL.nil (SE.seq ?_)
  refine SC.seq ?_
  refine SC.seq (SC.region ?_)
  refine SL.val (Val.move rfl) rfl rfl ?_
  refine SL.val (Val.eqP rfl rfl (by kernel_rfl)) rfl rfl ?_
  refine SL.nil (SE.seq ?_)
  refine SC.condF rfl ?_
  refine SC.skip ?_
  refine SE.seq ?_
  refine SC.seq ?_
  refine SC.seq (SC.region ?_)
  refine SL.val (Val.move rfl) rfl rfl ?_
  refine SL.val (Val.nilCheck rfl) rfl rfl ?_
  refine SL.val (Val.fieldAddr tabOk rfl rfl rfl rfl rfl) rfl rfl ?_
  refine SL.val (Val.load1 tabOk rfl rfl (by first|(apply Or.inl;(repeat first|assumption|exact m0|apply m1);done)|(apply Or.inr;(repeat first|assumption|exact m0|apply m1);done)) List.not_mem_nil (by rfl)) rfl rfl ?_
  refine SL.val (Val.move rfl) rfl rfl ?_
  refine SL.val (Val.to (C := .tup [.agg (vtC v), boo true]) (Val.mapGetOk (a := who) (zv := (vtV vt0)) (C := vtA (aget m who)) (int_fit Try.underlying3) Try.underlying66 vt_zero rfl (by first|(apply Or.inl;(repeat first|assumption|exact m0|apply m1);done)|(apply Or.inr;(repeat first|assumption|exact m0|apply m1);done)) List.not_mem_nil rfl is_v hw (vtA_is _)) (by rw [hv]; rfl)) rfl rfl ?_
  refine SL.val (Val.move rfl) rfl rfl ?_
  refine SL.val (Val.extract rfl rfl) rfl rfl ?_
  refine SL.val (Val.extract rfl rfl) rfl rfl ?_
  refine SL.eff (Eff.alloc tabOk rfl) rfl rfl ?_
  rintro _ _ ⟨b6, rfl, rfl⟩
  refine SL.eff (Eff.store (L' := (vtC v)) tabOk rfl rfl rfl (by repeat first|assumption|exact Upd.here|apply Upd.there) (by exact (vtC_len _)) (Nat.le_of_ble_eq_true (by rfl)) (by exact (vtC_ones _)) (putL_whole (by exact (vtC_len _)))) rfl rfl ?_
  rintro _ _ ⟨rfl, rfl⟩
  refine SL.val (Val.assign rfl) rfl rfl ?_
  refine SL.nil (SE.seq ?_)
  refine SC.seq (SC.region ?_)
  refine SL.val (Val.move rfl) rfl rfl ?_
  refine SL.nil (SE.seq ?_)
  refine SC.condT rfl ?_
  refine SC.seq ?_
  refine SC.known (p := t ∉ [bn] ∧ b6 ∉ [bn]) (fun _ _ h => by
      have h1 := h.mem.nodup
      simp [mids, It.mids, mapPc, ownPc] at h1 ⊢
      grind) fun hX => ?_
  refine SC.draw [bn] (.q 0 (.q 1 (.q 2 (.q 3 (.q 4 (.two 5 7 (.q 6 (.e 7 (.q 8 (.e 9 .nil)))) (.q 8 (.e 5 (.q 6 (.e 9 .nil)))))))))) (by kernel_rfl) (by kernel_rfl) ?_
  refine SX.val rfl (Val.move rfl) (by first | (simp [mids, It.mids, ownPc, mapPc]; done) | (intro k hk; simp [mids, It.mids, ownPc, mapPc, mapAtPc] at hk ⊢; grind)) rfl rfl ?_
  refine SX.val rfl (Val.nilCheck rfl) (by first | (simp [mids, It.mids, ownPc, mapPc]; done) | (intro k hk; simp [mids, It.mids, ownPc, mapPc, mapAtPc] at hk ⊢; grind)) rfl rfl ?_
  refine SX.val rfl (Val.fieldAddr tabOk rfl rfl rfl rfl rfl) (by first | (simp [mids, It.mids, ownPc, mapPc]; done) | (intro k hk; simp [mids, It.mids, ownPc, mapPc, mapAtPc] at hk ⊢; grind)) rfl rfl ?_
  refine SX.val rfl (Val.load1 tabOk rfl rfl (by first|(apply Or.inl;(repeat first|assumption|exact m0|apply m1);done)|(apply Or.inr;(repeat first|assumption|exact m0|apply m1);done)) (by first | exact hX.1 | exact hX.2) (by rfl)) (by first | (simp [mids, It.mids, ownPc, mapPc]; done) | (intro k hk; simp [mids, It.mids, ownPc, mapPc, mapAtPc] at hk ⊢; grind)) rfl rfl ?_
  refine SX.val rfl (Val.loadA tabOk rfl rfl rfl (by first|(apply Or.inl;(repeat first|assumption|exact m0|apply m1);done)|(apply Or.inr;(repeat first|assumption|exact m0|apply m1);done)) (by first | exact hX.1 | exact hX.2) (vtC_len _)) (by first | (simp [mids, It.mids, ownPc, mapPc]; done) | (intro k hk; simp [mids, It.mids, ownPc, mapPc, mapAtPc] at hk ⊢; grind)) rfl rfl ?_
  refine SX.two ?_ ?_
  · skip
    first
      | (refine SX.valE rfl (Val.mapGet (a := v) (zv := cntV 0) (C := int ((cget c v : Nat) : Int)) vt_fit Try.underlying67 int_zero rfl ?_ List.not_mem_nil rfl (vt_is _) (hok _ _ hv) (cget_is _ _)) rfl rfl ?_; focus (apply Or.inl; (repeat first|assumption|exact m0|apply m1); done))
      | (refine SX.valE rfl (Val.mapGetAt (a := v) (a' := v) (s := s27) (zv := cntV 0) (C := int ((cget c v : Nat) : Int)) vt_fit Try.underlying67 int_zero rfl ?_ rfl (vt_is _) (hok _ _ hv) (cget_ent_is _ _)) rfl rfl ?_; focus ((repeat first|assumption|exact m0|apply m1); done))
    refine SX.val rfl (Val.to (C := int ((cget c v - 1 : Nat) : Int)) (Val.subI rfl rfl (by have := hti.le v; simp only [InR, lo, hi]; omega)) (congrArg int (by have := hti.pos hv; omega))) (by first | (simp [mids, It.mids, ownPc, mapPc]; done) | (intro k hk; simp [mids, It.mids, ownPc, mapPc, mapAtPc] at hk ⊢; grind)) rfl rfl ?_
    refine SX.eff rfl (Eff.mapEntry (a := v) (zv := 0) (V := cntV) (C := int ((cget c v : Nat) : Int)) vt_fit Try.underlying67 int_zero rfl (fun s => (by repeat first|assumption|exact Upd.here|apply Upd.there)) rfl (vt_is _) (hok _ _ hv) (cget_is _ _)) (by simp) rfl rfl ?_
    rintro _ _ ⟨s27, rfl, rfl⟩
    refine SX.val rfl (Val.extract rfl rfl) (by first | (simp [mids, It.mids, ownPc, mapPc]; done) | (intro k hk; simp [mids, It.mids, ownPc, mapPc, mapAtPc] at hk ⊢; grind)) rfl rfl ?_
    refine SX.eff rfl (Eff.entryStore (v := cget c v - 1) (m' := aput c v (cget c v - 1)) rfl (by repeat first|assumption|exact Upd.here|apply Upd.there) rfl rfl is_v (aput_aent _ _ _ _)) (by simp) rfl rfl ?_
    rintro _ _ ⟨rfl, rfl⟩
    refine SX.nil (SE.seq ?_)
    refine SC.seq ?_
    refine SC.draw [] (.q 0 (.q 1 (.q 2 (.q 3 (.q 4 (.q 5 (.q 6 .nil))))))) (by kernel_rfl) (by kernel_rfl) ?_
    refine SX.val rfl (Val.move rfl) (by simp) rfl rfl ?_
    refine SX.val rfl (Val.nilCheck rfl) (by simp) rfl rfl ?_
    refine SX.val rfl (Val.fieldAddr tabOk rfl rfl rfl rfl rfl) (by simp) rfl rfl ?_
    refine SX.val rfl (Val.load1 tabOk rfl rfl (by first|(apply Or.inl;(repeat first|assumption|exact m0|apply m1);done)|(apply Or.inr;(repeat first|assumption|exact m0|apply m1);done)) List.not_mem_nil (by rfl)) (by simp) rfl rfl ?_
    refine SX.val rfl (Val.loadA tabOk rfl rfl rfl (by first|(apply Or.inl;(repeat first|assumption|exact m0|apply m1);done)|(apply Or.inr;(repeat first|assumption|exact m0|apply m1);done)) List.not_mem_nil (vtC_len _)) (by first | (simp [mids, It.mids, ownPc, mapPc]; done) | (intro k hk; simp [mids, It.mids, ownPc, mapPc, mapAtPc] at hk ⊢; grind)) rfl rfl ?_
    refine SX.val rfl (Val.mapGet (a := v) (zv := cntV 0) (C := int ((cget (aput c v (cget c v - 1)) v : Nat) : Int)) vt_fit Try.underlying67 int_zero rfl (by first|(apply Or.inl;(repeat first|assumption|exact m0|apply m1);done)|(apply Or.inr;(repeat first|assumption|exact m0|apply m1);done)) List.not_mem_nil rfl (vt_is _) (hok _ _ hv) (cget_is _ _)) (by first | (simp [mids, It.mids, ownPc, mapPc]; done) | (intro k hk; simp [mids, It.mids, ownPc, mapPc, mapAtPc] at hk ⊢; grind)) rfl rfl ?_
    refine SX.val rfl (Val.eqI rfl rfl) (by simp) rfl rfl ?_
    refine SX.nil (SE.seq ?_)
    refine SC.condP rfl ?_ ?_
    rotate_left
    · intro hc35
      rw [show (aput c v (cget c v - 1)) = (decO c (some v)) from (dec_keep (by omega)).symm]
      refine SC.skip ?_
      refine SE.seq ?_
      refine SC.seq ?_
      refine SC.drawZ [] (.q 0 (.q 1 (.q 2 (.q 3 (.q 4 (.q 5 .nil)))))) (by kernel_rfl) (by kernel_rfl) ?_
      refine SX.val rfl (Val.move rfl) (by simp) rfl rfl ?_
      refine SX.val rfl (Val.nilCheck rfl) (by simp) rfl rfl ?_
      refine SX.val rfl (Val.fieldAddr tabOk rfl rfl rfl rfl rfl) (by simp) rfl rfl ?_
      refine SX.val rfl (Val.load1 tabOk rfl rfl (by first|(apply Or.inl;(repeat first|assumption|exact m0|apply m1);done)|(apply Or.inr;(repeat first|assumption|exact m0|apply m1);done)) List.not_mem_nil (by rfl)) (by first | (simp [mids, It.mids, ownPc, mapPc]; done) | (intro k hk; simp [mids, It.mids, ownPc, mapPc, mapAtPc] at hk ⊢; grind)) rfl rfl ?_
      refine SX.val rfl (Val.move rfl) (by simp) rfl rfl ?_
      refine SX.val rfl (Val.loadA tabOk rfl rfl rfl (by first|(apply Or.inl;(repeat first|assumption|exact m0|apply m1);done)|(apply Or.inr;(repeat first|assumption|exact m0|apply m1);done)) List.not_mem_nil (vtC_len _)) (by first | (simp [mids, It.mids, ownPc, mapPc]; done) | (intro k hk; simp [mids, It.mids, ownPc, mapPc, mapAtPc] at hk ⊢; grind)) rfl rfl ?_
      refine SX.nil ?_
      refine SE.effZ rfl (Eff.mapPut (a := who) (v := k) (m' := aput m who k) (int_fit Try.underlying3) Try.underlying66 rfl (by repeat first|assumption|exact Upd.here|apply Upd.there) rfl is_v hw rfl (vt_is _) rfl) rfl rfl ?_
      rintro _ _ ⟨rfl, rfl⟩
      refine SE.seq ?_
      refine SC.known (p := t ∉ [bn] ∧ b5 ∉ [bn]) (fun _ _ h => by
          have h1 := h.mem.nodup
          simp [mids, It.mids, mapPc, ownPc] at h1 ⊢
          grind) fun hX => ?_
      refine SC.draw [bn] (.q 0 (.q 1 (.q 2 (.q 3 (.q 4 (.two 5 7 (.q 6 (.e 7 (.q 8 (.e 9 .nil)))) (.q 8 (.e 5 (.q 6 (.e 9 .nil)))))))))) (by kernel_rfl) (by kernel_rfl) ?_
      refine SX.val rfl (Val.move rfl) (by first | (simp [mids, It.mids, ownPc, mapPc]; done) | (intro k hk; simp [mids, It.mids, ownPc, mapPc, mapAtPc] at hk ⊢; grind)) rfl rfl ?_
      refine SX.val rfl (Val.nilCheck rfl) (by first | (simp [mids, It.mids, ownPc, mapPc]; done) | (intro k hk; simp [mids, It.mids, ownPc, mapPc, mapAtPc] at hk ⊢; grind)) rfl rfl ?_
      refine SX.val rfl (Val.fieldAddr tabOk rfl rfl rfl rfl rfl) (by first | (simp [mids, It.mids, ownPc, mapPc]; done) | (intro k hk; simp [mids, It.mids, ownPc, mapPc, mapAtPc] at hk ⊢; grind)) rfl rfl ?_
      refine SX.val rfl (Val.load1 tabOk rfl rfl (by first|(apply Or.inl;(repeat first|assumption|exact m0|apply m1);done)|(apply Or.inr;(repeat first|assumption|exact m0|apply m1);done)) (by first | exact hX.1 | exact hX.2) (by rfl)) (by first | (simp [mids, It.mids, ownPc, mapPc]; done) | (intro k hk; simp [mids, It.mids, ownPc, mapPc, mapAtPc] at hk ⊢; grind)) rfl rfl ?_
      refine SX.val rfl (Val.loadA tabOk rfl rfl rfl (by first|(apply Or.inl;(repeat first|assumption|exact m0|apply m1);done)|(apply Or.inr;(repeat first|assumption|exact m0|apply m1);done)) (by first | exact hX.1 | exact hX.2) (vtC_len _)) (by first | (simp [mids, It.mids, ownPc, mapPc]; done) | (intro k hk; simp [mids, It.mids, ownPc, mapPc, mapAtPc] at hk ⊢; grind)) rfl rfl ?_
      refine SX.two ?_ ?_
      · skip
        first
          | (refine SX.valE rfl (Val.mapGet (a := k) (zv := cntV 0) (C := int ((cget (decO c (some v)) k : Nat) : Int)) vt_fit Try.underlying67 int_zero rfl ?_ List.not_mem_nil rfl (vt_is _) hk (cget_is _ _)) rfl rfl ?_; focus (apply Or.inl; (repeat first|assumption|exact m0|apply m1); done))
          | (refine SX.valE rfl (Val.mapGetAt (a := k) (a' := k) (s := s54) (zv := cntV 0) (C := int ((cget (decO c (some v)) k : Nat) : Int)) vt_fit Try.underlying67 int_zero rfl ?_ rfl (vt_is _) hk (cget_ent_is _ _)) rfl rfl ?_; focus ((repeat first|assumption|exact m0|apply m1); done))
        refine SX.val rfl (Val.to (C := int ((cget (decO c (some v)) k + 1 : Nat) : Int)) (Val.addI rfl rfl (by have := hti.dec_le (aget m who) k; rw [hv] at this; have e : cget (decO c (some v)) k ≤ m.length := this; simp only [InR, lo, hi]; omega)) (congrArg int (by omega))) (by first | (simp [mids, It.mids, ownPc, mapPc]; done) | (intro k hk; simp [mids, It.mids, ownPc, mapPc, mapAtPc] at hk ⊢; grind)) rfl rfl ?_
        refine SX.eff rfl (Eff.mapEntry (a := k) (zv := 0) (V := cntV) (C := int ((cget (decO c (some v)) k : Nat) : Int)) vt_fit Try.underlying67 int_zero rfl (fun s => (by repeat first|assumption|exact Upd.here|apply Upd.there)) rfl (vt_is _) hk (cget_is _ _)) (by simp) rfl rfl ?_
        rintro _ _ ⟨s54, rfl, rfl⟩
        refine SX.val rfl (Val.extract rfl rfl) (by first | (simp [mids, It.mids, ownPc, mapPc]; done) | (intro k hk; simp [mids, It.mids, ownPc, mapPc, mapAtPc] at hk ⊢; grind)) rfl rfl ?_
        refine SX.eff rfl (Eff.entryStore (v := cget (decO c (some v)) k + 1) (m' := aput (decO c (some v)) k (cget (decO c (some v)) k + 1)) rfl (by repeat first|assumption|exact Upd.here|apply Upd.there) rfl rfl is_v (aput_aent _ _ _ _)) (by simp) rfl rfl ?_
        rintro _ _ ⟨rfl, rfl⟩
        refine SX.nil ?_
        refine SE.finN (rs := []) rfl RV.nil (()) (by rw [chgC_old hv]; repeat (first | exact List.nil_sublist _ | exact List.Sublist.refl _ | apply List.Sublist.cons_cons | apply List.Sublist.cons)) (by simp [It.rids]) ?_
        exact rfl
      · skip
        refine SX.eff rfl (Eff.mapEntry (a := k) (zv := 0) (V := cntV) (C := int ((cget (decO c (some v)) k : Nat) : Int)) vt_fit Try.underlying67 int_zero rfl (fun s => (by repeat first|assumption|exact Upd.here|apply Upd.there)) rfl (vt_is _) hk (cget_is _ _)) (by simp) rfl rfl ?_
        rintro _ _ ⟨s54, rfl, rfl⟩
        refine SX.val rfl (Val.extract rfl rfl) (by first | (simp [mids, It.mids, ownPc, mapPc]; done) | (intro k hk; simp [mids, It.mids, ownPc, mapPc, mapAtPc] at hk ⊢; grind)) rfl rfl ?_
        first
          | (refine SX.valE rfl (Val.mapGet (a := k) (zv := cntV 0) (C := int ((cget (decO c (some v)) k : Nat) : Int)) vt_fit Try.underlying67 int_zero rfl ?_ List.not_mem_nil rfl (vt_is _) hk (cget_is _ _)) rfl rfl ?_; focus (apply Or.inl; (repeat first|assumption|exact m0|apply m1); done))
          | (refine SX.valE rfl (Val.mapGetAt (a := k) (a' := k) (s := s54) (zv := cntV 0) (C := int ((cget (decO c (some v)) k : Nat) : Int)) vt_fit Try.underlying67 int_zero rfl ?_ rfl (vt_is _) hk (cget_ent_is _ _)) rfl rfl ?_; focus ((repeat first|assumption|exact m0|apply m1); done))
        refine SX.val rfl (Val.to (C := int ((cget (decO c (some v)) k + 1 : Nat) : Int)) (Val.addI rfl rfl (by have := hti.dec_le (aget m who) k; rw [hv] at this; have e : cget (decO c (some v)) k ≤ m.length := this; simp only [InR, lo, hi]; omega)) (congrArg int (by omega))) (by first | (simp [mids, It.mids, ownPc, mapPc]; done) | (intro k hk; simp [mids, It.mids, ownPc, mapPc, mapAtPc] at hk ⊢; grind)) rfl rfl ?_
        refine SX.eff rfl (Eff.entryStore (v := cget (decO c (some v)) k + 1) (m' := aput (decO c (some v)) k (cget (decO c (some v)) k + 1)) rfl (by repeat first|assumption|exact Upd.here|apply Upd.there) rfl rfl is_v (aput_aent _ _ _ _)) (by simp) rfl rfl ?_
        rintro _ _ ⟨rfl, rfl⟩
        refine SX.nil ?_
        refine SE.finN (rs := []) rfl RV.nil (()) (by rw [chgC_old hv]; repeat (first | exact List.nil_sublist _ | exact List.Sublist.refl _ | apply List.Sublist.cons_cons | apply List.Sublist.cons)) (by simp [It.rids]) ?_
        exact rfl
    intro hc35
    refine SC.drawZ [] (.q 0 (.q 1 (.q 2 (.q 3 (.q 4 .nil))))) (by kernel_rfl) (by kernel_rfl) ?_
    refine SX.val rfl (Val.move rfl) (by simp) rfl rfl ?_
    refine SX.val rfl (Val.nilCheck rfl) (by simp) rfl rfl ?_
    refine SX.val rfl (Val.fieldAddr tabOk rfl rfl rfl rfl rfl) (by simp) rfl rfl ?_
    refine SX.val rfl (Val.load1 tabOk rfl rfl (by first|(apply Or.inl;(repeat first|assumption|exact m0|apply m1);done)|(apply Or.inr;(repeat first|assumption|exact m0|apply m1);done)) List.not_mem_nil (by rfl)) (by simp) rfl rfl ?_
    refine SX.val rfl (Val.loadA tabOk rfl rfl rfl (by first|(apply Or.inl;(repeat first|assumption|exact m0|apply m1);done)|(apply Or.inr;(repeat first|assumption|exact m0|apply m1);done)) List.not_mem_nil (vtC_len _)) (by first | (simp [mids, It.mids, ownPc, mapPc]; done) | (intro k hk; simp [mids, It.mids, ownPc, mapPc, mapAtPc] at hk ⊢; grind)) rfl rfl ?_
    refine SX.nil ?_
    refine SE.effZ rfl (Eff.mapDel (a := v) (m' := (decO c (some v))) vt_fit Try.underlying67 rfl (by repeat first|assumption|exact Upd.here|apply Upd.there) rfl (vt_is _) (hok _ _ hv) (dec_del (by omega))) rfl rfl ?_
    rintro _ _ ⟨rfl, rfl⟩
    refine SE.seq ?_
    refine SC.seq ?_
    refine SC.drawZ [] (.q 0 (.q 1 (.q 2 (.q 3 (.q 4 (.q 5 .nil)))))) (by kernel_rfl) (by kernel_rfl) ?_
    refine SX.val rfl (Val.move rfl) (by simp) rfl rfl ?_
    refine SX.val rfl (Val.nilCheck rfl) (by simp) rfl rfl ?_
    refine SX.val rfl (Val.fieldAddr tabOk rfl rfl rfl rfl rfl) (by simp) rfl rfl ?_
    refine SX.val rfl (Val.load1 tabOk rfl rfl (by first|(apply Or.inl;(repeat first|assumption|exact m0|apply m1);done)|(apply Or.inr;(repeat first|assumption|exact m0|apply m1);done)) List.not_mem_nil (by rfl)) (by first | (simp [mids, It.mids, ownPc, mapPc]; done) | (intro k hk; simp [mids, It.mids, ownPc, mapPc, mapAtPc] at hk ⊢; grind)) rfl rfl ?_
    refine SX.val rfl (Val.move rfl) (by simp) rfl rfl ?_
    refine SX.val rfl (Val.loadA tabOk rfl rfl rfl (by first|(apply Or.inl;(repeat first|assumption|exact m0|apply m1);done)|(apply Or.inr;(repeat first|assumption|exact m0|apply m1);done)) List.not_mem_nil (vtC_len _)) (by first | (simp [mids, It.mids, ownPc, mapPc]; done) | (intro k hk; simp [mids, It.mids, ownPc, mapPc, mapAtPc] at hk ⊢; grind)) rfl rfl ?_
    refine SX.nil ?_
    refine SE.effZ rfl (Eff.mapPut (a := who) (v := k) (m' := aput m who k) (int_fit Try.underlying3) Try.underlying66 rfl (by repeat first|assumption|exact Upd.here|apply Upd.there) rfl is_v hw rfl (vt_is _) rfl) rfl rfl ?_
    rintro _ _ ⟨rfl, rfl⟩
    refine SE.seq ?_
    refine SC.known (p := t ∉ [bn] ∧ b5 ∉ [bn]) (fun _ _ h => by
        have h1 := h.mem.nodup
        simp [mids, It.mids, mapPc, ownPc] at h1 ⊢
        grind) fun hX => ?_
    refine SC.draw [bn] (.q 0 (.q 1 (.q 2 (.q 3 (.q 4 (.two 5 7 (.q 6 (.e 7 (.q 8 (.e 9 .nil)))) (.q 8 (.e 5 (.q 6 (.e 9 .nil)))))))))) (by kernel_rfl) (by kernel_rfl) ?_
    refine SX.val rfl (Val.move rfl) (by first | (simp [mids, It.mids, ownPc, mapPc]; done) | (intro k hk; simp [mids, It.mids, ownPc, mapPc, mapAtPc] at hk ⊢; grind)) rfl rfl ?_
    refine SX.val rfl (Val.nilCheck rfl) (by first | (simp [mids, It.mids, ownPc, mapPc]; done) | (intro k hk; simp [mids, It.mids, ownPc, mapPc, mapAtPc] at hk ⊢; grind)) rfl rfl ?_
    refine SX.val rfl (Val.fieldAddr tabOk rfl rfl rfl rfl rfl) (by first | (simp [mids, It.mids, ownPc, mapPc]; done) | (intro k hk; simp [mids, It.mids, ownPc, mapPc, mapAtPc] at hk ⊢; grind)) rfl rfl ?_
    refine SX.val rfl (Val.load1 tabOk rfl rfl (by first|(apply Or.inl;(repeat first|assumption|exact m0|apply m1);done)|(apply Or.inr;(repeat first|assumption|exact m0|apply m1);done)) (by first | exact hX.1 | exact hX.2) (by rfl)) (by first | (simp [mids, It.mids, ownPc, mapPc]; done) | (intro k hk; simp [mids, It.mids, ownPc, mapPc, mapAtPc] at hk ⊢; grind)) rfl rfl ?_
    refine SX.val rfl (Val.loadA tabOk rfl rfl rfl (by first|(apply Or.inl;(repeat first|assumption|exact m0|apply m1);done)|(apply Or.inr;(repeat first|assumption|exact m0|apply m1);done)) (by first | exact hX.1 | exact hX.2) (vtC_len _)) (by first | (simp [mids, It.mids, ownPc, mapPc]; done) | (intro k hk; simp [mids, It.mids, ownPc, mapPc, mapAtPc] at hk ⊢; grind)) rfl rfl ?_
    refine SX.two ?_ ?_
    · skip
      first
        | (refine SX.valE rfl (Val.mapGet (a := k) (zv := cntV 0) (C := int ((cget (decO c (some v)) k : Nat) : Int)) vt_fit Try.underlying67 int_zero rfl ?_ List.not_mem_nil rfl (vt_is _) hk (cget_is _ _)) rfl rfl ?_; focus (apply Or.inl; (repeat first|assumption|exact m0|apply m1); done))
        | (refine SX.valE rfl (Val.mapGetAt (a := k) (a' := k) (s := s54) (zv := cntV 0) (C := int ((cget (decO c (some v)) k : Nat) : Int)) vt_fit Try.underlying67 int_zero rfl ?_ rfl (vt_is _) hk (cget_ent_is _ _)) rfl rfl ?_; focus ((repeat first|assumption|exact m0|apply m1); done))
      refine SX.val rfl (Val.to (C := int ((cget (decO c (some v)) k + 1 : Nat) : Int)) (Val.addI rfl rfl (by have := hti.dec_le (aget m who) k; rw [hv] at this; have e : cget (decO c (some v)) k ≤ m.length := this; simp only [InR, lo, hi]; omega)) (congrArg int (by omega))) (by first | (simp [mids, It.mids, ownPc, mapPc]; done) | (intro k hk; simp [mids, It.mids, ownPc, mapPc, mapAtPc] at hk ⊢; grind)) rfl rfl ?_
      refine SX.eff rfl (Eff.mapEntry (a := k) (zv := 0) (V := cntV) (C := int ((cget (decO c (some v)) k : Nat) : Int)) vt_fit Try.underlying67 int_zero rfl (fun s => (by repeat first|assumption|exact Upd.here|apply Upd.there)) rfl (vt_is _) hk (cget_is _ _)) (by simp) rfl rfl ?_
      rintro _ _ ⟨s54, rfl, rfl⟩
      refine SX.val rfl (Val.extract rfl rfl) (by first | (simp [mids, It.mids, ownPc, mapPc]; done) | (intro k hk; simp [mids, It.mids, ownPc, mapPc, mapAtPc] at hk ⊢; grind)) rfl rfl ?_
      refine SX.eff rfl (Eff.entryStore (v := cget (decO c (some v)) k + 1) (m' := aput (decO c (some v)) k (cget (decO c (some v)) k + 1)) rfl (by repeat first|assumption|exact Upd.here|apply Upd.there) rfl rfl is_v (aput_aent _ _ _ _)) (by simp) rfl rfl ?_
      rintro _ _ ⟨rfl, rfl⟩
      refine SX.nil ?_
      refine SE.finN (rs := []) rfl RV.nil (()) (by rw [chgC_old hv]; repeat (first | exact List.nil_sublist _ | exact List.Sublist.refl _ | apply List.Sublist.cons_cons | apply List.Sublist.cons)) (by simp [It.rids]) ?_
      exact rfl
    · skip
      refine SX.eff rfl (Eff.mapEntry (a := k) (zv := 0) (V := cntV) (C := int ((cget (decO c (some v)) k : Nat) : Int)) vt_fit Try.underlying67 int_zero rfl (fun s => (by repeat first|assumption|exact Upd.here|apply Upd.there)) rfl (vt_is _) hk (cget_is _ _)) (by simp) rfl rfl ?_
      rintro _ _ ⟨s54, rfl, rfl⟩
      refine SX.val rfl (Val.extract rfl rfl) (by first | (simp [mids, It.mids, ownPc, mapPc]; done) | (intro k hk; simp [mids, It.mids, ownPc, mapPc, mapAtPc] at hk ⊢; grind)) rfl rfl ?_
      first
        | (refine SX.valE rfl (Val.mapGet (a := k) (zv := cntV 0) (C := int ((cget (decO c (some v)) k : Nat) : Int)) vt_fit Try.underlying67 int_zero rfl ?_ List.not_mem_nil rfl (vt_is _) hk (cget_is _ _)) rfl rfl ?_; focus (apply Or.inl; (repeat first|assumption|exact m0|apply m1); done))
        | (refine SX.valE rfl (Val.mapGetAt (a := k) (a' := k) (s := s54) (zv := cntV 0) (C := int ((cget (decO c (some v)) k : Nat) : Int)) vt_fit Try.underlying67 int_zero rfl ?_ rfl (vt_is _) hk (cget_ent_is _ _)) rfl rfl ?_; focus ((repeat first|assumption|exact m0|apply m1); done))
      refine SX.val rfl (Val.to (C := int ((cget (decO c (some v)) k + 1 : Nat) : Int)) (Val.addI rfl rfl (by have := hti.dec_le (aget m who) k; rw [hv] at this; have e : cget (decO c (some v)) k ≤ m.length := this; simp only [InR, lo, hi]; omega)) (congrArg int (by omega))) (by first | (simp [mids, It.mids, ownPc, mapPc]; done) | (intro k hk; simp [mids, It.mids, ownPc, mapPc, mapAtPc] at hk ⊢; grind)) rfl rfl ?_
      refine SX.eff rfl (Eff.entryStore (v := cget (decO c (some v)) k + 1) (m' := aput (decO c (some v)) k (cget (decO c (some v)) k + 1)) rfl (by repeat first|assumption|exact Upd.here|apply Upd.there) rfl rfl is_v (aput_aent _ _ _ _)) (by simp) rfl rfl ?_
      rintro _ _ ⟨rfl, rfl⟩
      refine SX.nil ?_
      refine SE.finN (rs := []) rfl RV.nil (()) (by rw [chgC_old hv]; repeat (first | exact List.nil_sublist _ | exact List.Sublist.refl _ | apply List.Sublist.cons_cons | apply List.Sublist.cons)) (by simp [It.rids]) ?_
      exact rfl
  · skip
    refine SX.eff rfl (Eff.mapEntry (a := v) (zv := 0) (V := cntV) (C := int ((cget c v : Nat) : Int)) vt_fit Try.underlying67 int_zero rfl (fun s => (by repeat first|assumption|exact Upd.here|apply Upd.there)) rfl (vt_is _) (hok _ _ hv) (cget_is _ _)) (by simp) rfl rfl ?_
    rintro _ _ ⟨s27, rfl, rfl⟩
    refine SX.val rfl (Val.extract rfl rfl) (by first | (simp [mids, It.mids, ownPc, mapPc]; done) | (intro k hk; simp [mids, It.mids, ownPc, mapPc, mapAtPc] at hk ⊢; grind)) rfl rfl ?_
    first
      | (refine SX.valE rfl (Val.mapGet (a := v) (zv := cntV 0) (C := int ((cget c v : Nat) : Int)) vt_fit Try.underlying67 int_zero rfl ?_ List.not_mem_nil rfl (vt_is _) (hok _ _ hv) (cget_is _ _)) rfl rfl ?_; focus (apply Or.inl; (repeat first|assumption|exact m0|apply m1); done))
      | (refine SX.valE rfl (Val.mapGetAt (a := v) (a' := v) (s := s27) (zv := cntV 0) (C := int ((cget c v : Nat) : Int)) vt_fit Try.underlying67 int_zero rfl ?_ rfl (vt_is _) (hok _ _ hv) (cget_ent_is _ _)) rfl rfl ?_; focus ((repeat first|assumption|exact m0|apply m1); done))
    refine SX.val rfl (Val.to (C := int ((cget c v - 1 : Nat) : Int)) (Val.subI rfl rfl (by have := hti.le v; simp only [InR, lo, hi]; omega)) (congrArg int (by have := hti.pos hv; omega))) (by first | (simp [mids, It.mids, ownPc, mapPc]; done) | (intro k hk; simp [mids, It.mids, ownPc, mapPc, mapAtPc] at hk ⊢; grind)) rfl rfl ?_
    refine SX.eff rfl (Eff.entryStore (v := cget c v - 1) (m' := aput c v (cget c v - 1)) rfl (by repeat first|assumption|exact Upd.here|apply Upd.there) rfl rfl is_v (aput_aent _ _ _ _)) (by simp) rfl rfl ?_
    rintro _ _ ⟨rfl, rfl⟩
    refine SX.nil (SE.seq ?_)
    refine SC.seq ?_
    refine SC.draw [] (.q 0 (.q 1 (.q 2 (.q 3 (.q 4 (.q 5 (.q 6 .nil))))))) (by kernel_rfl) (by kernel_rfl) ?_
    refine SX.val rfl (Val.move rfl) (by simp) rfl rfl ?_
    refine SX.val rfl (Val.nilCheck rfl) (by simp) rfl rfl ?_
    refine SX.val rfl (Val.fieldAddr tabOk rfl rfl rfl rfl rfl) (by simp) rfl rfl ?_
    refine SX.val rfl (Val.load1 tabOk rfl rfl (by first|(apply Or.inl;(repeat first|assumption|exact m0|apply m1);done)|(apply Or.inr;(repeat first|assumption|exact m0|apply m1);done)) List.not_mem_nil (by rfl)) (by simp) rfl rfl ?_
    refine SX.val rfl (Val.loadA tabOk rfl rfl rfl (by first|(apply Or.inl;(repeat first|assumption|exact m0|apply m1);done)|(apply Or.inr;(repeat first|assumption|exact m0|apply m1);done)) List.not_mem_nil (vtC_len _)) (by first | (simp [mids, It.mids, ownPc, mapPc]; done) | (intro k hk; simp [mids, It.mids, ownPc, mapPc, mapAtPc] at hk ⊢; grind)) rfl rfl ?_
    refine SX.val rfl (Val.mapGet (a := v) (zv := cntV 0) (C := int ((cget (aput c v (cget c v - 1)) v : Nat) : Int)) vt_fit Try.underlying67 int_zero rfl (by first|(apply Or.inl;(repeat first|assumption|exact m0|apply m1);done)|(apply Or.inr;(repeat first|assumption|exact m0|apply m1);done)) List.not_mem_nil rfl (vt_is _) (hok _ _ hv) (cget_is _ _)) (by first | (simp [mids, It.mids, ownPc, mapPc]; done) | (intro k hk; simp [mids, It.mids, ownPc, mapPc, mapAtPc] at hk ⊢; grind)) rfl rfl ?_
    refine SX.val rfl (Val.eqI rfl rfl) (by simp) rfl rfl ?_
    refine SX.nil (SE.seq ?_)
    refine SC.condP rfl ?_ ?_
    rotate_left
    · intro hc35
      rw [show (aput c v (cget c v - 1)) = (decO c (some v)) from (dec_keep (by omega)).symm]
      refine SC.skip ?_
      refine SE.seq ?_
      refine SC.seq ?_
      refine SC.drawZ [] (.q 0 (.q 1 (.q 2 (.q 3 (.q 4 (.q 5 .nil)))))) (by kernel_rfl) (by kernel_rfl) ?_
      refine SX.val rfl (Val.move rfl) (by simp) rfl rfl ?_
      refine SX.val rfl (Val.nilCheck rfl) (by simp) rfl rfl ?_
      refine SX.val rfl (Val.fieldAddr tabOk rfl rfl rfl rfl rfl) (by simp) rfl rfl ?_
      refine SX.val rfl (Val.load1 tabOk rfl rfl (by first|(apply Or.inl;(repeat first|assumption|exact m0|apply m1);done)|(apply Or.inr;(repeat first|assumption|exact m0|apply m1);done)) List.not_mem_nil (by rfl)) (by first | (simp [mids, It.mids, ownPc, mapPc]; done) | (intro k hk; simp [mids, It.mids, ownPc, mapPc, mapAtPc] at hk ⊢; grind)) rfl rfl ?_
      refine SX.val rfl (Val.move rfl) (by simp) rfl rfl ?_
      refine SX.val rfl (Val.loadA tabOk rfl rfl rfl (by first|(apply Or.inl;(repeat first|assumption|exact m0|apply m1);done)|(apply Or.inr;(repeat first|assumption|exact m0|apply m1);done)) List.not_mem_nil (vtC_len _)) (by first | (simp [mids, It.mids, ownPc, mapPc]; done) | (intro k hk; simp [mids, It.mids, ownPc, mapPc, mapAtPc] at hk ⊢; grind)) rfl rfl ?_
      refine SX.nil ?_
      refine SE.effZ rfl (Eff.mapPut (a := who) (v := k) (m' := aput m who k) (int_fit Try.underlying3) Try.underlying66 rfl (by repeat first|assumption|exact Upd.here|apply Upd.there) rfl is_v hw rfl (vt_is _) rfl) rfl rfl ?_
      rintro _ _ ⟨rfl, rfl⟩
      refine SE.seq ?_
      refine SC.known (p := t ∉ [bn] ∧ b5 ∉ [bn]) (fun _ _ h => by
          have h1 := h.mem.nodup
          simp [mids, It.mids, mapPc, ownPc] at h1 ⊢
          grind) fun hX => ?_
      refine SC.draw [bn] (.q 0 (.q 1 (.q 2 (.q 3 (.q 4 (.two 5 7 (.q 6 (.e 7 (.q 8 (.e 9 .nil)))) (.q 8 (.e 5 (.q 6 (.e 9 .nil)))))))))) (by kernel_rfl) (by kernel_rfl) ?_
      refine SX.val rfl (Val.move rfl) (by first | (simp [mids, It.mids, ownPc, mapPc]; done) | (intro k hk; simp [mids, It.mids, ownPc, mapPc, mapAtPc] at hk ⊢; grind)) rfl rfl ?_
      refine SX.val rfl (Val.nilCheck rfl) (by first | (simp [mids, It.mids, ownPc, mapPc]; done) | (intro k hk; simp [mids, It.mids, ownPc, mapPc, mapAtPc] at hk ⊢; grind)) rfl rfl ?_
      refine SX.val rfl (Val.fieldAddr tabOk rfl rfl rfl rfl rfl) (by first | (simp [mids, It.mids, ownPc, mapPc]; done) | (intro k hk; simp [mids, It.mids, ownPc, mapPc, mapAtPc] at hk ⊢; grind)) rfl rfl ?_
      refine SX.val rfl (Val.load1 tabOk rfl rfl (by first|(apply Or.inl;(repeat first|assumption|exact m0|apply m1);done)|(apply Or.inr;(repeat first|assumption|exact m0|apply m1);done)) (by first | exact hX.1 | exact hX.2) (by rfl)) (by first | (simp [mids, It.mids, ownPc, mapPc]; done) | (intro k hk; simp [mids, It.mids, ownPc, mapPc, mapAtPc] at hk ⊢; grind)) rfl rfl ?_
      refine SX.val rfl (Val.loadA tabOk rfl rfl rfl (by first|(apply Or.inl;(repeat first|assumption|exact m0|apply m1);done)|(apply Or.inr;(repeat first|assumption|exact m0|apply m1);done)) (by first | exact hX.1 | exact hX.2) (vtC_len _)) (by first | (simp [mids, It.mids, ownPc, mapPc]; done) | (intro k hk; simp [mids, It.mids, ownPc, mapPc, mapAtPc] at hk ⊢; grind)) rfl rfl ?_
      refine SX.two ?_ ?_
      · skip
        first
          | (refine SX.valE rfl (Val.mapGet (a := k) (zv := cntV 0) (C := int ((cget (decO c (some v)) k : Nat) : Int)) vt_fit Try.underlying67 int_zero rfl ?_ List.not_mem_nil rfl (vt_is _) hk (cget_is _ _)) rfl rfl ?_; focus (apply Or.inl; (repeat first|assumption|exact m0|apply m1); done))
          | (refine SX.valE rfl (Val.mapGetAt (a := k) (a' := k) (s := s54) (zv := cntV 0) (C := int ((cget (decO c (some v)) k : Nat) : Int)) vt_fit Try.underlying67 int_zero rfl ?_ rfl (vt_is _) hk (cget_ent_is _ _)) rfl rfl ?_; focus ((repeat first|assumption|exact m0|apply m1); done))
        refine SX.val rfl (Val.to (C := int ((cget (decO c (some v)) k + 1 : Nat) : Int)) (Val.addI rfl rfl (by have := hti.dec_le (aget m who) k; rw [hv] at this; have e : cget (decO c (some v)) k ≤ m.length := this; simp only [InR, lo, hi]; omega)) (congrArg int (by omega))) (by first | (simp [mids, It.mids, ownPc, mapPc]; done) | (intro k hk; simp [mids, It.mids, ownPc, mapPc, mapAtPc] at hk ⊢; grind)) rfl rfl ?_
        refine SX.eff rfl (Eff.mapEntry (a := k) (zv := 0) (V := cntV) (C := int ((cget (decO c (some v)) k : Nat) : Int)) vt_fit Try.underlying67 int_zero rfl (fun s => (by repeat first|assumption|exact Upd.here|apply Upd.there)) rfl (vt_is _) hk (cget_is _ _)) (by simp) rfl rfl ?_
        rintro _ _ ⟨s54, rfl, rfl⟩
        refine SX.val rfl (Val.extract rfl rfl) (by first | (simp [mids, It.mids, ownPc, mapPc]; done) | (intro k hk; simp [mids, It.mids, ownPc, mapPc, mapAtPc] at hk ⊢; grind)) rfl rfl ?_
        refine SX.eff rfl (Eff.entryStore (v := cget (decO c (some v)) k + 1) (m' := aput (decO c (some v)) k (cget (decO c (some v)) k + 1)) rfl (by repeat first|assumption|exact Upd.here|apply Upd.there) rfl rfl is_v (aput_aent _ _ _ _)) (by simp) rfl rfl ?_
        rintro _ _ ⟨rfl, rfl⟩
        refine SX.nil ?_
        refine SE.finN (rs := []) rfl RV.nil (()) (by rw [chgC_old hv]; repeat (first | exact List.nil_sublist _ | exact List.Sublist.refl _ | apply List.Sublist.cons_cons | apply List.Sublist.cons)) (by simp [It.rids]) ?_
        exact rfl
      · skip
        refine SX.eff rfl (Eff.mapEntry (a := k) (zv := 0) (V := cntV) (C := int ((cget (decO c (some v)) k : Nat) : Int)) vt_fit Try.underlying67 int_zero rfl (fun s => (by repeat first|assumption|exact Upd.here|apply Upd.there)) rfl (vt_is _) hk (cget_is _ _)) (by simp) rfl rfl ?_
        rintro _ _ ⟨s54, rfl, rfl⟩
        refine SX.val rfl (Val.extract rfl rfl) (by first | (simp [mids, It.mids, ownPc, mapPc]; done) | (intro k hk; simp [mids, It.mids, ownPc, mapPc, mapAtPc] at hk ⊢; grind)) rfl rfl ?_
        first
          | (refine SX.valE rfl (Val.mapGet (a := k) (zv := cntV 0) (C := int ((cget (decO c (some v)) k : Nat) : Int)) vt_fit Try.underlying67 int_zero rfl ?_ List.not_mem_nil rfl (vt_is _) hk (cget_is _ _)) rfl rfl ?_; focus (apply Or.inl; (repeat first|assumption|exact m0|apply m1); done))
          | (refine SX.valE rfl (Val.mapGetAt (a := k) (a' := k) (s := s54) (zv := cntV 0) (C := int ((cget (decO c (some v)) k : Nat) : Int)) vt_fit Try.underlying67 int_zero rfl ?_ rfl (vt_is _) hk (cget_ent_is _ _)) rfl rfl ?_; focus ((repeat first|assumption|exact m0|apply m1); done))
        refine SX.val rfl (Val.to (C := int ((cget (decO c (some v)) k + 1 : Nat) : Int)) (Val.addI rfl rfl (by have := hti.dec_le (aget m who) k; rw [hv] at this; have e : cget (decO c (some v)) k ≤ m.length := this; simp only [InR, lo, hi]; omega)) (congrArg int (by omega))) (by first | (simp [mids, It.mids, ownPc, mapPc]; done) | (intro k hk; simp [mids, It.mids, ownPc, mapPc, mapAtPc] at hk ⊢; grind)) rfl rfl ?_
        refine SX.eff rfl (Eff.entryStore (v := cget (decO c (some v)) k + 1) (m' := aput (decO c (some v)) k (cget (decO c (some v)) k + 1)) rfl (by repeat first|assumption|exact Upd.here|apply Upd.there) rfl rfl is_v (aput_aent _ _ _ _)) (by simp) rfl rfl ?_
        rintro _ _ ⟨rfl, rfl⟩
        refine SX.nil ?_
        refine SE.finN (rs := []) rfl RV.nil (()) (by rw [chgC_old hv]; repeat (first | exact List.nil_sublist _ | exact List.Sublist.refl _ | apply List.Sublist.cons_cons | apply List.Sublist.cons)) (by simp [It.rids]) ?_
        exact rfl
    intro hc35
    refine SC.drawZ [] (.q 0 (.q 1 (.q 2 (.q 3 (.q 4 .nil))))) (by kernel_rfl) (by kernel_rfl) ?_
    refine SX.val rfl (Val.move rfl) (by simp) rfl rfl ?_
    refine SX.val rfl (Val.nilCheck rfl) (by simp) rfl rfl ?_
    refine SX.val rfl (Val.fieldAddr tabOk rfl rfl rfl rfl rfl) (by simp) rfl rfl ?_
    refine SX.val rfl (Val.load1 tabOk rfl rfl (by first|(apply Or.inl;(repeat first|assumption|exact m0|apply m1);done)|(apply Or.inr;(repeat first|assumption|exact m0|apply m1);done)) List.not_mem_nil (by rfl)) (by simp) rfl rfl ?_
    refine SX.val rfl (Val.loadA tabOk rfl rfl rfl (by first|(apply Or.inl;(repeat first|assumption|exact m0|apply m1);done)|(apply Or.inr;(repeat first|assumption|exact m0|apply m1);done)) List.not_mem_nil (vtC_len _)) (by first | (simp [mids, It.mids, ownPc, mapPc]; done) | (intro k hk; simp [mids, It.mids, ownPc, mapPc, mapAtPc] at hk ⊢; grind)) rfl rfl ?_
    refine SX.nil ?_
    refine SE.effZ rfl (Eff.mapDel (a := v) (m' := (decO c (some v))) vt_fit Try.underlying67 rfl (by repeat first|assumption|exact Upd.here|apply Upd.there) rfl (vt_is _) (hok _ _ hv) (dec_del (by omega))) rfl rfl ?_
    rintro _ _ ⟨rfl, rfl⟩
    refine SE.seq ?_
    refine SC.seq ?_
    refine SC.drawZ [] (.q 0 (.q 1 (.q 2 (.q 3 (.q 4 (.q 5 .nil)))))) (by kernel_rfl) (by kernel_rfl) ?_
    refine SX.val rfl (Val.move rfl) (by simp) rfl rfl ?_
    refine SX.val rfl (Val.nilCheck rfl) (by simp) rfl rfl ?_
    refine SX.val rfl (Val.fieldAddr tabOk rfl rfl rfl rfl rfl) (by simp) rfl rfl ?_
    refine SX.val rfl (Val.load1 tabOk rfl rfl (by first|(apply Or.inl;(repeat first|assumption|exact m0|apply m1);done)|(apply Or.inr;(repeat first|assumption|exact m0|apply m1);done)) List.not_mem_nil (by rfl)) (by first | (simp [mids, It.mids, ownPc, mapPc]; done) | (intro k hk; simp [mids, It.mids, ownPc, mapPc, mapAtPc] at hk ⊢; grind)) rfl rfl ?_
    refine SX.val rfl (Val.move rfl) (by simp) rfl rfl ?_
    refine SX.val rfl (Val.loadA tabOk rfl rfl rfl (by first|(apply Or.inl;(repeat first|assumption|exact m0|apply m1);done)|(apply Or.inr;(repeat first|assumption|exact m0|apply m1);done)) List.not_mem_nil (vtC_len _)) (by first | (simp [mids, It.mids, ownPc, mapPc]; done) | (intro k hk; simp [mids, It.mids, ownPc, mapPc, mapAtPc] at hk ⊢; grind)) rfl rfl ?_
    refine SX.nil ?_
    refine SE.effZ rfl (Eff.mapPut (a := who) (v := k) (m' := aput m who k) (int_fit Try.underlying3) Try.underlying66 rfl (by repeat first|assumption|exact Upd.here|apply Upd.there) rfl is_v hw rfl (vt_is _) rfl) rfl rfl ?_
    rintro _ _ ⟨rfl, rfl⟩
    refine SE.seq ?_
    refine SC.known (p := t ∉ [bn] ∧ b5 ∉ [bn]) (fun _ _ h => by
        have h1 := h.mem.nodup
        simp [mids, It.mids, mapPc, ownPc] at h1 ⊢
        grind) fun hX => ?_
    refine SC.draw [bn] (.q 0 (.q 1 (.q 2 (.q 3 (.q 4 (.two 5 7 (.q 6 (.e 7 (.q 8 (.e 9 .nil)))) (.q 8 (.e 5 (.q 6 (.e 9 .nil)))))))))) (by kernel_rfl) (by kernel_rfl) ?_
    refine SX.val rfl (Val.move rfl) (by first | (simp [mids, It.mids, ownPc, mapPc]; done) | (intro k hk; simp [mids, It.mids, ownPc, mapPc, mapAtPc] at hk ⊢; grind)) rfl rfl ?_
    refine SX.val rfl (Val.nilCheck rfl) (by first | (simp [mids, It.mids, ownPc, mapPc]; done) | (intro k hk; simp [mids, It.mids, ownPc, mapPc, mapAtPc] at hk ⊢; grind)) rfl rfl ?_
    refine SX.val rfl (Val.fieldAddr tabOk rfl rfl rfl rfl rfl) (by first | (simp [mids, It.mids, ownPc, mapPc]; done) | (intro k hk; simp [mids, It.mids, ownPc, mapPc, mapAtPc] at hk ⊢; grind)) rfl rfl ?_
    refine SX.val rfl (Val.load1 tabOk rfl rfl (by first|(apply Or.inl;(repeat first|assumption|exact m0|apply m1);done)|(apply Or.inr;(repeat first|assumption|exact m0|apply m1);done)) (by first | exact hX.1 | exact hX.2) (by rfl)) (by first | (simp [mids, It.mids, ownPc, mapPc]; done) | (intro k hk; simp [mids, It.mids, ownPc, mapPc, mapAtPc] at hk ⊢; grind)) rfl rfl ?_
    refine SX.val rfl (Val.loadA tabOk rfl rfl rfl (by first|(apply Or.inl;(repeat first|assumption|exact m0|apply m1);done)|(apply Or.inr;(repeat first|assumption|exact m0|apply m1);done)) (by first | exact hX.1 | exact hX.2) (vtC_len _)) (by first | (simp [mids, It.mids, ownPc, mapPc]; done) | (intro k hk; simp [mids, It.mids, ownPc, mapPc, mapAtPc] at hk ⊢; grind)) rfl rfl ?_
    refine SX.two ?_ ?_
    · skip
      first
        | (refine SX.valE rfl (Val.mapGet (a := k) (zv := cntV 0) (C := int ((cget (decO c (some v)) k : Nat) : Int)) vt_fit Try.underlying67 int_zero rfl ?_ List.not_mem_nil rfl (vt_is _) hk (cget_is _ _)) rfl rfl ?_; focus (apply Or.inl; (repeat first|assumption|exact m0|apply m1); done))
        | (refine SX.valE rfl (Val.mapGetAt (a := k) (a' := k) (s := s54) (zv := cntV 0) (C := int ((cget (decO c (some v)) k : Nat) : Int)) vt_fit Try.underlying67 int_zero rfl ?_ rfl (vt_is _) hk (cget_ent_is _ _)) rfl rfl ?_; focus ((repeat first|assumption|exact m0|apply m1); done))
      refine SX.val rfl (Val.to (C := int ((cget (decO c (some v)) k + 1 : Nat) : Int)) (Val.addI rfl rfl (by have := hti.dec_le (aget m who) k; rw [hv] at this; have e : cget (decO c (some v)) k ≤ m.length := this; simp only [InR, lo, hi]; omega)) (congrArg int (by omega))) (by first | (simp [mids, It.mids, ownPc, mapPc]; done) | (intro k hk; simp [mids, It.mids, ownPc, mapPc, mapAtPc] at hk ⊢; grind)) rfl rfl ?_
      refine SX.eff rfl (Eff.mapEntry (a := k) (zv := 0) (V := cntV) (C := int ((cget (decO c (some v)) k : Nat) : Int)) vt_fit Try.underlying67 int_zero rfl (fun s => (by repeat first|assumption|exact Upd.here|apply Upd.there)) rfl (vt_is _) hk (cget_is _ _)) (by simp) rfl rfl ?_
      rintro _ _ ⟨s54, rfl, rfl⟩
      refine SX.val rfl (Val.extract rfl rfl) (by first | (simp [mids, It.mids, ownPc, mapPc]; done) | (intro k hk; simp [mids, It.mids, ownPc, mapPc, mapAtPc] at hk ⊢; grind)) rfl rfl ?_
      refine SX.eff rfl (Eff.entryStore (v := cget (decO c (some v)) k + 1) (m' := aput (decO c (some v)) k (cget (decO c (some v)) k + 1)) rfl (by repeat first|assumption|exact Upd.here|apply Upd.there) rfl rfl is_v (aput_aent _ _ _ _)) (by simp) rfl rfl ?_
      rintro _ _ ⟨rfl, rfl⟩
      refine SX.nil ?_
      refine SE.finN (rs := []) rfl RV.nil (()) (by rw [chgC_old hv]; repeat (first | exact List.nil_sublist _ | exact List.Sublist.refl _ | apply List.Sublist.cons_cons | apply List.Sublist.cons)) (by simp [It.rids]) ?_
      exact rfl
    · skip
      refine SX.eff rfl (Eff.mapEntry (a := k) (zv := 0) (V := cntV) (C := int ((cget (decO c (some v)) k : Nat) : Int)) vt_fit Try.underlying67 int_zero rfl (fun s => (by repeat first|assumption|exact Upd.here|apply Upd.there)) rfl (vt_is _) hk (cget_is _ _)) (by simp) rfl rfl ?_
      rintro _ _ ⟨s54, rfl, rfl⟩
      refine SX.val rfl (Val.extract rfl rfl) (by first | (simp [mids, It.mids, ownPc, mapPc]; done) | (intro k hk; simp [mids, It.mids, ownPc, mapPc, mapAtPc] at hk ⊢; grind)) rfl rfl ?_
      first
        | (refine SX.valE rfl (Val.mapGet (a := k) (zv := cntV 0) (C := int ((cget (decO c (some v)) k : Nat) : Int)) vt_fit Try.underlying67 int_zero rfl ?_ List.not_mem_nil rfl (vt_is _) hk (cget_is _ _)) rfl rfl ?_; focus (apply Or.inl; (repeat first|assumption|exact m0|apply m1); done))
        | (refine SX.valE rfl (Val.mapGetAt (a := k) (a' := k) (s := s54) (zv := cntV 0) (C := int ((cget (decO c (some v)) k : Nat) : Int)) vt_fit Try.underlying67 int_zero rfl ?_ rfl (vt_is _) hk (cget_ent_is _ _)) rfl rfl ?_; focus ((repeat first|assumption|exact m0|apply m1); done))
      refine SX.val rfl (Val.to (C := int ((cget (decO c (some v)) k + 1 : Nat) : Int)) (Val.addI rfl rfl (by have := hti.dec_le (aget m who) k; rw [hv] at this; have e : cget (decO c (some v)) k ≤ m.length := this; simp only [InR, lo, hi]; omega)) (congrArg int (by omega))) (by first | (simp [mids, It.mids, ownPc, mapPc]; done) | (intro k hk; simp [mids, It.mids, ownPc, mapPc, mapAtPc] at hk ⊢; grind)) rfl rfl ?_
      refine SX.eff rfl (Eff.entryStore (v := cget (decO c (some v)) k + 1) (m' := aput (decO c (some v)) k (cget (decO c (some v)) k + 1)) rfl (by repeat first|assumption|exact Upd.here|apply Upd.there) rfl rfl is_v (aput_aent _ _ _ _)) (by simp) rfl rfl ?_
      rintro _ _ ⟨rfl, rfl⟩
      refine SX.nil ?_
      refine SE.finN (rs := []) rfl RV.nil (()) (by rw [chgC_old hv]; repeat (first | exact List.nil_sublist _ | exact List.Sublist.refl _ | apply List.Sublist.cons_cons | apply List.Sublist.cons)) (by simp [It.rids]) ?_
      exact rfl
set_option maxHeartbeats 2000000 in
theorem vt_addO_s (hw : intOk who) (hti : TInv m c) (hl : m.length ≤ 1000)  (hk : vtOk k) (hok : ∀ w v, aget m w = some v → vtOk v) (hv : aget m who = some v) : Spec Try.prog 8 [ptr t, int who, vtE k] [.blk t 69 [mapV bv, mapV bn], .pc (mapPc bv intK vtV intOk m), .pc (mapPc bn vtV cntV vtOk c)] (fun _ : Unit => [.blk t 69 [mapV bv, mapV bn], .pc (mapPc bv intK vtV intOk m), .pc (mapPc bn vtV cntV vtOk c)]) (fun _ => boo (decide (v = k))) := by
  refine spec_of Try.func8 rfl Try.ntmps8 rfl fun G w => ?_
  refine SC.seq (SC.region ?_)
  refine SL.eff (Eff.boxA (cs := vtC k) rfl) rfl rfl ?_
  rintro _ _ ⟨b5, rfl, rfl⟩
  refine SL.val (Val.assign rfl) rfl rfl ?_
  refine SL.nil (SE.seq ?_)
  refine SC.seq ?_
  refine SC.seq (SC.region ?_)
  refine SL.val (Val.move rfl) rfl rfl ?_
  refine SL.val (Val.eqP rfl rfl (by kernel_rfl)) rfl rfl ?_
  refine SL.nil (SE.seq ?_)
  refine SC.condF rfl ?_
  refine SC.skip ?_
  refine SE.seq ?_
  refine SC.seq ?_
  refine SC.seq (SC.region ?_)
  refine SL.val (Val.move rfl) rfl rfl ?_
  refine SL.val (Val.nilCheck rfl) rfl rfl ?_
  refine SL.val (Val.fieldAddr tabOk rfl rfl rfl rfl rfl) rfl rfl ?_
  refine SL.val (Val.load1 tabOk rfl rfl (by first|(apply Or.inl;(repeat first|assumption|exact m0|apply m1);done)|(apply Or.inr;(repeat first|assumption|exact m0|apply m1);done)) List.not_mem_nil (by rfl)) rfl rfl ?_
  refine SL.val (Val.move rfl) rfl rfl ?_
  refine SL.val (Val.to (C := .tup [.agg (vtC v), boo true]) (Val.mapGetOk (a := who) (zv := (vtV vt0)) (C := vtA (aget m who)) (int_fit Try.underlying3) Try.underlying66 vt_zero rfl (by first|(apply Or.inl;(repeat first|assumption|exact m0|apply m1);done)|(apply Or.inr;(repeat first|assumption|exact m0|apply m1);done)) List.not_mem_nil rfl is_v hw (vtA_is _)) (by rw [hv]; rfl)) rfl rfl ?_
  refine SL.val (Val.move rfl) rfl rfl ?_
  refine SL.val (Val.extract rfl rfl) rfl rfl ?_
  refine SL.val (Val.extract rfl rfl) rfl rfl ?_
  refine SL.eff (Eff.alloc tabOk rfl) rfl rfl ?_
  rintro _ _ ⟨b7, rfl, rfl⟩
  refine SL.eff (Eff.store (L' := (vtC v)) tabOk rfl rfl rfl (by repeat first|assumption|exact Upd.here|apply Upd.there) (by exact (vtC_len _)) (Nat.le_of_ble_eq_true (by rfl)) (by exact (vtC_ones _)) (putL_whole (by exact (vtC_len _)))) rfl rfl ?_
  rintro _ _ ⟨rfl, rfl⟩
  refine SL.val (Val.assign rfl) rfl rfl ?_
  refine SL.nil (SE.seq ?_)
  refine SC.seq (SC.region ?_)
  refine SL.val (Val.move rfl) rfl rfl ?_
  refine SL.nil (SE.seq ?_)
  refine SC.condT rfl ?_
  refine SC.seq (SC.region ?_)
  refine SL.val (Val.loadA tabOk rfl rfl rfl (by first|(apply Or.inl;(repeat first|assumption|exact m0|apply m1);done)|(apply Or.inr;(repeat first|assumption|exact m0|apply m1);done)) List.not_mem_nil (vtC_len _)) rfl rfl ?_
  refine SL.val (Val.loadA tabOk rfl rfl rfl (by first|(apply Or.inl;(repeat first|assumption|exact m0|apply m1);done)|(apply Or.inr;(repeat first|assumption|exact m0|apply m1);done)) List.not_mem_nil (vtC_len _)) rfl rfl ?_
  refine SL.val (Val.eqA rfl rfl (vt_plains v) (vt_plains k) (by kernel_rfl) (eqVt (hok _ _ hv) hk)) rfl rfl ?_
  refine SL.val (Val.assign rfl) rfl rfl ?_
  refine SL.nil (SE.seq ?_)
  refine SC.ret ?_
  refine SE.then_ (by intro h; cases h) ?_
  refine SE.fin (rs := [.tmp 6]) rfl (RV.tmp rfl RV.nil) (()) (by repeat first|exact s0 _|exact s1 _|apply s2|apply s3) (by simp [It.rids]) ?_
  exact rfl
set_option maxHeartbeats 2000000 in
theorem vt_addN_s (hw : intOk who) (hti : TInv m c) (hl : m.length ≤ 1000)  (hk : vtOk k) (hok : ∀ w v, aget m w = some v → vtOk v) (hv : aget m who = none) : Spec Try.prog 8 [ptr t, int who, vtE k] [.blk t 69 [mapV bv, mapV bn], .pc (mapPc bv intK vtV intOk m), .pc (mapPc bn vtV cntV vtOk c)] (fun _ : Unit => [.blk t 69 [mapV bv, mapV bn], .pc (mapPc bv intK vtV intOk (aput m who k)), .pc (mapPc bn vtV cntV vtOk (chgC m c who k))]) (fun _ => boo true) := by
  refine spec_of Try.func8 rfl Try.ntmps8 rfl fun G w => ?_
  refine SC.seq (SC.region ?_)
  refine SL.eff (Eff.boxA (cs := vtC k) rfl) rfl rfl ?_
  rintro _ _ ⟨b5, rfl, rfl⟩
  refine SL.val (Val.assign rfl) rfl rfl ?_
  refine SL.nil (SE.seq ?_)
  refine SC.seq ?_
  refine SC.seq (SC.region ?_)
  refine SL.val (Val.move rfl) rfl rfl ?_
  refine SL.val (Val.eqP rfl rfl (by kernel_rfl)) rfl rfl ?_
  refine SL.nil (SE.seq ?_)
  refine SC.condF rfl ?_
  refine SC.skip ?_
  refine SE.seq ?_
  refine SC.seq ?_
  refine SC.seq (SC.region ?_)
  refine SL.val (Val.move rfl) rfl rfl ?_
  refine SL.val (Val.nilCheck rfl) rfl rfl ?_
  refine SL.val (Val.fieldAddr tabOk rfl rfl rfl rfl rfl) rfl rfl ?_
  refine SL.val (Val.load1 tabOk rfl rfl (by first|(apply Or.inl;(repeat first|assumption|exact m0|apply m1);done)|(apply Or.inr;(repeat first|assumption|exact m0|apply m1);done)) List.not_mem_nil (by rfl)) rfl rfl ?_
  refine SL.val (Val.move rfl) rfl rfl ?_
  refine SL.val (Val.to (C := .tup [.agg vtZ, boo false]) (Val.mapGetOk (a := who) (zv := (vtV vt0)) (C := vtA (aget m who)) (int_fit Try.underlying3) Try.underlying66 vt_zero rfl (by first|(apply Or.inl;(repeat first|assumption|exact m0|apply m1);done)|(apply Or.inr;(repeat first|assumption|exact m0|apply m1);done)) List.not_mem_nil rfl is_v hw (vtA_is _)) (by rw [hv]; rfl)) rfl rfl ?_
  refine SL.val (Val.move rfl) rfl rfl ?_
  refine SL.val (Val.extract rfl rfl) rfl rfl ?_
  refine SL.val (Val.extract rfl rfl) rfl rfl ?_
  refine SL.eff (Eff.alloc tabOk rfl) rfl rfl ?_
  rintro _ _ ⟨b7, rfl, rfl⟩
  refine SL.eff (Eff.store (L' := vtZ) tabOk rfl rfl rfl (by repeat first|assumption|exact Upd.here|apply Upd.there) (by exact rfl) (Nat.le_of_ble_eq_true (by rfl)) (by exact rfl) (putL_whole (by exact rfl))) rfl rfl ?_
  rintro _ _ ⟨rfl, rfl⟩
  refine SL.val (Val.assign rfl) rfl rfl ?_
  refine SL.nil (SE.seq ?_)
  refine SC.seq (SC.region ?_)
  refine SL.val (Val.move rfl) rfl rfl ?_
  refine SL.nil (SE.seq ?_)
  refine SC.condF rfl ?_
  refine SC.skip ?_
  refine SE.seq ?_
  refine SC.seq (SC.region ?_)
  refine SL.val (Val.move rfl) rfl rfl ?_
  refine SL.val (Val.move rfl) rfl rfl ?_
  refine SL.val (Val.loadA tabOk rfl rfl rfl (by first|(apply Or.inl;(repeat first|assumption|exact m0|apply m1);done)|(apply Or.inr;(repeat first|assumption|exact m0|apply m1);done)) List.not_mem_nil (vtC_len _)) rfl rfl ?_
  refine SL.call (vt_changeN_s (t := t) (bv := bv) (bn := bn) (k := k) hw hti hl hk hok hv) Casts.refl (by kernel_rfl) rfl rfl rfl ?_
  refine After.three3 ⟨rfl, rfl, rfl⟩ (fun _ => rfl) ?_
  intro _
  refine SL.nil (SE.seq ?_)
  refine SC.seq (SC.region ?_)
  refine SL.val (Val.assign rfl) rfl rfl ?_
  refine SL.nil (SE.seq ?_)
  refine SC.ret ?_
  refine SE.fin (rs := [.tmp 6]) rfl (RV.tmp rfl RV.nil) (()) (by repeat first|exact s0 _|exact s1 _|apply s2|apply s3) (by simp [It.rids]) ?_
  exact rfl
set_option maxHeartbeats 2000000 in
theorem vt_least_s (hl : m.length ≤ 1000) (hmok : ∀ w ∈ m.map (·.1), intOk w) (hok : ∀ w v, aget m w = some v → vtOk v) : Spec Try.prog 11 [ptr t, int at_] [.blk t 69 [mapV bv, mapV bn], .pc (mapPc bv intK vtV intOk m), .pc (mapPc bn vtV cntV vtOk c)] (fun _ : Unit => [.blk t 69 [mapV bv, mapV bn], .pc (mapPc bv intK vtV intOk m), .pc (mapPc bn vtV cntV vtOk c)]) (fun _ => .tup [vtA (leastO m c at_ (srt (m.map (·.1)))), boo (leastO m c at_ (srt (m.map (·.1)))).isSome]) := by
  have hsl : (srt (m.map (·.1))).length = m.length := by rw [srt_length, List.length_map]
  refine spec_of Try.func11 rfl Try.ntmps11 rfl fun G w => ?_
  refine SC.seq (SC.region ?_)
  refine SL.eff (Eff.alloc tabOk rfl) rfl rfl ?_
  rintro _ _ ⟨b4, rfl, rfl⟩
  refine SL.val (Val.assign rfl) rfl rfl ?_
  refine SL.nil (SE.seq ?_)
  refine SC.seq ?_
  refine SC.seq (SC.region ?_)
  refine SL.val (Val.move rfl) rfl rfl ?_
  refine SL.call (vt_voters_s (t := t) (bv := bv) (bn := bn) (m := m) (c := c) hl) Casts.refl (by kernel_rfl) rfl rfl rfl ?_
  refine After.threeN1 ⟨rfl, rfl, rfl⟩ (fun _ => rfl) ?_
  intro r11
  refine SL.freeze [_] (t := 11) rfl rfl ?_
  first
    | refine SL.val (Val.lenSl rfl Try.underlying41 (List.length_map _)) rfl rfl ?_
    | refine SL.val (Val.lenOwn rfl (by repeat first|assumption|exact m0|apply m1) Try.underlying41 (List.length_map _)) rfl rfl ?_
    | refine SL.val (Val.lenNil rfl Try.underlying41) rfl rfl ?_
  refine SL.val (Val.move rfl) rfl rfl ?_
  refine SL.nil (SE.seq ?_)
  refine SC.block ?_
  refine SC.loop (ι := Nat) (fun z => [.blk b4 29 vtZ, .blk t 69 [mapV bv, mapV bn], .pc (mapPc bv intK vtV intOk m), .pc (mapPc bn vtV cntV vtOk c)]) (fun z => [(0, ptr t), (1, int at_), (4, ptr b4), (11, ints (srt (m.map (·.1)))), (12, int ((srt (m.map (·.1))).length : Nat)), (13, int (z : Nat))]) (fun z => z ≤ (srt (m.map (·.1))).length ∧ ∀ j (h : j < (srt (m.map (·.1))).length), j < z → ∀ v, aget m (srt (m.map (·.1)))[j] = some v → ¬ (1 ≤ at_ ∧ at_ ≤ cget c v)) (fun z => (srt (m.map (·.1))).length - z) (0) (⟨Nat.zero_le _, fun j h hj => by omega⟩) (by exact ⟨rfl, rfl, rfl, rfl, rfl, rfl, trivial⟩) (by repeat first|exact s0 _|exact s1 _|apply s2|apply s3) ?_
  intro z hz
  refine SC.seq (SC.region ?_)
  refine SL.val (Val.ltI rfl rfl) rfl rfl ?_
  refine SL.nil (SE.seq ?_)
  refine SC.seq ?_
  refine SC.condP rfl ?_ ?_
  rotate_left
  · intro hc14
    refine SC.exit ?_
    refine SE.then_ (by intro h; cases h) ?_
    refine SE.then_ (by intro h; cases h) ?_
    refine SE.exit ?_
    refine SE.seq ?_
    refine SC.seq (SC.region ?_)
    refine SL.eff (Eff.alloc tabOk rfl) rfl rfl ?_
    rintro _ _ ⟨b9, rfl, rfl⟩
    refine SL.nil (SE.seq ?_)
    refine SC.seq (SC.region ?_)
    refine SL.val (Val.to (C := .agg vtZ) (Val.loadA tabOk rfl rfl rfl (by first|(apply Or.inl;(repeat first|assumption|exact m0|apply m1);done)|(apply Or.inr;(repeat first|assumption|exact m0|apply m1);done)) List.not_mem_nil rfl) rfl) rfl rfl ?_
    refine SL.eff (Eff.store (L' := vtZ) tabOk rfl rfl rfl (by repeat first|assumption|exact Upd.here|apply Upd.there) (by exact rfl) (Nat.le_of_ble_eq_true (by rfl)) (by exact rfl) (putL_whole (by exact rfl))) rfl rfl ?_
    rintro _ _ ⟨rfl, rfl⟩
    refine SL.val (Val.assign rfl) rfl rfl ?_
    refine SL.nil (SE.seq ?_)
    refine SC.ret ?_
    have hle : leastO m c at_ (srt (m.map (·.1))) = none := by
      rw [leastO_drop hz.2, List.drop_eq_nil_of_le (by omega)]
      rfl
    refine SE.fin (rs := [.cell 4 29, .tmp 5]) rfl (RV.cell rfl (RV.cellA tabOk rfl rfl (by first|(apply Or.inl;(repeat first|assumption|exact m0|apply m1);done)|(apply Or.inr;(repeat first|assumption|exact m0|apply m1);done)) (by rfl)) (RV.tmp rfl RV.nil)) (()) (by repeat first|exact s0 _|exact s1 _|apply s2|apply s3) (by simp [It.rids]) ?_
    rw [hle]
    rfl
  intro hc14
  have hlt : z < (srt (m.map (·.1))).length := by omega
  have hin : (srt (m.map (·.1)))[z] ∈ m.map (·.1) := (srt_perm _).mem_iff.1 (List.getElem_mem hlt)
  obtain ⟨v, hv⟩ := isSome_some ((aget_isSome m (srt (m.map (·.1)))[z]).2 hin)
  have hwz := hmok _ hin
  refine SC.skip ?_
  refine SE.seq ?_
  refine SC.seq ?_
  refine SC.block ?_
  refine SC.seq (SC.region ?_)
  refine SL.val (Val.indexSl tabOk Try.underlying41 rfl rfl rfl rfl (at_map (by omega)) rfl rfl) rfl rfl ?_
  refine SL.val (Val.to (C := int ((srt (m.map (·.1)))[z]'hlt)) (Val.load1R tabOk rfl rfl rfl) rfl) rfl rfl ?_
  refine SL.val (Val.assign rfl) rfl rfl ?_
  refine SL.nil (SE.seq ?_)
  refine SC.seq (SC.region ?_)
  refine SL.val (Val.move rfl) rfl rfl ?_
  refine SL.val (Val.nilCheck rfl) rfl rfl ?_
  refine SL.val (Val.fieldAddr tabOk rfl rfl rfl rfl rfl) rfl rfl ?_
  refine SL.val (Val.load1 tabOk rfl rfl (by first|(apply Or.inl;(repeat first|assumption|exact m0|apply m1);done)|(apply Or.inr;(repeat first|assumption|exact m0|apply m1);done)) List.not_mem_nil (by rfl)) rfl rfl ?_
  refine SL.val (Val.move rfl) rfl rfl ?_
  refine SL.val (Val.to (C := .agg (vtC v)) (Val.mapGet (a := (srt (m.map (·.1)))[z]) (zv := (vtV vt0)) (C := vtA (aget m (srt (m.map (·.1)))[z])) (int_fit Try.underlying3) Try.underlying66 vt_zero rfl (by first|(apply Or.inl;(repeat first|assumption|exact m0|apply m1);done)|(apply Or.inr;(repeat first|assumption|exact m0|apply m1);done)) List.not_mem_nil rfl is_v hwz (vtA_is _)) (by rw [hv]; rfl)) rfl rfl ?_
  refine SL.eff (Eff.alloc tabOk rfl) rfl rfl ?_
  rintro _ _ ⟨b8, rfl, rfl⟩
  refine SL.eff (Eff.store (L' := (vtC v)) tabOk rfl rfl rfl (by repeat first|assumption|exact Upd.here|apply Upd.there) (by exact (vtC_len _)) (Nat.le_of_ble_eq_true (by rfl)) (by exact (vtC_ones _)) (putL_whole (by exact (vtC_len _)))) rfl rfl ?_
  rintro _ _ ⟨rfl, rfl⟩
  refine SL.nil (SE.seq ?_)
  refine SC.seq ?_
  refine SC.draw [] (.q 0 (.q 1 (.q 2 (.q 3 (.q 4 (.q 5 (.q 6 (.q 7 (.q 8 (.q 9 (.q 10 (.q 11 .nil)))))))))))) (by kernel_rfl) (by kernel_rfl) ?_
  refine SX.val rfl (Val.move rfl) (by simp) rfl rfl ?_
  refine SX.val rfl (Val.geI rfl rfl) (by simp) rfl rfl ?_
  refine SX.val rfl (Val.move rfl) (by simp) rfl rfl ?_
  refine SX.bothP (t := 25) rfl ?_ ?_
  rotate_left
  · intro hc25
    iterate 8 refine SX.skip rfl rfl rfl ?_
    refine SX.val rfl (Val.pickF rfl rfl) (by simp) rfl rfl ?_
    refine SX.nil (SE.seq ?_)
    refine SC.condF rfl ?_
    refine SC.skip ?_
    refine SE.inBlock ?_
    refine SE.seq ?_
    refine SC.region ?_
    first
      | refine SL.val (Val.addI rfl rfl (by simp only [InR, lo, hi]; omega)) rfl rfl ?_
      | refine SL.val (Val.addW rfl rfl) rfl rfl ?_
    refine SL.val (Val.move rfl) rfl rfl ?_
    refine SL.nil ?_
    refine SE.round (z + 1) (by first | omega | (dsimp only; omega)) (⟨by omega, fun j h hj u hu => by
          rcases Nat.lt_or_ge j z with h1 | h1
          · exact hz.2 j h h1 u hu
          · obtain rfl : j = z := by omega
            rw [hv] at hu
            cases hu
            first | omega | (simp at *; omega)⟩) (by exact ⟨rfl, rfl, rfl, rfl, rfl, rfl, trivial⟩) (by repeat first|exact s0 _|exact s1 _|apply s2|apply s3)
  intro hc25
  refine SX.val rfl (Val.move rfl) (by simp) rfl rfl ?_
  refine SX.val rfl (Val.nilCheck rfl) (by simp) rfl rfl ?_
  refine SX.val rfl (Val.fieldAddr tabOk rfl rfl rfl rfl rfl) (by simp) rfl rfl ?_
  refine SX.val rfl (Val.load1 tabOk rfl rfl (by first|(apply Or.inl;(repeat first|assumption|exact m0|apply m1);done)|(apply Or.inr;(repeat first|assumption|exact m0|apply m1);done)) List.not_mem_nil (by rfl)) (by simp) rfl rfl ?_
  refine SX.val rfl (Val.loadA tabOk rfl rfl rfl (by first|(apply Or.inl;(repeat first|assumption|exact m0|apply m1);done)|(apply Or.inr;(repeat first|assumption|exact m0|apply m1);done)) List.not_mem_nil (vtC_len _)) (by first | (simp [mids, It.mids, ownPc, mapPc]; done) | (intro k hk; simp [mids, It.mids, ownPc, mapPc, mapAtPc] at hk ⊢; grind)) rfl rfl ?_
  refine SX.val rfl (Val.mapGet (a := v) (zv := cntV 0) (C := int ((cget c v : Nat) : Int)) vt_fit Try.underlying67 int_zero rfl (by first|(apply Or.inl;(repeat first|assumption|exact m0|apply m1);done)|(apply Or.inr;(repeat first|assumption|exact m0|apply m1);done)) List.not_mem_nil rfl (vt_is _) (hok _ _ hv) (cget_is _ _)) (by first | (simp [mids, It.mids, ownPc, mapPc]; done) | (intro k hk; simp [mids, It.mids, ownPc, mapPc, mapAtPc] at hk ⊢; grind)) rfl rfl ?_
  refine SX.val rfl (Val.move rfl) (by simp) rfl rfl ?_
  refine SX.val rfl (Val.geI rfl rfl) (by simp) rfl rfl ?_
  refine SX.val rfl (Val.pickT rfl rfl) (by simp) rfl rfl ?_
  refine SX.nil (SE.seq ?_)
  refine SC.condP rfl ?_ ?_
  rotate_left
  · intro hc34
    refine SC.skip ?_
    refine SE.inBlock ?_
    refine SE.seq ?_
    refine SC.region ?_
    first
      | refine SL.val (Val.addI rfl rfl (by simp only [InR, lo, hi]; omega)) rfl rfl ?_
      | refine SL.val (Val.addW rfl rfl) rfl rfl ?_
    refine SL.val (Val.move rfl) rfl rfl ?_
    refine SL.nil ?_
    refine SE.round (z + 1) (by first | omega | (dsimp only; omega)) (⟨by omega, fun j h hj u hu => by
          rcases Nat.lt_or_ge j z with h1 | h1
          · exact hz.2 j h h1 u hu
          · obtain rfl : j = z := by omega
            rw [hv] at hu
            cases hu
            first | omega | (simp at *; omega)⟩) (by exact ⟨rfl, rfl, rfl, rfl, rfl, rfl, trivial⟩) (by repeat first|exact s0 _|exact s1 _|apply s2|apply s3)
  intro hc34
  refine SC.seq (SC.region ?_)
  refine SL.val (Val.loadA tabOk rfl rfl rfl (by first|(apply Or.inl;(repeat first|assumption|exact m0|apply m1);done)|(apply Or.inr;(repeat first|assumption|exact m0|apply m1);done)) List.not_mem_nil (vtC_len _)) rfl rfl ?_
  refine SL.eff (Eff.store (L' := (vtC v)) tabOk rfl rfl rfl (by repeat first|assumption|exact Upd.here|apply Upd.there) (by exact (vtC_len _)) (Nat.le_of_ble_eq_true (by rfl)) (by exact (vtC_ones _)) (putL_whole (by exact (vtC_len _)))) rfl rfl ?_
  rintro _ _ ⟨rfl, rfl⟩
  refine SL.val (Val.assign rfl) rfl rfl ?_
  refine SL.nil (SE.seq ?_)
  refine SC.ret ?_
  refine SE.ret ?_
  refine SE.then_ (by intro h; cases h) ?_
  refine SE.then_ (by intro h; cases h) ?_
  refine SE.ret ?_
  refine SE.then_ (by intro h; cases h) ?_
  have hle : leastO m c at_ (srt (m.map (·.1))) = some v := by
    rw [leastO_drop hz.2, List.drop_eq_getElem_cons hlt, leastO_cons, hv]
    exact if_pos (by omega)
  refine SE.fin (rs := [.cell 4 29, .tmp 5]) rfl (RV.cell rfl (RV.cellA tabOk rfl rfl (by first|(apply Or.inl;(repeat first|assumption|exact m0|apply m1);done)|(apply Or.inr;(repeat first|assumption|exact m0|apply m1);done)) ((vtC_len _))) (RV.tmp rfl RV.nil)) (()) (by repeat first|exact s0 _|exact s1 _|apply s2|apply s3) (by simp [It.rids]) ?_
  rw [hle]
  rfl
end
end Go.Proofs.Ytonceioajbimaaa.A
/-
  Sums: what the program's rounds come to, as plain functions on words.
-/
set_option maxRecDepth 100000
set_option linter.unusedSimpArgs false
set_option linter.unusedVariables false
namespace Go.Proofs.Ytonceioajbimaaa.A
open Go.RowKit

abbrev bs (l : List UInt8) : List (List Abs) := l.map fun b => [Abs.v (bc b)]
def rot (x : Wo) (n : Nat) : Wo := x >>> n ||| x <<< (32 - n)
def mixW (x : Wo) (a b c : Nat) : Wo := rot x a ^^^ rot x b ^^^ rot x c
def byW (l : List UInt8) (i : Nat) : Wo := BitVec.ofNat 32 (l.getD i 0).toNat
def wordAt (l : List UInt8) (i : Nat) : Wo := byW l (4 * i + 0) <<< 24 ||| byW l (4 * i + 1) <<< 16 ||| byW l (4 * i + 2) <<< 8 ||| byW l (4 * i + 3)
def nextW (l : List Wo) (z : Nat) : Wo := l.getD z 0 + (rot (l.getD (z + 1) 0) 7 ^^^ rot (l.getD (z + 1) 0) 18 ^^^ l.getD (z + 1) 0 >>> 3) + l.getD (z + 9) 0 + (rot (l.getD (z + 14) 0) 17 ^^^ rot (l.getD (z + 14) 0) 19 ^^^ l.getD (z + 14) 0 >>> 10)
def sched0 (l : List UInt8) (k : Nat) : List Wo := (List.range k).map (wordAt l)
def grow (l : List Wo) : Nat → List Wo
  | 0 => l
  | k + 1 => grow l k ++ [nextW (grow l k) k]
def sched (l : List UInt8) : List Wo := grow (sched0 l 16) 48
def firstL : List Wo := [0x6a09e667#32, 0xbb67ae85#32, 0x3c6ef372#32, 0xa54ff53a#32, 0x510e527f#32, 0x9b05688c#32, 0x1f83d9ab#32, 0x5be0cd19#32]
def roundsL : List Wo := [0x428a2f98#32, 0x71374491#32, 0xb5c0fbcf#32, 0xe9b5dba5#32, 0x3956c25b#32, 0x59f111f1#32, 0x923f82a4#32, 0xab1c5ed5#32, 0xd807aa98#32, 0x12835b01#32, 0x243185be#32, 0x550c7dc3#32, 0x72be5d74#32, 0x80deb1fe#32, 0x9bdc06a7#32, 0xc19bf174#32, 0xe49b69c1#32, 0xefbe4786#32, 0x0fc19dc6#32, 0x240ca1cc#32, 0x2de92c6f#32, 0x4a7484aa#32, 0x5cb0a9dc#32, 0x76f988da#32, 0x983e5152#32, 0xa831c66d#32, 0xb00327c8#32, 0xbf597fc7#32, 0xc6e00bf3#32, 0xd5a79147#32, 0x06ca6351#32, 0x14292967#32, 0x27b70a85#32, 0x2e1b2138#32, 0x4d2c6dfc#32, 0x53380d13#32, 0x650a7354#32, 0x766a0abb#32, 0x81c2c92e#32, 0x92722c85#32, 0xa2bfe8a1#32, 0xa81a664b#32, 0xc24b8b70#32, 0xc76c51a3#32, 0xd192e819#32, 0xd6990624#32, 0xf40e3585#32, 0x106aa070#32, 0x19a4c116#32, 0x1e376c08#32, 0x2748774c#32, 0x34b0bcb5#32, 0x391c0cb3#32, 0x4ed8aa4a#32, 0x5b9cca4f#32, 0x682e6ff3#32, 0x748f82ee#32, 0x78a5636f#32, 0x84c87814#32, 0x8cc70208#32, 0x90befffa#32, 0xa4506ceb#32, 0xbef9a3f7#32, 0xc67178f2#32]
structure R8 where
  (a0 a1 a2 a3 e0 e1 e2 e3 : Wo)
def R8.a (r : R8) : List Wo := [r.a0, r.a1, r.a2, r.a3]
def R8.e (r : R8) : List Wo := [r.e0, r.e1, r.e2, r.e3]
def R8.l (r : R8) : List Wo := [r.a0, r.a1, r.a2, r.a3, r.e0, r.e1, r.e2, r.e3]
def firstR : R8 := ⟨0x6a09e667#32, 0xbb67ae85#32, 0x3c6ef372#32, 0xa54ff53a#32, 0x510e527f#32, 0x9b05688c#32, 0x1f83d9ab#32, 0x5be0cd19#32⟩
def t1W (r : R8) (k w : Wo) : Wo := r.e3 + mixW r.e0 6 11 25 + (r.e2 ^^^ (r.e0 &&& (r.e1 ^^^ r.e2))) + k + w
def t2W (r : R8) : Wo := mixW r.a0 2 13 22 + ((r.a0 &&& r.a1) ^^^ (r.a0 &&& r.a2) ^^^ (r.a1 &&& r.a2))
def rnd (r : R8) (k w : Wo) : R8 := ⟨t1W r k w + t2W r, r.a0, r.a1, r.a2, r.a3 + t1W r k w, r.e0, r.e1, r.e2⟩
def rnds (r : R8) (ws : List Wo) : Nat → R8
  | 0 => r
  | i + 1 => rnd (rnds r ws i) (roundsL.getD i 0) (ws.getD i 0)
def R8.add (r s : R8) : R8 := ⟨r.a0 + s.a0, r.a1 + s.a1, r.a2 + s.a2, r.a3 + s.a3, r.e0 + s.e0, r.e1 + s.e1, r.e2 + s.e2, r.e3 + s.e3⟩
def blockW (r : R8) (l : List UInt8) : R8 := r.add (rnds r (sched l) 64)
def addL (r s : R8) (z : Nat) : List Wo := [if 0 < z then r.a0 + s.a0 else r.a0, if 1 < z then r.a1 + s.a1 else r.a1, if 2 < z then r.a2 + s.a2 else r.a2, if 3 < z then r.a3 + s.a3 else r.a3, if 0 < z then r.e0 + s.e0 else r.e0, if 1 < z then r.e1 + s.e1 else r.e1, if 2 < z then r.e2 + s.e2 else r.e2, if 3 < z then r.e3 + s.e3 else r.e3]
def addM (r s : R8) (z : Nat) : List Wo := (addL r s z).set z ((addL r s z).getD z 0 + s.a.getD z 0)
theorem addL_step (r s : R8) {z : Nat} (h : z < 4) : (addM r s z).set (z + 4) ((addM r s z).getD (z + 4) 0 + s.e.getD z 0) = addL r s (z + 1) := by
  rcases z with _ | _ | _ | _ | z
  · rfl
  · rfl
  · rfl
  · rfl
  · omega
theorem addL_length (r s : R8) (z : Nat) : (addL r s z).length = 8 := rfl
theorem addM_length (r s : R8) (z : Nat) : (addM r s z).length = 8 := by simp [addM, addL]
theorem addL_zero (r s : R8) : addL r s 0 = r.l := rfl
theorem addL_four (r s : R8) : addL r s 4 = (r.add s).l := rfl
theorem sched0_length (l : List UInt8) (k : Nat) : (sched0 l k).length = k := by simp [sched0]
theorem sched0_succ (l : List UInt8) (k : Nat) : sched0 l (k + 1) = sched0 l k ++ [wordAt l k] := by simp [sched0, List.range_succ]
theorem grow_length (l : List Wo) (k : Nat) : (grow l k).length = l.length + k := by
  induction k with
  | zero => rfl
  | succ k ih => simp [grow, ih]; omega
theorem sched_length (l : List UInt8) : (sched l).length = 64 := by simp [sched, grow_length, sched0_length]
theorem lA_length (l : List Wo) : (lA l).length = l.length := by simp [lA]
theorem ones_lA (l : List Wo) : ones (lA l) = true := by
  rw [ones_iff]
  intro a ha
  obtain ⟨p, _, rfl⟩ := List.mem_map.1 ha
  rfl
theorem lA_put' {l m : List Wo} {q : Nat} {p : Wo} (h : q < l.length) (e : l.set q p = m) : putL (lA l) (0 + q * 1) [u32 p] = lA m := by rw [lA_put h, e]
theorem lA_at' {l m : List Wo} {q : Nat} (h : q < l.length) : (lA (l ++ m))[0 + q * 1]? = some (u32 (l.getD q 0)) := by
  rw [lA_at (by rw [List.length_append]; omega)]
  congr 2
  simp [List.getD, List.getElem?_append_left h]
theorem set_next' {l : List Wo} {z m q : Nat} {p : Wo} {l2 : List Wo} (hq : l.length = q) (hm : m = z + 1) (h2 : l2 = l ++ [p]) : (l ++ List.replicate m 0).set q p = l2 ++ List.replicate z 0 := by
  subst hq hm h2
  exact set_next (by omega)
theorem byt_at {l : List UInt8} {z j : Nat} (h : 4 * z + j < l.length) : (((l.drop (4 * z)).map fun b => [Abs.v (bc b)])[j]?) = some [.v (bc (l.getD (4 * z + j) 0))] := by
  rw [List.getElem?_map, List.getElem?_drop, List.getElem?_eq_getElem h]
  simp [List.getD, h]
/-- So many blocks of a text. -/
def blocks (r : R8) (l : List UInt8) : Nat → R8
  | 0 => r
  | k + 1 => blockW (blocks r l k) (l.drop (64 * k))
def padded (l : List UInt8) (n : Nat) : List UInt8 := l ++ [128] ++ List.replicate ((119 - l.length) % 64) 0 ++ beBytes (n * 8) 8
theorem padded_length {l : List UInt8} (h : l.length < 64) (n : Nat) : (padded l n).length = if l.length < 56 then 64 else 128 := by
  simp only [padded, List.length_append, List.length_cons, List.length_nil, List.length_replicate, beBytes_length]
  split <;> omega
def byteAt (ws : List Wo) (q : Nat) : UInt8 := UInt8.ofNat (ws.getD (q / 4) 0 >>> (24 - 8 * (q % 4))).toNat
def outN (ws : List Wo) (j : Nat) : List UInt8 := (List.range j).map (byteAt ws) ++ List.replicate (32 - j) 0
theorem outN_length (ws : List Wo) {j : Nat} (h : j ≤ 32) : (outN ws j).length = 32 := by simp [outN]; omega
theorem outN_set (ws : List Wo) {j : Nat} (h : j < 32) : (outN ws j).set j (byteAt ws j) = outN ws (j + 1) := by
  unfold outN
  obtain ⟨m, hm⟩ : ∃ k, 32 - j = k + 1 := ⟨31 - j, by omega⟩
  rw [hm, show 32 - (j + 1) = m by omega, List.range_succ, List.map_append, List.replicate_succ, List.set_append]
  simp
/-- The sum of what was taken in so far. -/
def finish (r : R8) (rest : List UInt8) (n : Nat) : List UInt8 := outN (blocks r (padded rest n) ((padded rest n).length / 64)).l 32
theorem finish_length (r : R8) (rest : List UInt8) (n : Nat) : (finish r rest n).length = 32 := outN_length _ (by omega)
/-- A sum that is under way. -/
structure Sm where
  (r : R8) (rest : List UInt8) (n : Nat)
def Sm.new : Sm := ⟨firstR, [], 0⟩
def Sm.add (s : Sm) (l : List UInt8) : Sm := ⟨blocks s.r (s.rest ++ l) ((s.rest ++ l).length / 64), (s.rest ++ l).drop (64 * ((s.rest ++ l).length / 64)), s.n + l.length⟩
def Sm.sum (s : Sm) : List UInt8 := finish s.r s.rest s.n
def Sm.Ok (s : Sm) : Prop := s.rest.length < 64
theorem Sm.new_ok : Sm.new.Ok := by simp [Sm.Ok, Sm.new]
theorem Sm.add_ok (s : Sm) (l : List UInt8) : (s.add l).Ok := by
  simp only [Sm.Ok, Sm.add, List.length_drop]
  omega
theorem Sm.sum_length (s : Sm) : s.sum.length = 32 := finish_length _ _ _
/-- What stands for a text of a kind, by keys. -/
def kdigest (k : Nat) (l : List UInt8) : List UInt8 := ((Sm.new.add [UInt8.ofNat k]).add l).sum
theorem bs_ones (l : List UInt8) : ∀ c ∈ bs l, ones c = true := by
  intro c hc
  obtain ⟨b, _, rfl⟩ := List.mem_map.1 hc
  rfl
theorem lA_get {l : List Wo} {q : Nat} (h : q < l.length) : (lA l)[q]? = some (u32 (l.getD q 0)) := by
  simp [lA, List.getD, h]
theorem ones_dig (l : List UInt8) : ones (digA l) = true := by
  rw [ones_iff]
  intro a ha
  obtain ⟨p, _, rfl⟩ := List.mem_map.1 ha
  rfl
theorem digA_put {l m : List UInt8} {q : Nat} {c : UInt8} (h : q < l.length) (e : l.set q c = m) : putL (digA l) (0 + q * 1) [.v (bc c)] = digA m := by
  subst e
  rw [Nat.zero_add, Nat.mul_one, putL_set _ _ _ (by simpa [digA] using h)]
  simp [digA, List.map_set]
theorem byteAt_eq (ws : List Wo) {y x : Nat} (h : x < 4) : UInt8.ofNat (ws.getD y 0 >>> (24 - 8 * x)).toNat = byteAt ws (4 * y + x) := by
  unfold byteAt
  rw [show (4 * y + x) / 4 = y by omega, show (4 * y + x) % 4 = x by omega]
theorem dig_out (ws : List Wo) {j : Nat} (h : j ≤ 32) : (digA (outN ws j)).length = 32 := by simp only [digA, List.length_map, outN_length ws h]
theorem pad_snoc (a : List UInt8) (n : Nat) : bs (a ++ ([128] ++ List.replicate n 0)) ++ [[Abs.v (.int .u8 0)]] = bs (a ++ ([128] ++ List.replicate (n + 1) 0)) := by
  rw [List.replicate_succ']
  simp [bs, bc]
/-- The pieces of a sum that is under way. -/
def hashP (T U h : Nat) (v : Value) (s : Sm) : Blks := [own U 1 v (bs s.rest), .blk h T (lA s.r.l ++ [.v v, .v (.int .i64 (s.n : Nat))])]
theorem part8 (r : R8) (x : List Abs) : part (lA r.l ++ x) 0 8 = lA r.l := rfl
theorem put8 (r s : R8) (x : List Abs) : putL (lA r.l ++ x) 0 (lA s.l) = lA s.l ++ x := rfl
theorem l8 (r : R8) : (lA r.l).length = 8 := rfl
theorem l8x (r : R8) (x : List Abs) : (lA r.l ++ x).length = 8 + x.length := by rw [List.length_append, l8]
theorem bs_drop (l : List UInt8) (q : Nat) : Abs.sl 1 ((bs l).drop q) = byt (l.drop q) := congrArg (Abs.sl 1) List.map_drop.symm
theorem drop64 (l : List UInt8) (z : Nat) : Abs.sl 1 ((bs (l.drop (64 * z))).drop 64) = byt (l.drop (64 * (z + 1))) := by
  rw [bs_drop, List.drop_drop]
  rfl
end Go.Proofs.Ytonceioajbimaaa.A
/-
  Sums: what the document's answer comes to, as plain functions; the same as the program's.
-/
set_option maxRecDepth 100000
set_option linter.unusedSimpArgs false
set_option linter.unusedVariables false
namespace Go.Proofs.Ytonceioajbimaaa.A
open Go.RowKit

def an64 (x y : Nat) : Nat := (x % 18446744073709551616) &&& (y % 18446744073709551616)
def or64 (x y : Nat) : Nat := (x % 18446744073709551616) ||| (y % 18446744073709551616)
section
variable {P : Program} {n : Nat} {W : Wd} {σ τ : Blks} {l : Slots} {X : List Nat} {x y z : Operand} {d : Option Nat} {ty t t' e : TypeId} {pos : String} {aft : Array Edge} {g : Option (Nat × Bool)} {k k' : IntKind} {a b : Int} {p q : Nat} {c : Wo}
theorem wrap64 (v : Int) : IntKind.u64.wrap v = v % 18446744073709551616 := by simp [IntKind.wrap, IntKind.bits, IntKind.signed]
theorem ofInt64 (p : Nat) : BitVec.ofInt IntKind.u64.bits ((p : Nat) : Int) = BitVec.ofNat 64 p := by
  show BitVec.ofInt 64 ((p : Nat) : Int) = _
  rw [BitVec.ofInt_natCast]
theorem Val.an64 (hx : look l x = some (.v (.int .u64 a))) (hy : look l y = some (.v (.int .u64 b))) (p q : Nat) (ha : a = (p : Nat)) (hb : b = (q : Nat)) : Val P n W σ l X ⟨d, .binOp .and t x y t', ty, pos, aft, g⟩ (wrd (an64 p q)) := by
  subst ha hb
  refine Val.bitI hx hy (fun w => ?_) rfl
  simp only [Op.intBits, ofInt64]
  refine congrArg (fun r => Result.ok (Value.int .u64 r) w) ?_
  rw [wrap64]
  have h : (BitVec.ofNat 64 p &&& BitVec.ofNat 64 q).toNat = Proofs.Ytonceioajbimaaa.A.an64 p q := by rw [BitVec.toNat_and, BitVec.toNat_ofNat, BitVec.toNat_ofNat]; rfl
  have h2 := (BitVec.ofNat 64 p &&& BitVec.ofNat 64 q).isLt
  show (((BitVec.ofNat 64 p &&& BitVec.ofNat 64 q).toNat : Nat) : Int) % _ = _
  rw [← h]
  omega
theorem Val.or64 (hx : look l x = some (.v (.int .u64 a))) (hy : look l y = some (.v (.int .u64 b))) (p q : Nat) (ha : a = (p : Nat)) (hb : b = (q : Nat)) : Val P n W σ l X ⟨d, .binOp .or t x y t', ty, pos, aft, g⟩ (wrd (or64 p q)) := by
  subst ha hb
  refine Val.bitI hx hy (fun w => ?_) rfl
  simp only [Op.intBits, ofInt64]
  refine congrArg (fun r => Result.ok (Value.int .u64 r) w) ?_
  rw [wrap64]
  have h : (BitVec.ofNat 64 p ||| BitVec.ofNat 64 q).toNat = Proofs.Ytonceioajbimaaa.A.or64 p q := by rw [BitVec.toNat_or, BitVec.toNat_ofNat, BitVec.toNat_ofNat]; rfl
  have h2 := (BitVec.ofNat 64 p ||| BitVec.ofNat 64 q).isLt
  show (((BitVec.ofNat 64 p ||| BitVec.ofNat 64 q).toNat : Nat) : Int) % _ = _
  rw [← h]
  omega
theorem Val.sum64 (hx : look l x = some (.v (.int .u64 a))) (hy : look l y = some (.v (.int .u64 b))) (p q : Nat) (ha : a = (p : Nat)) (hb : b = (q : Nat)) : Val P n W σ l X ⟨d, .binOp .add t x y t', ty, pos, aft, g⟩ (wrd ((p + q) % 18446744073709551616)) :=
  Val.to (Val.addW hx hy) (congrArg (fun r => Abs.v (.int .u64 r)) (by rw [wrap64]; subst ha hb; show _ = (((p + q) % 18446744073709551616 : Nat) : Int); omega))
theorem Val.mul64 (hx : look l x = some (.v (.int .u64 a))) (hy : look l y = some (.v (.int .u64 b))) (p q : Nat) (ha : a = (p : Nat)) (hb : b = (q : Nat)) : Val P n W σ l X ⟨d, .binOp .mul t x y t', ty, pos, aft, g⟩ (wrd (p * q % 18446744073709551616)) :=
  Val.to (Val.mulW hx hy) (congrArg (fun r => Abs.v (.int .u64 r)) (by rw [wrap64, ha, hb, ← Int.natCast_mul]; show _ = ((p * q % 18446744073709551616 : Nat) : Int); omega))
theorem Val.shr64 (hx : look l x = some (.v (.int .u64 a))) (hy : look l y = some (.v (.int k b))) (p q : Nat) (ha : a = (p : Nat)) (hb : b = (q : Nat)) (hq : q ≤ 64) : Val P n W σ l X ⟨d, .binOp .shr t x y t', ty, pos, aft, g⟩ (wrd (p / 2 ^ q)) :=
  Val.to (Val.shrI hx hy (by omega)) (congrArg (fun r => Abs.v (.int .u64 r)) (by
    subst ha hb
    simp only [IntKind.bits, Int.toNat_natCast]
    rw [Int.fdiv_eq_ediv_of_nonneg _ (by exact Int.le_of_lt (Int.pow_pos (by decide))), Nat.min_eq_left hq]
    simp))
theorem Val.shl64 (hx : look l x = some (.v (.int .u64 a))) (hy : look l y = some (.v (.int k b))) (p q : Nat) (ha : a = (p : Nat)) (hb : b = (q : Nat)) (hq : q ≤ 64) : Val P n W σ l X ⟨d, .binOp .shl t x y t', ty, pos, aft, g⟩ (wrd (p * 2 ^ q % 18446744073709551616)) :=
  Val.to (Val.shlW hx hy (by omega)) (congrArg (fun r => Abs.v (.int .u64 r)) (by
    subst ha hb
    rw [wrap64, show IntKind.u64.bits = 64 from rfl, Int.toNat_natCast, Nat.min_eq_left hq]
    simp))
theorem Val.conv6432 (hx : look l x = some (.v (.int .u64 a))) (ht : P.underlying t' = some (.int .u32)) (hs : (P.underlying t).isSome = true) (p : Nat) (ha : a = (p : Nat)) : Val P n W σ l X ⟨d, .convert t t' x, ty, pos, aft, g⟩ (u32 (BitVec.ofNat 32 p)) :=
  Val.to (Val.convW hx ht hs) (congrArg (fun r => Abs.v (.int .u32 r)) (by
    subst ha
    rw [BitVec.toNat_ofNat]
    simp [IntKind.wrap, IntKind.bits, IntKind.signed]))
theorem Val.notW (hx : look l x = some (u32 c)) : Val P n W σ l X ⟨d, .unOp .xor t x, ty, pos, aft, g⟩ (u32 (~~~c)) :=
  Val.of1 hx fun _ h A w hf _ => by
    have h1 : (Op.intBits .xor .u32 4294967295 ((c.toNat : Nat) : Int)).run P w = .ok (.int .u32 (((~~~c).toNat : Nat) : Int)) w := by
      simp only [Op.intBits, ofInt32]
      have e : (BitVec.ofInt 32 4294967295) ^^^ c = ~~~c := BitVec.allOnes_xor
      show Result.ok (Value.int .u32 (IntKind.u32.wrap (((BitVec.ofInt 32 4294967295 ^^^ c).toNat : Nat) : Int))) w = _
      rw [e, wrap32]
    have h2 : (Op.unary .xor (.int .u32 ((c.toNat : Nat) : Int))).run P w = .ok (.int .u32 (((~~~c).toNat : Nat) : Int)) w := h1
    simp only [execOp, hf.eval h, Sem.run_bind, h2, Result.andThen_ok, Sem.run_pure]
end
/-! ### Constants -/
def mulHi (x y : Nat) : Nat :=
  let w0 := an64 x 4294967295 * an64 y 4294967295 % 18446744073709551616
  let t := (x / 2 ^ 32 * an64 y 4294967295 % 18446744073709551616 + w0 / 2 ^ 32) % 18446744073709551616
  ((x / 2 ^ 32 * (y / 2 ^ 32) % 18446744073709551616 + t / 2 ^ 32) % 18446744073709551616 + (an64 t 4294967295 + an64 x 4294967295 * (y / 2 ^ 32) % 18446744073709551616) % 18446744073709551616 / 2 ^ 32) % 18446744073709551616
def gt2 (hi lo p : Nat) : Bool := Nat.blt p hi || (Nat.beq hi p && Nat.blt 0 lo)
def above (x p : Nat) (cube : Bool) : Bool :=
  match cube with
  | false => gt2 (mulHi x x) (x * x % 18446744073709551616) p
  | true => gt2 ((mulHi x x * x % 18446744073709551616 + mulHi (x * x % 18446744073709551616) x) % 18446744073709551616) (x * x % 18446744073709551616 * x % 18446744073709551616) (p * 2 ^ 32 % 18446744073709551616)
def rootN (p : Nat) (cube : Bool) : Nat → Nat
  | 0 => 0
  | j + 1 => bif Nat.blt (37 - j) 36 && !above (or64 (rootN p cube j) (1 * 2 ^ (37 - j) % 18446744073709551616)) p cube then or64 (rootN p cube j) (1 * 2 ^ (37 - j) % 18446744073709551616) else rootN p cube j
def rootW (p : Nat) (cube : Bool) : Wo := BitVec.ofNat 32 (rootN p cube 38)
def noDiv (p q : Nat) : Bool := !(Nat.ble 2 q && Nat.ble (q * q) p && Nat.beq (p % q) 0)
def primeB (p : Nat) : Bool := Nat.blt 1 p && (List.range p).all (noDiv p)
def primes (p : Nat) : List Nat := (List.range p).filter primeB
def kAt (p : Nat) : List Wo := (primes p).map fun q => rootW q true
def hAt (p : Nat) : List Wo := ((primes p).take 8).map fun q => rootW q false
set_option maxHeartbeats 4000000 in
theorem kAt_all : kAt 312 = roundsL := by decide +kernel
set_option maxHeartbeats 4000000 in
theorem hAt_all : hAt 312 = firstR.l := by decide +kernel
theorem primes_311 : (primes 311).length = 63 := by decide +kernel
theorem primes_312 : (primes 312).length = 64 := by decide +kernel
theorem primes_succ (p : Nat) : primes (p + 1) = if primeB p then primes p ++ [p] else primes p := by
  unfold primes
  rw [List.range_succ, List.filter_append]
  by_cases h : primeB p = true
  · rw [if_pos h]; simp [h]
  · rw [if_neg h]; simp [h]
theorem primes_mono {p q : Nat} (h : p ≤ q) : (primes p).length ≤ (primes q).length := by
  induction q with
  | zero => obtain rfl : p = 0 := by omega
            exact Nat.le_refl _
  | succ q ih =>
    by_cases hq : p = q + 1
    · subst hq; exact Nat.le_refl _
    · have h1 := ih (by omega)
      rw [primes_succ]
      split
      · rw [List.length_append]; omega
      · exact h1
theorem kAt_length (p : Nat) : (kAt p).length = (primes p).length := by simp [kAt]
theorem kAt_succ (p : Nat) : kAt (p + 1) = if primeB p then kAt p ++ [rootW p true] else kAt p := by
  unfold kAt
  rw [primes_succ]
  split <;> simp
theorem hAt_length (p : Nat) : (hAt p).length = min 8 (primes p).length := by simp [hAt]
theorem hAt_succ (p : Nat) : hAt (p + 1) = if primeB p ∧ (hAt p).length < 8 then hAt p ++ [rootW p false] else hAt p := by
  unfold hAt
  rw [primes_succ]
  simp only [List.length_map, List.length_take]
  by_cases h : primeB p = true
  · by_cases h8 : (primes p).length < 8
    · rw [if_pos h, if_pos ⟨h, by omega⟩, List.take_of_length_le (by rw [List.length_append]; simp; omega), List.take_of_length_le (by omega)]
      simp
    · rw [if_pos h, if_neg (by omega), List.take_append_of_le_length (by omega)]
  · rw [if_neg h, if_neg (fun h2 => h h2.1)]
/-! ### Turning -/
theorem rot_bit (x : Wo) {n i : Nat} (hn : n < 32) (hi : i < 32) : (rot x n).getLsbD i = x.getLsbD ((i + n) % 32) := by
  unfold rot
  rw [BitVec.getLsbD_or, BitVec.getLsbD_ushiftRight, BitVec.getLsbD_shiftLeft]
  by_cases h : i + n < 32
  · rw [Nat.mod_eq_of_lt h, Nat.add_comm n i]
    have : i < 32 - n := by omega
    simp [this]
  · have e : (i + n) % 32 = i - (32 - n) := by omega
    rw [e, BitVec.getLsbD_of_ge x (n + i) (by omega)]
    have : ¬ i < 32 - n := by omega
    simp [hi, this]
theorem step_eq (p : Wo) : (p >>> 1 ||| p <<< 31).toNat = p.toNat / 2 + p.toNat % 2 * 2147483648 := by
  have hp := p.isLt
  rw [BitVec.toNat_or, BitVec.toNat_ushiftRight, BitVec.toNat_shiftLeft, Nat.shiftRight_eq_div_pow, Nat.shiftLeft_eq]
  have e : p.toNat * 2 ^ 31 % 2 ^ 32 = 2 ^ 31 * (p.toNat % 2) := by omega
  rw [e, Nat.or_comm, ← Nat.two_pow_add_eq_or_of_lt (by omega)]
  omega
theorem rot_succ (x : Wo) {n : Nat} (hn : n + 1 < 32) : rot x (n + 1) = (rot x n) >>> 1 ||| (rot x n) <<< 31 := by
  apply BitVec.eq_of_getLsbD_eq
  intro i hi
  rw [rot_bit x hn hi, BitVec.getLsbD_or, BitVec.getLsbD_ushiftRight, BitVec.getLsbD_shiftLeft]
  by_cases h : i < 31
  · rw [rot_bit x (by omega) (by omega : 1 + i < 32)]
    simp [h]
    congr 1
    omega
  · obtain rfl : i = 31 := by omega
    rw [BitVec.getLsbD_of_ge _ (1 + 31) (by omega)]
    simp only [Nat.lt_irrefl, decide_false, Bool.not_false, Nat.sub_self, Bool.false_or, Bool.true_and, decide_true, hi]
    rw [rot_bit x (by omega) (by omega : 0 < 32)]
    congr 1
    omega
theorem rot_zero (x : Wo) : rot x 0 = x := by
  apply BitVec.eq_of_getLsbD_eq
  intro i hi
  rw [rot_bit x (by omega) hi, Nat.add_zero, Nat.mod_eq_of_lt hi]
theorem rot_step (x : Wo) {n : Nat} (hn : n + 1 < 32) : (((rot x n).toNat : Nat) : Int) / 2 + (((rot x n).toNat : Nat) : Int) % 2 * 2147483648 = (((rot x (n + 1)).toNat : Nat) : Int) := by
  rw [rot_succ x hn, step_eq]
  omega
/-! ### What is mixed -/
theorem choose_eq (a b c : Wo) : (a &&& b ||| ~~~a &&& c) = c ^^^ (a &&& (b ^^^ c)) := by
  apply BitVec.eq_of_getLsbD_eq
  intro i hi
  simp only [BitVec.getLsbD_or, BitVec.getLsbD_and, BitVec.getLsbD_xor, BitVec.getLsbD_not, hi, decide_true, Bool.true_and]
  cases a.getLsbD i <;> cases b.getLsbD i <;> cases c.getLsbD i <;> rfl
theorem most_eq (a b c : Wo) : (a &&& b ||| a &&& c ||| b &&& c) = (a &&& b) ^^^ (a &&& c) ^^^ (b &&& c) := by
  apply BitVec.eq_of_getLsbD_eq
  intro i hi
  simp only [BitVec.getLsbD_or, BitVec.getLsbD_and, BitVec.getLsbD_xor]
  cases a.getLsbD i <;> cases b.getLsbD i <;> cases c.getLsbD i <;> rfl
/-! ### Rows of words -/
abbrev ws (l : List Wo) : List (List Abs) := l.map fun p => [u32 p]
theorem ws_at {l : List Wo} {q : Nat} (h : q < l.length) : (ws l)[q]? = some [u32 (l.getD q 0)] := by
  simp [List.getD, h]
theorem ws_ones (l : List Wo) : ∀ c ∈ ws l, ones c = true := by
  intro c hc
  obtain ⟨b, _, rfl⟩ := List.mem_map.1 hc
  rfl
theorem ws_snoc (l : List Wo) (p : Wo) : ws l ++ [[u32 p]] = ws (l ++ [p]) := by simp
theorem grow_get (l : List Wo) (k : Nat) : ∀ (m j : Nat), k ≤ m → j < l.length + k → (grow l m).getD j 0 = (grow l k).getD j 0
  | 0, j, h, hj => by
    obtain rfl : k = 0 := by omega
    rfl
  | m + 1, j, h, hj => by
    by_cases hk : k = m + 1
    · subst hk; rfl
    · have h1 := grow_get l k m j (by omega) hj
      rw [← h1]
      show (grow l m ++ [nextW (grow l m) m]).getD j 0 = _
      simp only [List.getD_eq_getElem?_getD]
      rw [List.getElem?_append_left (by rw [grow_length]; omega)]
theorem sched_low (l : List UInt8) {z : Nat} (h : z < 16) : (sched l).getD z 0 = wordAt l z := by
  unfold sched
  rw [grow_get _ 0 48 z (by omega) (by rw [sched0_length]; omega)]
  show (sched0 l 16).getD z 0 = _
  simp [sched0, List.getD, h]
theorem sched_high (l : List UInt8) {z : Nat} (h : z < 48) : (sched l).getD (16 + z) 0 = nextW (sched l) z := by
  have hl := sched0_length l 16
  have e : ∀ j, j < 16 + z → (grow (sched0 l 16) z).getD j 0 = (sched l).getD j 0 := fun j hj => (grow_get (sched0 l 16) z 48 j (by omega) (by omega)).symm
  have h1 := grow_get (sched0 l 16) (z + 1) 48 (16 + z) (by omega) (by omega)
  show (grow (sched0 l 16) 48).getD (16 + z) 0 = _
  rw [h1]
  show (grow (sched0 l 16) z ++ [nextW (grow (sched0 l 16) z) z]).getD (16 + z) 0 = _
  rw [List.getD_eq_getElem?_getD, List.getElem?_append_right (by rw [grow_length]; omega), grow_length, hl, Nat.sub_self]
  show nextW (grow (sched0 l 16) z) z = _
  unfold nextW
  rw [e z (by omega), e (z + 1) (by omega), e (z + 9) (by omega), e (z + 14) (by omega)]
/-- A word out of four bytes. -/
theorem word_be (a b c d : UInt8) : BitVec.ofNat 32 (((a.toNat * 256 + b.toNat) * 256 + c.toNat) * 256 + d.toNat) = (BitVec.ofNat 32 a.toNat <<< 24 ||| BitVec.ofNat 32 b.toNat <<< 16 ||| BitVec.ofNat 32 c.toNat <<< 8 ||| BitVec.ofNat 32 d.toNat : Wo) := by
  have ha := a.toNat_lt
  have hb := b.toNat_lt
  have hc := c.toNat_lt
  have hd := d.toNat_lt
  apply BitVec.eq_of_toNat_eq
  simp only [BitVec.toNat_or, BitVec.toNat_shiftLeft, BitVec.toNat_ofNat, Nat.shiftLeft_eq]
  rw [show a.toNat % 2 ^ 32 * 2 ^ 24 % 2 ^ 32 = 2 ^ 24 * a.toNat by omega, show b.toNat % 2 ^ 32 * 2 ^ 16 % 2 ^ 32 = 2 ^ 16 * b.toNat by omega, show c.toNat % 2 ^ 32 * 2 ^ 8 % 2 ^ 32 = 2 ^ 8 * c.toNat by omega, show d.toNat % 2 ^ 32 = d.toNat by omega]
  rw [← Nat.two_pow_add_eq_or_of_lt (by omega : 2 ^ 16 * b.toNat < 2 ^ 24)]
  rw [show 2 ^ 24 * a.toNat + 2 ^ 16 * b.toNat = 2 ^ 16 * (256 * a.toNat + b.toNat) by omega, ← Nat.two_pow_add_eq_or_of_lt (by omega : 2 ^ 8 * c.toNat < 2 ^ 16)]
  rw [show 2 ^ 16 * (256 * a.toNat + b.toNat) + 2 ^ 8 * c.toNat = 2 ^ 8 * (256 * (256 * a.toNat + b.toNat) + c.toNat) by omega, ← Nat.two_pow_add_eq_or_of_lt (by omega : d.toNat < 2 ^ 8)]
  omega
end Go.Proofs.Ytonceioajbimaaa.A
/-
  The second engine: slices of arrays in blocks; bytes mixed.
-/
set_option maxRecDepth 100000
set_option linter.unusedSimpArgs false
set_option linter.unusedVariables false
namespace Go.Proofs.Ytonceioajbimaaa.A
open Go.RowKit
section
variable {P : Program} {n : Nat} {W : Wd} {σ τ : Blks} {l : Slots} {X : List Nat} {x y z : Operand} {d : Option Nat} {ty t t' e : TypeId} {pos : String} {aft : Array Edge} {g : Option (Nat × Bool)} {A : Abs} {tab : List (Nat × TI)} {ops : Array Oper} {Q : Exit → Act → World → Prop} {k : IntKind}
/-- An element's address in a slice of a block. -/
theorem Val.indexBs (hT : TabOk P tab) {j : TI} {b off m c q : Nat} {r : Int} (hu : P.underlying t = some (.slice e)) (hj : ti tab e = some j) (hx : look l x = some (.v (.slice (some ⟨b, off, none⟩) m c))) (hy : look l y = some (.v (.int k r))) (hr : r = (q : Nat)) (hq : q < m) :
    Val P n W σ l X ⟨d, .indexAddr t x y, ty, pos, aft, g⟩ (.v (.pointer (some ⟨b, off + q * j.size, none⟩))) := Val.mk' fun a w hs hX => by
  subst hr
  exact ⟨_, rfl, fun w' _ => Proofs.Ytonceioajbimaaa.Val.indexSlN hT hu hj (by rw [hs.at2 hx, hs.plain hx]) (by rw [hs.at2 hy, hs.plain hy]) hq⟩
theorem ofInt8 (c : UInt8) : BitVec.ofInt IntKind.u8.bits ((c.toNat : Nat) : Int) = c.toBitVec := by
  show BitVec.ofInt 8 ((c.toBitVec.toNat : Nat) : Int) = _
  rw [BitVec.ofInt_natCast, BitVec.ofNat_toNat, BitVec.setWidth_eq]
theorem wrap8 (p : BitVec 8) : IntKind.u8.wrap (p.toNat : Nat) = (p.toNat : Nat) := by
  have := p.isLt
  simp only [IntKind.wrap, IntKind.bits, IntKind.signed]
  simp
  omega
theorem Val.xor8 {c f : UInt8} (hx : look l x = some (.v (bc c))) (hy : look l y = some (.v (bc f))) : Val P n W σ l X ⟨d, .binOp .xor t x y t', ty, pos, aft, g⟩ (.v (bc (c ^^^ f))) :=
  Val.bitI hx hy (fun w => by
    simp only [Op.intBits, ofInt8]
    exact congrArg (fun r => Result.ok (Value.int .u8 r) w) (wrap8 (c.toBitVec ^^^ f.toBitVec))) rfl
theorem Val.or8 {c f : UInt8} (hx : look l x = some (.v (bc c))) (hy : look l y = some (.v (bc f))) : Val P n W σ l X ⟨d, .binOp .or t x y t', ty, pos, aft, g⟩ (.v (bc (c ||| f))) :=
  Val.bitI hx hy (fun w => by
    simp only [Op.intBits, ofInt8]
    exact congrArg (fun r => Result.ok (Value.int .u8 r) w) (wrap8 (c.toBitVec ||| f.toBitVec))) rfl
/-- 's[p:q]' -/
theorem Val.sliceMid (hT : TabOk P tab) {i : TI} {k' : IntKind} {p q s : Nat} {a b : Int} {xs : List (List Abs)} (hu : P.underlying t = some (.slice e)) (hi : ti tab e = some i) (hsz : Nat.beq s i.size = true) (hx : look l x = some (.sl s xs)) (hy : look l y = some (.v (.int k a))) (hz : look l z = some (.v (.int k' b))) (ha : a = (p : Nat)) (hb : b = (q : Nat)) (hpq : p ≤ q) (hq : q ≤ xs.length) :
    Val P n W σ l X ⟨d, .slice t x (some y) (some z) none, ty, pos, aft, g⟩ (.sl s ((xs.drop p).take (q - p))) := fun ac w hs _ => by
  subst ha hb
  have hsz := Nat.eq_of_beq_eq_true hsz
  subst hsz
  obtain ⟨us, h1, h2⟩ := hs.eval hx
  obtain ⟨A', c, hsh, h3, h4, h5⟩ := h1.shape
  rw [hsh] at h1
  have h6 := IsRow.tailN h1 (show p ≤ xs.length by omega) (repss_length h2)
  have h8 := IsRow.headN (s := i.size) h6 (show q - p ≤ xs.length - p by omega) (c - p) (by omega) (Nat.le_refl _) (fun hA => by
    split at hA
    · omega
    · cases A' with
      | none => have := h5 rfl; omega
      | some a => simp at hA)
  have h9 := (repss_drop h2 p (by omega)).1
  refine ⟨.slice (if c = p then A' else A'.map (·.add (p * i.size))) (q - p) (c - p), ⟨_, by rw [List.length_take, List.length_drop, Nat.min_eq_left (by omega)]; exact h8, (repss_drop h9 (q - p) (by rw [List.length_drop]; omega)).2⟩, fun w' _ => ?_⟩
  have h7 := (hT _ _ hi).sizeOf (w := w')
  have hqc : q ≤ c := by omega
  have hpc : p ≤ c := by omega
  simp [execOp, Instr.sliceAt, Instr.slice, Instr.sliceBounds, Instr.sliceBound, asIntOf, hsh, hs.plain hy, hs.plain hz, run_underlying hu, Sem.run_bind, Result.andThen, h7, hqc, hpc, hpq]
end
/-! ### Rows of words -/
theorem ws_length (l : List Wo) : (ws l).length = l.length := List.length_map _
theorem ws_take_at {l : List Wo} {q z : Nat} (h : q < z) (hz : z ≤ l.length) : (ws (l.take z))[q]? = some [u32 (l.getD q 0)] := by
  rw [ws_at (by rw [List.length_take]; omega)]
  simp [List.getD, List.getElem?_take_of_lt h]
theorem ws_take_snoc {l : List Wo} {z : Nat} {p : Wo} (h : z < l.length) (hp : l.getD z 0 = p) : ws (l.take z) ++ [[u32 p]] = ws (l.take (z + 1)) := by
  rw [ws_snoc, ← hp, List.take_add_one, List.getElem?_eq_getElem h]
  simp [List.getD, h]
theorem add_getD (r s : R8) {y : Nat} (h : y < 8) : r.l.getD y 0 + s.l.getD y 0 = (r.add s).l.getD y 0 := by
  rcases y with _ | _ | _ | _ | _ | _ | _ | _ | y
  · rfl
  · rfl
  · rfl
  · rfl
  · rfl
  · rfl
  · rfl
  · rfl
  · omega
/-- A word's four bytes. -/
def be4 (p : Wo) : List UInt8 := beBytes p.toNat 4
def be32 (l : List Wo) : List UInt8 := l.flatMap be4
theorem be32_snoc (l : List Wo) (p : Wo) : be32 l ++ be4 p = be32 (l ++ [p]) := by simp [be32]
theorem be4_length (p : Wo) : (be4 p).length = 4 := beBytes_length _ _
theorem be32_length (l : List Wo) : (be32 l).length = 4 * l.length := by
  induction l with
  | nil => rfl
  | cons p l ih =>
    show (be4 p ++ be32 l).length = _
    rw [List.length_append, be4_length, ih, List.length_cons]
    omega
theorem be4_get (p : Wo) {j : Nat} (h : j < 4) : (be4 p)[j]? = some (UInt8.ofNat (p >>> (24 - 8 * j)).toNat) := by
  unfold be4
  rw [beBytes_getElem _ _ _ h, BitVec.toNat_ushiftRight, Nat.shiftRight_eq_div_pow]
  congr 3
  rcases j with _ | _ | _ | _ | j
  · rfl
  · rfl
  · rfl
  · rfl
  · omega
theorem be32_get : ∀ (l : List Wo) {q j : Nat}, q < l.length → j < 4 → (be32 l)[4 * q + j]? = some (UInt8.ofNat (l.getD q 0 >>> (24 - 8 * j)).toNat)
  | [], q, j, h, _ => by simp at h
  | p :: l, 0, j, _, hj => by
    show (be4 p ++ be32 l)[4 * 0 + j]? = _
    rw [Nat.mul_zero, Nat.zero_add, List.getElem?_append_left (by rw [be4_length]; exact hj), be4_get p hj]
    rfl
  | p :: l, q + 1, j, h, hj => by
    show (be4 p ++ be32 l)[4 * (q + 1) + j]? = _
    rw [List.getElem?_append_right (by rw [be4_length]; omega), be4_length, show 4 * (q + 1) + j - 4 = 4 * q + j by omega, be32_get l (by simpa using h) hj]
    rfl
theorem be32_at {l : List Wo} {y : Nat} (h : y < 4 * l.length) : (be32 l)[y]? = some (byteAt l y) := by
  have := be32_get l (q := y / 4) (j := y % 4) (by omega) (by omega)
  rw [show 4 * (y / 4) + y % 4 = y by omega] at this
  exact this
theorem be32_take {l : List Wo} {z : Nat} (h : z < l.length) : be32 (l.take z) ++ be4 (l.getD z 0) = be32 (l.take (z + 1)) := by
  rw [be32_snoc, List.take_add_one, List.getElem?_eq_getElem h]
  simp [List.getD, h]
/-- Four bytes as a word. -/
theorem word_four {l : List UInt8} {z : Nat} (h : 4 * z + 4 ≤ l.length) : BitVec.ofNat 32 (beVal ((l.drop (4 * z)).take 4)) = wordAt l z := by
  have e : (l.drop (4 * z)).take 4 = [l.getD (4 * z + 0) 0, l.getD (4 * z + 1) 0, l.getD (4 * z + 2) 0, l.getD (4 * z + 3) 0] := by
    apply List.ext_getElem?
    intro j
    by_cases hj : j < 4
    · rw [List.getElem?_take_of_lt hj, List.getElem?_drop, List.getElem?_eq_getElem (by omega)]
      rcases j with _ | _ | _ | _ | j
      · simp [List.getD, show 4 * z < l.length by omega]
      · simp [List.getD, show 4 * z + 1 < l.length by omega]
      · simp [List.getD, show 4 * z + 2 < l.length by omega]
      · simp [List.getD, show 4 * z + 3 < l.length by omega]
      · omega
    · rw [List.getElem?_eq_none (by rw [List.length_take]; omega), List.getElem?_eq_none (by simp; omega)]
  rw [e]
  show BitVec.ofNat 32 ((((0 * 256 + (l.getD (4 * z + 0) 0).toNat) * 256 + (l.getD (4 * z + 1) 0).toNat) * 256 + (l.getD (4 * z + 2) 0).toNat) * 256 + (l.getD (4 * z + 3) 0).toNat) = _
  rw [Nat.zero_mul, Nat.zero_add, word_be]
  rfl
end Go.Proofs.Ytonceioajbimaaa.A
/-
  The second engine: rows of the call's own, cut; 'clear'.
-/
set_option maxRecDepth 100000
set_option linter.unusedSimpArgs false
set_option linter.unusedVariables false
namespace Go.Proofs.Ytonceioajbimaaa.A
open Go.RowKit

/-- The first q elements of a row. -/
def cutTo : Value → Nat → Value
  | .slice a _ c, q => .slice a q c
  | v, _ => v
/-- The elements from q on, of one cell each. -/
def cutFrom : Value → Nat → Value
  | .slice (some ⟨b, off, _⟩) n c, q => .slice (some ⟨b, off + q, none⟩) (n - q) (c - q)
  | v, _ => v
theorem cutTo_block (v : Value) (q : Nat) : (cutTo v q).ownBlock = v.ownBlock := by
  unfold cutTo
  split
  · next a n c => cases a <;> rfl
  · rfl
section
variable {P : Program} {n : Nat} {W : Wd} {σ τ : Blks} {l : Slots} {X : List Nat} {x y z : Operand} {d : Option Nat} {ty t e e' : TypeId} {pos : String} {aft : Array Edge} {g : Option (Nat × Bool)} {v u : Value} {k : IntKind} {tab : List (Nat × TI)} {xs ys : List (List Abs)} {s q : Nat} {ops : Array Oper} {rest : List Oper} {Q : Exit → Act → World → Prop}
/-- 's[q:]' of a row of one's own. -/
theorem Val.sliceOwnLo (hT : TabOk P tab) {j : TI} (hu : P.underlying t = some (.slice e)) (hj : ti tab e = some j) (h1 : Nat.beq j.size 1 = true) (hx : look l x = some (.v v)) (hb : isOwn σ e' 1 v xs) {r : Int} (hy : look l y = some (.v (.int k r))) (hr : r = (q : Nat)) (hq : q < xs.length) :
    Val P n W σ l X ⟨d, .slice t x (some y) none none, ty, pos, aft, g⟩ (.v (cutFrom v q)) := fun a w hs _ => by
  subst hr
  have h1 := Nat.eq_of_beq_eq_true h1
  obtain ⟨us, hr1, hr2⟩ := hs.mem.ownR hb
  obtain ⟨b, off, c, hv, _⟩ := own_at hr1 hr2 (by omega) (List.getElem?_eq_getElem hq)
  obtain ⟨A', c', hsh, h3, _⟩ := hr1.shape
  have hc : c = c' := by
    have := hv.symm.trans hsh
    injection this
  subst hc
  refine ⟨_, rfl, fun w' _ => ?_⟩
  have h7 := (hT _ _ hj).sizeOf (w := w')
  have e1 : a.eval x = .slice (some ⟨b, off, none⟩) xs.length c := (hs.plain hx).trans hv
  have e2 : a.eval y = .int k ((q : Nat) : Int) := hs.plain hy
  rw [hv]
  have hne : ¬ c = q := by omega
  simp [execOp, Instr.sliceAt, Instr.slice, Instr.sliceBounds, Instr.sliceBound, asIntOf, e1, e2, run_underlying hu, Sem.run_bind, Result.andThen, h7, h1, hne, Nat.le_of_lt hq, Addr.add, cutFrom]
/-- 's[:q]' of a row of one's own. -/
theorem Val.sliceOwnHi (hT : TabOk P tab) {j : TI} (hu : P.underlying t = some (.slice e)) (hj : ti tab e = some j) (hx : look l x = some (.v v)) (hb : isOwn σ e' s v xs) {r : Int} (hy : look l y = some (.v (.int k r))) (hr : r = (q : Nat)) (hq : q ≤ xs.length) :
    Val P n W σ l X ⟨d, .slice t x none (some y) none, ty, pos, aft, g⟩ (.v (cutTo v q)) := fun a w hs _ => by
  subst hr
  obtain ⟨us, hr1, hr2⟩ := hs.mem.ownR hb
  obtain ⟨A', c, hsh, h3, _⟩ := hr1.shape
  refine ⟨_, rfl, fun w' _ => ?_⟩
  have h7 := (hT _ _ hj).sizeOf (w := w')
  have e1 : a.eval x = .slice A' xs.length c := (hs.plain hx).trans hsh
  have e2 : a.eval y = .int k ((q : Nat) : Int) := hs.plain hy
  rw [hsh]
  have hqc : q ≤ c := by omega
  simp [execOp, Instr.sliceAt, Instr.slice, Instr.sliceBounds, Instr.sliceBound, asIntOf, e1, e2, run_underlying hu, Sem.run_bind, Result.andThen, h7, hqc, Addr.add, cutTo]
  try (cases A' <;> simp)
/-- A row of the call's own, cut: the rest is let go. -/
theorem St.cutOwn {a : Act} {w : World} (h : St n W σ l a w) (hu : Upd (own e s v xs) (own e s (cutTo v q) (xs.take q)) σ τ) (hq : q ≤ xs.length) : St n W τ l a w := by
  obtain ⟨us, hown, hr⟩ : (ownPc e s v xs).p _ w := h.mem.hold _ hu.mem
  have hm := h.mem.upd hu (Ext.refl w) own_nodup (fun k hk => .inl (by simpa [It.mids, ownPc, cutTo_block] using hk)) rfl fun hc => by
    refine ⟨us.take (q * s), ⟨?_, ?_⟩, repss_carry hc s _ _ (repss_drop hr q hq).2⟩
    · rw [List.length_take, List.length_take, hown.1, Nat.min_eq_left hq, Nat.min_eq_left (Nat.mul_le_mul_right _ hq)]
    · rcases hown.2 with ⟨rfl, h0⟩ | ⟨gb, cap, cur, rfl, hbase, hg, hn, hcap, hsz, htk⟩
      · refine .inl ⟨?_, ?_⟩
        · have : q = 0 := by omega
          rw [this]; rfl
        · rw [List.length_take]; omega
      · refine .inr ⟨gb, cap, cur, ?_, hbase, hg, by rw [List.length_take]; omega, hcap, hsz, ?_⟩
        · rw [List.length_take, Nat.min_eq_left hq]; rfl
        · rw [List.length_take, Nat.min_eq_left hq, ← htk, List.take_take, Nat.min_eq_left (Nat.mul_le_mul_right _ hq)]
  exact h.to hm.1 hm.2
theorem SL.cutOwn (hy : xs.take q = ys) (hu : Upd (own e s v xs) (own e s (cutTo v q) ys) σ τ) (hq : q ≤ xs.length) (k : SL P ops rest (St n W τ l) Q) : SL P ops rest (St n W σ l) Q := by subst hy; exact fun a w h => k a w (h.cutOwn hu hq)
theorem repss_rep {K : List Nat} {w : World} {z : Value} : ∀ m : Nat, repss K w 1 (List.replicate m [.v z]) (List.replicate m z)
  | 0 => rfl
  | m + 1 => ⟨[z], List.replicate m z, rfl, rfl, ⟨z, [], rfl, rfl, rfl⟩, repss_rep m⟩
/-- 'clear(s[q:])'. -/
theorem Eff.clearOwn {z : Value} (hu : P.underlying t = some (.slice e')) (hz : ∀ w, (zeroValue e').run P w = .ok z w) (hc : z.cells = #[z]) (h1 : z.oneCell' = true) (hx : look l x = some (.v (cutFrom v q))) (hq : q < xs.length) (hup : Upd (own e 1 v xs) (own e 1 v (xs.take q ++ List.replicate (xs.length - q) [.v z])) σ τ) :
    Eff P n W σ l v.ownBlock.toList ⟨d, .call { callee := .builtin .clear, args := #[x], argTypes := #[t] }, ty, pos, aft, g⟩ fun u τ' => u = .tup [] ∧ τ' = τ := fun ac w hst => by
  obtain ⟨us, hown, hr⟩ : (ownPc e 1 v xs).p _ w := hst.mem.hold _ hup.mem
  have hul := hown.1
  rw [Nat.mul_one] at hul
  rcases hown.2 with ⟨h, h0⟩ | ⟨gb, cap, cur, hv, hbase, hg, hn, hcap, hsz, htk⟩
  · omega
  · subst hv
    rw [Nat.mul_one] at hsz htk
    have hrun := run_storeCells_at (P := P) gb (0 + q) e (List.replicate (xs.length - q) z) 0 cur w hg (by rw [List.length_replicate]; omega) (fun v hv => by rw [List.eq_of_mem_replicate hv]; exact h1)
    have e0 : 0 + q + 0 = q := by omega
    rw [e0, List.length_replicate] at hrun
    have hcl : cur.toList.length = cur.size := by simp
    have hxx : Ext (Value.ownBlock (.slice (some ⟨gb, 0, none⟩) xs.length cap)).toList w (w.setRow gb (cur.toList.take q ++ List.replicate (xs.length - q) z ++ cur.toList.drop (q + (xs.length - q))).toArray) := (Ext.refl w).setRow (.inl (by simp [Value.ownBlock])) _
    have hnew : (cur.toList.take q ++ List.replicate (xs.length - q) z ++ cur.toList.drop (q + (xs.length - q))).take xs.length = us.take q ++ List.replicate (xs.length - q) z := by
      rw [← htk]
      apply List.ext_getElem?
      intro j
      simp only [List.getElem?_take, List.getElem?_append, List.length_append, List.length_take, List.getElem?_drop, List.length_replicate, List.getElem?_replicate]
      grind
    have hlen : (xs.take q ++ List.replicate (xs.length - q) [Abs.v z]).length = xs.length := by simp; omega
    have hm := hst.mem.upd hup hxx own_nodup (fun k hk => .inl hk) rfl fun hca => ⟨us.take q ++ List.replicate (xs.length - q) z, ⟨?_, .inr ⟨gb, cap, _, by rw [hlen], hbase, setRow_heap w gb cur _ e (0, 0) hg, by rw [hlen]; exact hn, hcap, ?_, ?_⟩⟩, repss_append (repss_carry hca 1 _ _ (by simpa using (repss_drop hr q (by omega)).2)) (repss_rep _)⟩
    · refine ⟨.tuple #[], _, _, _, ⟨rfl, rfl⟩, hxx, ⟨[], rfl, rfl⟩, hm.1, hm.2, .inl ?_⟩
      have hx2 : ac.eval x = .slice (some ⟨gb, 0 + q, none⟩) (xs.length - q) (cap - q) := hst.plain hx
      have hzc : (Builtin.zeroCells z.cells (xs.length - q)).toList = List.replicate (xs.length - q) z := by
        rw [hc]
        simp [Builtin.zeroCells]
        apply List.ext_getElem
        · simp
        · intro i h1 h2
          simp [Nat.mod_one]
      have hcl : (Builtin.clear_ #[t] ty #[.slice (some ⟨gb, 0 + q, none⟩) (xs.length - q) (cap - q)]).run P w = .ok (.tuple #[]) (w.setRow gb (cur.toList.take q ++ List.replicate (xs.length - q) z ++ cur.toList.drop (q + (xs.length - q))).toArray) := by
        obtain ⟨m, hm⟩ : ∃ m, xs.length - q = m + 1 := ⟨xs.length - q - 1, by omega⟩
        rw [hm] at hzc hrun ⊢
        simp [Builtin.clear_, run_underlying hu, hz, hzc, hrun, Sem.run_bind, Result.andThen]
        try simp_all
      rw [Nat.zero_add] at hx2 hcl
      rw [List.append_assoc] at hcl ⊢
      simp [execOp, resolve, invoke, builtin, hx2, hcl, Result.andThen]
    · simp only [List.length_append, List.length_take, List.length_replicate]
      omega
    · simp only [List.size_toArray, List.length_append, List.length_take, List.length_drop, List.length_replicate]
      omega
    · rw [hlen, Nat.mul_one]
      simpa using hnew
end
/-- Pieces that are read alone. -/
def RdAll (σ : Blks) : Prop := ∀ x ∈ σ, (∃ b t cs, x = .rd b t cs) ∨ ∃ c, x = .rdpc c
theorem RdAll.reads {σ τ : Blks} (h : RdAll τ) (hs : ∀ x ∈ τ, x ∈ σ) : Reads σ τ := by
  induction τ with
  | nil => exact .nil
  | cons x τ ih =>
    have h1 := ih (fun y hy => h y (List.mem_cons_of_mem _ hy)) (fun y hy => hs y (List.mem_cons_of_mem _ hy))
    have hx := hs x List.mem_cons_self
    rcases h x List.mem_cons_self with ⟨b, t, cs, rfl⟩ | ⟨c, rfl⟩
    · exact .rd hx h1
    · exact .rdpc hx h1
/-- A call that changes the first piece, and reads others. -/
theorem After.headR {ι : Type} {u : It} {β σ1 τ : Blks} {τ' : ι → Blks} {uy : ι → It} {K : Blks → ι → Prop} (h1 : σ1 = u :: τ) (hu : u.rids = []) (h : Reads β τ) (hτ : ∀ z, τ' z = [uy z]) (k : ∀ z, K (uy z :: β) z) : After (u :: β) σ1 τ' K := by
  subst h1
  obtain ⟨ys, h2, rfl⟩ := h.ys
  exact ⟨β, Split.one (α := []) hu h2, fun z => ⟨_, by rw [hτ z]; exact List.Perm.refl _, k z⟩⟩
end Go.Proofs.Ytonceioajbimaaa.A
