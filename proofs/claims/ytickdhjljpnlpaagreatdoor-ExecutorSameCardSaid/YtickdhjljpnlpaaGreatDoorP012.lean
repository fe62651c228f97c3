/-
  Packed out of the texts: EX1, EX2.
-/
import Derived.Test.YtickdhjljpnlpaaGreatDoorP011
/-
  Ledgers that may be: the program's.
-/
set_option maxRecDepth 100000
set_option linter.unusedSimpArgs false
set_option linter.unusedVariables false
namespace Go.Proofs.YtickdhjljpnlpaaGreatDoor.A
open Go.RowKit

section
variable {l : Lg} {x y : Ltr} {o q : Oc} {a b c k n : Int} {ls : List Ltr} {os : List Oc} {m : List UInt8}
theorem within_s  : Spec Tryz.prog 80 [int a, int b, int c] [] (fun _ : Unit => []) (fun _ => boo (decide (b ≤ a ∧ a ≤ c))) := by
 refine spec_of Tryz.func80 rfl Tryz.ntmps80 rfl fun G w => ?_
 refine SC.seq (SC.region ?_)
 refine SL.val (Val.assign rfl) rfl rfl ?_
 refine SL.nil (SE.seq ?_)
 refine SC.seq (SC.region ?_)
 iterate 2 refine SL.val (Val.move rfl) rfl rfl ?_
 refine SL.val (Val.geI rfl rfl) rfl rfl ?_
 refine SL.val (Val.move rfl) rfl rfl ?_
 refine SL.bothP (t := 10) rfl ?_ ?_
 ·intro hc10
  iterate 2 refine SL.val (Val.move rfl) rfl rfl ?_
  refine SL.val (Val.leI rfl rfl) rfl rfl ?_
  refine SL.val (Val.pickT rfl rfl) rfl rfl ?_
  refine SL.val (Val.assign rfl) rfl rfl ?_
  refine SL.nil (SE.seq ?_)
  refine SC.ret ?_
  refine SE.fin (rs := [.tmp 6]) rfl (RV.tmp rfl RV.nil) (()) (by repeat first|exact s0_ _|exact s1_ _|apply s2_|apply s3_) (by simp [It.rids]) ?_
  refine congrArg (fun b => Abs.v (Value.bool b)) ?_
  first
   | (rw [decide_eq_decide]; omega)
   | (refine (decide_eq_false ?_).symm; omega)
   | (refine (decide_eq_true ?_).symm; omega)
 intro hc10
 iterate 3 refine SL.skip rfl rfl ?_
 refine SL.val (Val.pickF rfl rfl) rfl rfl ?_
 refine SL.val (Val.assign rfl) rfl rfl ?_
 refine SL.nil (SE.seq ?_)
 refine SC.ret ?_
 refine SE.fin (rs := [.tmp 6]) rfl (RV.tmp rfl RV.nil) (()) (by repeat first|exact s0_ _|exact s1_ _|apply s2_|apply s3_) (by simp [It.rids]) ?_
 refine congrArg (fun b => Abs.v (Value.bool b)) ?_
 first
  | (rw [decide_eq_decide]; omega)
  | (refine (decide_eq_false ?_).symm; omega)
  | (refine (decide_eq_true ?_).symm; omega)
theorem lessL_s  : Spec Tryz.prog 78 [.agg (ltrA x), .agg (ltrA y)] [] (fun _ : Unit => []) (fun _ => boo (decide (ltB x.name y.name))) := by
 refine spec_of Tryz.func78 rfl Tryz.ntmps78 rfl fun G w => ?_
 refine SC.seq (SC.region ?_)
 refine SL.eff (Eff.boxA (cs := ltrA x) rfl) rfl rfl ?_
 rintro _ _ ⟨b2, rfl, rfl⟩
 refine SL.eff (Eff.boxA (cs := ltrA y) rfl) rfl rfl ?_
 rintro _ _ ⟨b3, rfl, rfl⟩
 refine SL.val (Val.assign rfl) rfl rfl ?_
 refine SL.nil (SE.seq ?_)
 refine SC.seq (SC.region ?_)
 refine SL.val (Val.fieldAddr tabOk rfl rfl rfl rfl rfl) rfl rfl ?_
 refine SL.val (Val.to (C := st x.name) (Val.load1 tabOk rfl rfl (by repeat first|assumption|exact o0_|exact o1_|apply o2_) List.not_mem_nil (by rfl)) rfl) rfl rfl ?_
 refine SL.val (Val.fieldAddr tabOk rfl rfl rfl rfl rfl) rfl rfl ?_
 refine SL.val (Val.to (C := st y.name) (Val.load1 tabOk rfl rfl (by repeat first|assumption|exact o0_|exact o1_|apply o2_) List.not_mem_nil (by rfl)) rfl) rfl rfl ?_
 refine SL.val (Val.ltS rfl rfl) rfl rfl ?_
 refine SL.val (Val.assign rfl) rfl rfl ?_
 refine SL.nil (SE.seq ?_)
 refine SC.ret ?_
 refine SE.fin (rs := [.tmp 4]) rfl (RV.tmp rfl RV.nil) (()) (by repeat first|exact s0_ _|exact s1_ _|apply s2_|apply s3_) (by simp [It.rids]) ?_
 exact rfl
theorem lessO_s  : Spec Tryz.prog 79 [.agg o.abs, .agg q.abs] [] (fun _ : Unit => []) (fun _ => boo (decide (o.client < q.client))) := by
 refine spec_of Tryz.func79 rfl Tryz.ntmps79 rfl fun G w => ?_
 refine SC.seq (SC.region ?_)
 refine SL.eff (Eff.boxA (cs := o.abs) rfl) rfl rfl ?_
 rintro _ _ ⟨b2, rfl, rfl⟩
 refine SL.eff (Eff.boxA (cs := q.abs) rfl) rfl rfl ?_
 rintro _ _ ⟨b3, rfl, rfl⟩
 refine SL.val (Val.assign rfl) rfl rfl ?_
 refine SL.nil (SE.seq ?_)
 refine SC.seq (SC.region ?_)
 refine SL.val (Val.fieldAddr tabOk rfl rfl rfl rfl rfl) rfl rfl ?_
 refine SL.val (Val.to (C := int o.client) (Val.load1 tabOk rfl rfl (by repeat first|assumption|exact o0_|exact o1_|apply o2_) List.not_mem_nil (by rfl)) rfl) rfl rfl ?_
 refine SL.val (Val.fieldAddr tabOk rfl rfl rfl rfl rfl) rfl rfl ?_
 refine SL.val (Val.to (C := int q.client) (Val.load1 tabOk rfl rfl (by repeat first|assumption|exact o0_|exact o1_|apply o2_) List.not_mem_nil (by rfl)) rfl) rfl rfl ?_
 refine SL.val (Val.ltI rfl rfl) rfl rfl ?_
 refine SL.val (Val.assign rfl) rfl rfl ?_
 refine SL.nil (SE.seq ?_)
 refine SC.ret ?_
 refine SE.fin (rs := [.tmp 4]) rfl (RV.tmp rfl RV.nil) (()) (by repeat first|exact s0_ _|exact s1_ _|apply s2_|apply s3_) (by simp [It.rids]) ?_
 exact rfl
theorem ltrRight_s  : Spec Tryz.prog 83 [.agg (ltrA x)] [] (fun _ : Unit => []) (fun _ => boo (decide (LtR x))) := by
 refine spec_of Tryz.func83 rfl Tryz.ntmps83 rfl fun G w => ?_
 refine SC.seq (SC.region ?_)
 refine SL.eff (Eff.boxA (cs := ltrA x) rfl) rfl rfl ?_
 rintro _ _ ⟨b1, rfl, rfl⟩
 refine SL.val (Val.assign rfl) rfl rfl ?_
 refine SL.nil (SE.seq ?_)
 refine SC.seq (SC.region ?_)
 refine SL.val (Val.fieldAddr tabOk rfl rfl rfl rfl rfl) rfl rfl ?_
 refine SL.val (Val.to (C := st x.name) (Val.load1 tabOk rfl rfl (by repeat first|assumption|exact o0_|exact o1_|apply o2_) List.not_mem_nil (by rfl)) rfl) rfl rfl ?_
 refine SL.call (isname_s (s := x.name)) Casts.refl (by kernel_rfl) rfl rfl rfl ?_
 refine ap_ ?_
 intro _
 refine SL.val (Val.move rfl) rfl rfl ?_
 refine SL.both (t := 6) rfl ?_ ?_
 rotate_left
 ·intro hc6
  iterate 3 refine SL.skip rfl rfl ?_
  refine SL.val (Val.pickF rfl rfl) rfl rfl ?_
  refine SL.val (Val.move rfl) rfl rfl ?_
  iterate 3 refine SL.skip rfl rfl ?_
  refine SL.val (Val.pickF rfl rfl) rfl rfl ?_
  refine SL.val (Val.move rfl) rfl rfl ?_
  iterate 3 refine SL.skip rfl rfl ?_
  refine SL.val (Val.pickF rfl rfl) rfl rfl ?_
  refine SL.val (Val.move rfl) rfl rfl ?_
  iterate 4 refine SL.skip rfl rfl ?_
  refine SL.val (Val.pickF rfl rfl) rfl rfl ?_
  refine SL.val (Val.move rfl) rfl rfl ?_
  iterate 4 refine SL.skip rfl rfl ?_
  refine SL.val (Val.pickF rfl rfl) rfl rfl ?_
  refine SL.val (Val.assign rfl) rfl rfl ?_
  refine SL.nil (SE.seq ?_)
  refine SC.ret ?_
  refine SE.fin (rs := [.tmp 2]) rfl (RV.tmp rfl RV.nil) (()) (by repeat first|exact s0_ _|exact s1_ _|apply s2_|apply s3_) (by simp [It.rids]) ?_
  first
   | (refine boo_dec0 fun he => ?_; obtain ⟨g1, g2, g3, g4, g5, g6⟩ := he; have g7 := isAmt_true g4; first | omega | (rw [g1] at hc6; cases hc6; done))
   | (refine congrArg (fun b => Abs.v (Value.bool b)) ?_; rw [decide_eq_decide]; exact ⟨fun h => ⟨hc6, hc11, hc16, isAmt_mk hc21.1 hc21.2, by omega, by omega⟩, fun h => by have := h.papers; omega⟩)
 intro hc6
 refine SL.val (Val.fieldAddr tabOk rfl rfl rfl rfl rfl) rfl rfl ?_
 refine SL.val (Val.to (C := int x.state) (Val.load1 tabOk rfl rfl (by repeat first|assumption|exact o0_|exact o1_|apply o2_) List.not_mem_nil (by rfl)) rfl) rfl rfl ?_
 refine SL.call (within_s (a := x.state) (b := 1) (c := 7)) Casts.refl (by kernel_rfl) rfl rfl rfl ?_
 refine ap_ ?_
 intro _
 refine SL.val (Val.pickT rfl rfl) rfl rfl ?_
 refine SL.val (Val.move rfl) rfl rfl ?_
 refine SL.bothP (t := 11) rfl ?_ ?_
 rotate_left
 ·intro hc11
  iterate 3 refine SL.skip rfl rfl ?_
  refine SL.val (Val.pickF rfl rfl) rfl rfl ?_
  refine SL.val (Val.move rfl) rfl rfl ?_
  iterate 3 refine SL.skip rfl rfl ?_
  refine SL.val (Val.pickF rfl rfl) rfl rfl ?_
  refine SL.val (Val.move rfl) rfl rfl ?_
  iterate 4 refine SL.skip rfl rfl ?_
  refine SL.val (Val.pickF rfl rfl) rfl rfl ?_
  refine SL.val (Val.move rfl) rfl rfl ?_
  iterate 4 refine SL.skip rfl rfl ?_
  refine SL.val (Val.pickF rfl rfl) rfl rfl ?_
  refine SL.val (Val.assign rfl) rfl rfl ?_
  refine SL.nil (SE.seq ?_)
  refine SC.ret ?_
  refine SE.fin (rs := [.tmp 2]) rfl (RV.tmp rfl RV.nil) (()) (by repeat first|exact s0_ _|exact s1_ _|apply s2_|apply s3_) (by simp [It.rids]) ?_
  first
   | (refine boo_dec0 fun he => ?_; obtain ⟨g1, g2, g3, g4, g5, g6⟩ := he; have g7 := isAmt_true g4; first | omega | (rw [g1] at hc6; cases hc6; done))
   | (refine congrArg (fun b => Abs.v (Value.bool b)) ?_; rw [decide_eq_decide]; exact ⟨fun h => ⟨hc6, hc11, hc16, isAmt_mk hc21.1 hc21.2, by omega, by omega⟩, fun h => by have := h.papers; omega⟩)
 intro hc11
 refine SL.val (Val.fieldAddr tabOk rfl rfl rfl rfl rfl) rfl rfl ?_
 refine SL.val (Val.to (C := int x.amount) (Val.load1 tabOk rfl rfl (by repeat first|assumption|exact o0_|exact o1_|apply o2_) List.not_mem_nil (by rfl)) rfl) rfl rfl ?_
 refine SL.call (within_s (a := x.amount) (b := 1) (c := 1099511627776)) Casts.refl (by kernel_rfl) rfl rfl rfl ?_
 refine ap_ ?_
 intro _
 refine SL.val (Val.pickT rfl rfl) rfl rfl ?_
 refine SL.val (Val.move rfl) rfl rfl ?_
 refine SL.bothP (t := 16) rfl ?_ ?_
 rotate_left
 ·intro hc16
  iterate 3 refine SL.skip rfl rfl ?_
  refine SL.val (Val.pickF rfl rfl) rfl rfl ?_
  refine SL.val (Val.move rfl) rfl rfl ?_
  iterate 4 refine SL.skip rfl rfl ?_
  refine SL.val (Val.pickF rfl rfl) rfl rfl ?_
  refine SL.val (Val.move rfl) rfl rfl ?_
  iterate 4 refine SL.skip rfl rfl ?_
  refine SL.val (Val.pickF rfl rfl) rfl rfl ?_
  refine SL.val (Val.assign rfl) rfl rfl ?_
  refine SL.nil (SE.seq ?_)
  refine SC.ret ?_
  refine SE.fin (rs := [.tmp 2]) rfl (RV.tmp rfl RV.nil) (()) (by repeat first|exact s0_ _|exact s1_ _|apply s2_|apply s3_) (by simp [It.rids]) ?_
  first
   | (refine boo_dec0 fun he => ?_; obtain ⟨g1, g2, g3, g4, g5, g6⟩ := he; have g7 := isAmt_true g4; first | omega | (rw [g1] at hc6; cases hc6; done))
   | (refine congrArg (fun b => Abs.v (Value.bool b)) ?_; rw [decide_eq_decide]; exact ⟨fun h => ⟨hc6, hc11, hc16, isAmt_mk hc21.1 hc21.2, by omega, by omega⟩, fun h => by have := h.papers; omega⟩)
 intro hc16
 refine SL.val (Val.fieldAddr tabOk rfl rfl rfl rfl rfl) rfl rfl ?_
 refine SL.val (Val.to (C := int x.due) (Val.load1 tabOk rfl rfl (by repeat first|assumption|exact o0_|exact o1_|apply o2_) List.not_mem_nil (by rfl)) rfl) rfl rfl ?_
 refine SL.call (within_s (a := x.due) (b := 0) (c := 1099511627776)) Casts.refl (by kernel_rfl) rfl rfl rfl ?_
 refine ap_ ?_
 intro _
 refine SL.val (Val.pickT rfl rfl) rfl rfl ?_
 refine SL.val (Val.move rfl) rfl rfl ?_
 refine SL.bothP (t := 21) rfl ?_ ?_
 rotate_left
 ·intro hc21
  iterate 4 refine SL.skip rfl rfl ?_
  refine SL.val (Val.pickF rfl rfl) rfl rfl ?_
  refine SL.val (Val.move rfl) rfl rfl ?_
  iterate 4 refine SL.skip rfl rfl ?_
  refine SL.val (Val.pickF rfl rfl) rfl rfl ?_
  refine SL.val (Val.assign rfl) rfl rfl ?_
  refine SL.nil (SE.seq ?_)
  refine SC.ret ?_
  refine SE.fin (rs := [.tmp 2]) rfl (RV.tmp rfl RV.nil) (()) (by repeat first|exact s0_ _|exact s1_ _|apply s2_|apply s3_) (by simp [It.rids]) ?_
  first
   | (refine boo_dec0 fun he => ?_; obtain ⟨g1, g2, g3, g4, g5, g6⟩ := he; have g7 := isAmt_true g4; first | omega | (rw [g1] at hc6; cases hc6; done))
   | (refine congrArg (fun b => Abs.v (Value.bool b)) ?_; rw [decide_eq_decide]; exact ⟨fun h => ⟨hc6, hc11, hc16, isAmt_mk hc21.1 hc21.2, by omega, by omega⟩, fun h => by have := h.papers; omega⟩)
 intro hc21
 refine SL.val (Val.fieldAddr tabOk rfl rfl rfl rfl rfl) rfl rfl ?_
 refine SL.val (Val.to (C := st x.policy) (Val.load1 tabOk rfl rfl (by repeat first|assumption|exact o0_|exact o1_|apply o2_) List.not_mem_nil (by rfl)) rfl) rfl rfl ?_
 refine SL.val (Val.lenSt rfl Tryz.underlying9) rfl rfl ?_
 refine SL.val (Val.leI rfl rfl) rfl rfl ?_
 refine SL.val (Val.pickT rfl rfl) rfl rfl ?_
 refine SL.val (Val.move rfl) rfl rfl ?_
 refine SL.bothP (t := 27) rfl ?_ ?_
 ·intro hc27
  refine SL.val (Val.fieldAddr tabOk rfl rfl rfl rfl rfl) rfl rfl ?_
  refine SL.val (Val.to (C := st x.papers) (Val.load1 tabOk rfl rfl (by repeat first|assumption|exact o0_|exact o1_|apply o2_) List.not_mem_nil (by rfl)) rfl) rfl rfl ?_
  refine SL.val (Val.lenSt rfl Tryz.underlying9) rfl rfl ?_
  refine SL.val (Val.leI rfl rfl) rfl rfl ?_
  refine SL.val (Val.pickT rfl rfl) rfl rfl ?_
  refine SL.val (Val.assign rfl) rfl rfl ?_
  refine SL.nil (SE.seq ?_)
  refine SC.ret ?_
  refine SE.fin (rs := [.tmp 2]) rfl (RV.tmp rfl RV.nil) (()) (by repeat first|exact s0_ _|exact s1_ _|apply s2_|apply s3_) (by simp [It.rids]) ?_
  first
   | (refine boo_dec0 fun he => ?_; obtain ⟨g1, g2, g3, g4, g5, g6⟩ := he; have g7 := isAmt_true g4; first | omega | (rw [g1] at hc6; cases hc6; done))
   | (refine congrArg (fun b => Abs.v (Value.bool b)) ?_; rw [decide_eq_decide]; exact ⟨fun h => ⟨hc6, hc11, hc16, isAmt_mk hc21.1 hc21.2, by omega, by omega⟩, fun h => by have := h.papers; omega⟩)
 intro hc27
 iterate 4 refine SL.skip rfl rfl ?_
 refine SL.val (Val.pickF rfl rfl) rfl rfl ?_
 refine SL.val (Val.assign rfl) rfl rfl ?_
 refine SL.nil (SE.seq ?_)
 refine SC.ret ?_
 refine SE.fin (rs := [.tmp 2]) rfl (RV.tmp rfl RV.nil) (()) (by repeat first|exact s0_ _|exact s1_ _|apply s2_|apply s3_) (by simp [It.rids]) ?_
 first
  | (refine boo_dec0 fun he => ?_; obtain ⟨g1, g2, g3, g4, g5, g6⟩ := he; have g7 := isAmt_true g4; first | omega | (rw [g1] at hc6; cases hc6; done))
  | (refine congrArg (fun b => Abs.v (Value.bool b)) ?_; rw [decide_eq_decide]; exact ⟨fun h => ⟨hc6, hc11, hc16, isAmt_mk hc21.1 hc21.2, by omega, by omega⟩, fun h => by have := h.papers; omega⟩)
theorem ocRight_s  : Spec Tryz.prog 85 [.agg o.abs] [] (fun _ : Unit => []) (fun _ => boo (decide (OcR o))) := by
 refine spec_of Tryz.func85 rfl Tryz.ntmps85 rfl fun G w => ?_
 refine SC.seq (SC.region ?_)
 refine SL.eff (Eff.boxA (cs := o.abs) rfl) rfl rfl ?_
 rintro _ _ ⟨b1, rfl, rfl⟩
 refine SL.val (Val.assign rfl) rfl rfl ?_
 refine SL.nil (SE.seq ?_)
 refine SC.seq (SC.region ?_)
 refine SL.val (Val.fieldAddr tabOk rfl rfl rfl rfl rfl) rfl rfl ?_
 refine SL.val (Val.to (C := int o.client) (Val.load1 tabOk rfl rfl (by repeat first|assumption|exact o0_|exact o1_|apply o2_) List.not_mem_nil (by rfl)) rfl) rfl rfl ?_
 refine SL.call (within_s (a := o.client) (b := 0) (c := 63)) Casts.refl (by kernel_rfl) rfl rfl rfl ?_
 refine ap_ ?_
 intro _
 refine SL.val (Val.move rfl) rfl rfl ?_
 refine SL.bothP (t := 6) rfl ?_ ?_
 rotate_left
 ·intro hc6
  iterate 3 refine SL.skip rfl rfl ?_
  refine SL.val (Val.pickF rfl rfl) rfl rfl ?_
  refine SL.val (Val.move rfl) rfl rfl ?_
  iterate 3 refine SL.skip rfl rfl ?_
  refine SL.val (Val.pickF rfl rfl) rfl rfl ?_
  refine SL.val (Val.assign rfl) rfl rfl ?_
  refine SL.nil (SE.seq ?_)
  refine SC.ret ?_
  refine SE.fin (rs := [.tmp 2]) rfl (RV.tmp rfl RV.nil) (()) (by repeat first|exact s0_ _|exact s1_ _|apply s2_|apply s3_) (by simp [It.rids]) ?_
  first
   | (refine boo_dec0 fun he => ?_; obtain ⟨g1, g2, g3⟩ := he; omega)
   | (refine congrArg (fun b => Abs.v (Value.bool b)) ?_; rw [decide_eq_decide]; exact ⟨fun h => ⟨hc6, hc11, h⟩, fun h => h.result⟩)
 intro hc6
 refine SL.val (Val.fieldAddr tabOk rfl rfl rfl rfl rfl) rfl rfl ?_
 refine SL.val (Val.to (C := int o.stamp) (Val.load1 tabOk rfl rfl (by repeat first|assumption|exact o0_|exact o1_|apply o2_) List.not_mem_nil (by rfl)) rfl) rfl rfl ?_
 refine SL.call (within_s (a := o.stamp) (b := 1) (c := 1099511627776)) Casts.refl (by kernel_rfl) rfl rfl rfl ?_
 refine ap_ ?_
 intro _
 refine SL.val (Val.pickT rfl rfl) rfl rfl ?_
 refine SL.val (Val.move rfl) rfl rfl ?_
 refine SL.bothP (t := 11) rfl ?_ ?_
 rotate_left
 ·intro hc11
  iterate 3 refine SL.skip rfl rfl ?_
  refine SL.val (Val.pickF rfl rfl) rfl rfl ?_
  refine SL.val (Val.assign rfl) rfl rfl ?_
  refine SL.nil (SE.seq ?_)
  refine SC.ret ?_
  refine SE.fin (rs := [.tmp 2]) rfl (RV.tmp rfl RV.nil) (()) (by repeat first|exact s0_ _|exact s1_ _|apply s2_|apply s3_) (by simp [It.rids]) ?_
  first
   | (refine boo_dec0 fun he => ?_; obtain ⟨g1, g2, g3⟩ := he; omega)
   | (refine congrArg (fun b => Abs.v (Value.bool b)) ?_; rw [decide_eq_decide]; exact ⟨fun h => ⟨hc6, hc11, h⟩, fun h => h.result⟩)
 intro hc11
 refine SL.val (Val.fieldAddr tabOk rfl rfl rfl rfl rfl) rfl rfl ?_
 refine SL.val (Val.to (C := int o.result) (Val.load1 tabOk rfl rfl (by repeat first|assumption|exact o0_|exact o1_|apply o2_) List.not_mem_nil (by rfl)) rfl) rfl rfl ?_
 refine SL.call (within_s (a := o.result) (b := 0) (c := 99)) Casts.refl (by kernel_rfl) rfl rfl rfl ?_
 refine ap_ ?_
 intro _
 refine SL.val (Val.pickT rfl rfl) rfl rfl ?_
 refine SL.val (Val.assign rfl) rfl rfl ?_
 refine SL.nil (SE.seq ?_)
 refine SC.ret ?_
 refine SE.fin (rs := [.tmp 2]) rfl (RV.tmp rfl RV.nil) (()) (by repeat first|exact s0_ _|exact s1_ _|apply s2_|apply s3_) (by simp [It.rids]) ?_
 first
  | (refine boo_dec0 fun he => ?_; obtain ⟨g1, g2, g3⟩ := he; omega)
  | (refine congrArg (fun b => Abs.v (Value.bool b)) ?_; rw [decide_eq_decide]; exact ⟨fun h => ⟨hc6, hc11, h⟩, fun h => h.result⟩)
set_option maxHeartbeats 1000000 in
theorem risesL_s  : Spec Tryz.prog 82 [.sl 6 (ls.map ltrA), .fn (.func 78) [] [], .fn (.func 83) [] []] [] (fun _ : Unit => []) (fun _ => boo (decide (LtsR ls))) := by
 refine spec_of Tryz.func82 rfl Tryz.ntmps82 rfl fun G w => ?_
 refine SC.seq (SC.region ?_)
 refine SL.val (Val.assign rfl) rfl rfl ?_
 refine SL.nil (SE.seq ?_)
 refine SC.seq ?_
 refine SC.seq (SC.region ?_)
 refine SL.val (Val.move rfl) rfl rfl ?_
 first
  | refine SL.val (Val.lenSl rfl Tryz.underlying27 (List.length_map _)) rfl rfl ?_
  | refine SL.val (Val.lenOwn rfl (by repeat first|assumption|exact m0_|apply m1_) Tryz.underlying27 (List.length_map _)) rfl rfl ?_
  | refine SL.val (Val.lenNil rfl Tryz.underlying27) rfl rfl ?_
 refine SL.val (Val.move rfl) rfl rfl ?_
 refine SL.nil (SE.seq ?_)
 refine SC.block ?_
 refine SC.rowLe (i := 9) rfl fun hrow => ?_
 rw [List.length_map] at hrow
 unfold maxLen at hrow
 refine SC.loop (ι := Nat) (fun z => []) (fun z => [(0, .sl 6 (ls.map ltrA)), (1, .fn (.func 78) [] []), (2, .fn (.func 83) [] []), (9, .sl 6 (ls.map ltrA)), (10, int (ls.length : Nat)), (11, int (z : Nat))]) (fun z => z ≤ ls.length ∧ ∀ j (h : j < ls.length), j < z → LtR ls[j] ∧ (0 < j → ltB (ls[j - 1]'(by omega)).name ls[j].name)) (fun z => ls.length - z) (0) (⟨Nat.zero_le _, fun j h h2 => by omega⟩) (by exact ⟨rfl, rfl, rfl, rfl, rfl, rfl, trivial⟩) (by repeat first|exact s0_ _|exact s1_ _|apply s2_|apply s3_) ?_
 intro z hz
 refine SC.seq (SC.region ?_)
 refine SL.val (Val.ltI rfl rfl) rfl rfl ?_
 refine SL.nil (SE.seq ?_)
 refine SC.seq ?_
 refine SC.condP rfl ?_ ?_
 rotate_left
 ·intro hc12
  refine SC.exit ?_
  refine SE.then_ nofun ?_
  refine SE.then_ nofun ?_
  refine SE.exit ?_
  refine SE.seq ?_
  refine SC.seq (SC.region ?_)
  refine SL.val (Val.assign rfl) rfl rfl ?_
  refine SL.nil (SE.seq ?_)
  refine SC.ret ?_
  refine SE.fin (rs := [.tmp 6]) rfl (RV.tmp rfl RV.nil) (()) (by repeat first|exact s0_ _|exact s1_ _|apply s2_|apply s3_) (by simp [It.rids]) ?_
  refine congrArg (fun b => Abs.v (Value.bool b)) (Eq.symm (decide_eq_true ?_))
  exact ⟨fun j h => (hz.2 j h (by omega)).1, fun j h => (hz.2 j h (by omega)).2⟩
 intro hc12
 have hlt : z < ls.length := by omega
 refine SC.skip ?_
 refine SE.seq ?_
 refine SC.seq ?_
 refine SC.block ?_
 refine SC.seq (SC.region ?_)
 refine SL.val (Val.move rfl) rfl rfl ?_
 refine SL.val (Val.indexSl tabOk Tryz.underlying27 rfl rfl rfl rfl (at_map (by omega)) rfl rfl) rfl rfl ?_
 refine SL.val (Val.loadAR tabOk rfl rfl rfl (by rfl)) rfl rfl ?_
 refine SL.eff (Eff.alloc tabOk rfl) rfl rfl ?_
 rintro _ _ ⟨b8, rfl, rfl⟩
 refine SL.val (Val.assign rfl) rfl rfl ?_
 refine SL.eff (Eff.store (L' := ltrA (ls[z]'hlt)) tabOk rfl rfl rfl (by repeat first|assumption|exact Upd.here|apply Upd.there) rfl (lb_ (by rfl)) rfl (by exact putL_whole rfl)) rfl rfl ?_
 rintro _ _ ⟨rfl, rfl⟩
 refine SL.nil (SE.seq ?_)
 refine SC.seq ?_
 refine SC.draw [] (.q 0 (.q 1 (.q 2 (.q 3 (.q 4 (.q 5 (.q 6 (.q 7 (.q 8 (.q 9 (.e 10 (.q 11 (.q 12 (.q 13 (.q 14 (.q 15 (.e 16 (.q 17 (.q 18 .nil))))))))))))))))))) (by kernel_rfl) (by kernel_rfl) ?_
 refine SX.val rfl (Val.move rfl) (by simp) rfl rfl ?_
 refine SX.val rfl (Val.gtI rfl rfl) (by simp) rfl rfl ?_
 refine SX.val rfl (Val.move rfl) (by simp) rfl rfl ?_
 refine SX.bothP (t := 18) rfl ?_ ?_
 rotate_left
 ·intro hc18
  iterate 7 refine SX.skip rfl rfl rfl ?_
  refine SX.skip' rfl rfl rfl ?_
  refine SX.skip rfl rfl rfl ?_
  refine SX.val rfl (Val.pickF rfl rfl) (by simp) rfl rfl ?_
  refine SX.val rfl (Val.move rfl) (by simp) rfl rfl ?_
  refine SX.val rfl (Val.move rfl) (by simp) rfl rfl ?_
  refine SX.hx (by first|(simp[mids,It.mids,ownPc];done)|(intro k hk;simp[mids,It.mids,ownPc] at hk ⊢;grind)) fun hx9 => ?_
  refine SX.val rfl (Val.to (C := .agg (ltrA (ls[z]'hlt))) (Val.loadP tabOk rfl rfl rfl (by repeat first|assumption|exact o0_|exact o1_|apply o2_) List.not_mem_nil (lb_ (by rfl))) rfl) hx9 rfl rfl ?_
  refine SX.callv rfl (ltrRight_s (x := (ls[z]'hlt))) (by simp [mids, It.mids]) rfl Casts.refl (by kernel_rfl) rfl rfl rfl ?_
  refine ap_ ?_
  intro _
  refine SX.val rfl (Val.notP rfl) (by simp) rfl rfl ?_
  refine SX.val rfl (Val.pickF rfl rfl) (by simp) rfl rfl ?_
  refine SX.nil (SE.seq ?_)
  refine SC.condP rfl ?_ ?_
  rotate_left
  ·intro hc34
   refine SC.skip ?_
   refine SE.inBlock ?_
   refine SE.seq ?_
   refine SC.region ?_
   first
    | refine SL.val (Val.addI rfl rfl (by simp only [InR, lo, hi]; omega)) rfl rfl ?_
    | refine SL.val (Val.addW rfl rfl) rfl rfl ?_
   refine SL.val (Val.move rfl) rfl rfl ?_
   refine SL.nil ?_
   refine SE.round (z + 1) (by first | omega | (dsimp only; omega)) (⟨by omega, fun j h h2 => by rcases Nat.lt_or_ge j z with h3 | h3; exact hz.2 j h h3; obtain rfl : j = z := (by omega); exact ⟨Classical.not_not.1 hc34, fun h0 => by first | exact Classical.not_not.1 hc29 | omega⟩⟩) (by exact ⟨rfl, rfl, rfl, rfl, rfl, rfl, trivial⟩) (by repeat first|exact s0_ _|exact s1_ _|apply s2_|apply s3_)
  intro hc34
  refine SC.seq (SC.region ?_)
  refine SL.val (Val.assign rfl) rfl rfl ?_
  refine SL.nil (SE.seq ?_)
  refine SC.ret ?_
  refine SE.ret ?_
  refine SE.then_ nofun ?_
  refine SE.then_ nofun ?_
  refine SE.ret ?_
  refine SE.then_ nofun ?_
  refine SE.fin (rs := [.tmp 6]) rfl (RV.tmp rfl RV.nil) (()) (by repeat first|exact s0_ _|exact s1_ _|apply s2_|apply s3_) (by simp [It.rids]) ?_
  refine boo_dec0 fun he => ?_
  have g1 := he.each z hlt
  have g2 := he.rise z hlt
  first
   | exact hc34 g1
   | exact hc29 (g2 (by omega))
 intro hc18
 refine SX.val rfl (Val.move rfl) (by simp) rfl rfl ?_
 refine SX.val rfl (Val.move rfl) (by simp) rfl rfl ?_
 refine SX.val rfl (Val.move rfl) (by simp) rfl rfl ?_
 refine SX.hx (by first|(simp[mids,It.mids,ownPc];done)|(intro k hk;simp[mids,It.mids,ownPc] at hk ⊢;grind)) fun hx9 => ?_
 refine SX.val rfl (Val.subI rfl rfl (by simp only [InR, lo, hi]; omega)) hx9 rfl rfl ?_
 refine SX.val rfl (Val.indexSl (q := z - 1) tabOk Tryz.underlying27 rfl rfl rfl (by omega) (at_map (by omega)) rfl rfl) hx9 rfl rfl ?_
 refine SX.val rfl (Val.to (C := .agg (ltrA (ls[z - 1]'(by omega)))) (Val.loadAR tabOk rfl rfl rfl (by rfl)) rfl) hx9 rfl rfl ?_
 refine SX.val rfl (Val.to (C := .agg (ltrA (ls[z]'hlt))) (Val.loadP tabOk rfl rfl rfl (by repeat first|assumption|exact o0_|exact o1_|apply o2_) List.not_mem_nil (lb_ (by rfl))) rfl) hx9 rfl rfl ?_
 refine SX.callv rfl (lessL_s (x := (ls[z - 1]'(by omega))) (y := (ls[z]'hlt))) (by simp [mids, It.mids]) rfl Casts.refl (by kernel_rfl) rfl rfl rfl ?_
 refine ap_ ?_
 intro _
 refine SX.val rfl (Val.notP rfl) (by simp) rfl rfl ?_
 refine SX.val rfl (Val.pickT rfl rfl) (by simp) rfl rfl ?_
 refine SX.val rfl (Val.move rfl) (by simp) rfl rfl ?_
 refine SX.bothP (t := 29) rfl ?_ ?_
 ·intro hc29
  iterate 2 refine SX.skip rfl rfl rfl ?_
  refine SX.skip' rfl rfl rfl ?_
  refine SX.skip rfl rfl rfl ?_
  refine SX.val rfl (Val.pickT rfl rfl) (by simp) rfl rfl ?_
  refine SX.nil (SE.seq ?_)
  refine SC.condT rfl ?_
  refine SC.seq (SC.region ?_)
  refine SL.val (Val.assign rfl) rfl rfl ?_
  refine SL.nil (SE.seq ?_)
  refine SC.ret ?_
  refine SE.ret ?_
  refine SE.then_ nofun ?_
  refine SE.then_ nofun ?_
  refine SE.ret ?_
  refine SE.then_ nofun ?_
  refine SE.fin (rs := [.tmp 6]) rfl (RV.tmp rfl RV.nil) (()) (by repeat first|exact s0_ _|exact s1_ _|apply s2_|apply s3_) (by simp [It.rids]) ?_
  refine boo_dec0 fun he => ?_
  have g1 := he.each z hlt
  have g2 := he.rise z hlt
  first
   | exact hc34 g1
   | exact hc29 (g2 (by omega))
 intro hc29
 refine SX.val rfl (Val.move rfl) (by simp) rfl rfl ?_
 refine SX.hx (by first|(simp[mids,It.mids,ownPc];done)|(intro k hk;simp[mids,It.mids,ownPc] at hk ⊢;grind)) fun hx9 => ?_
 refine SX.val rfl (Val.to (C := .agg (ltrA (ls[z]'hlt))) (Val.loadP tabOk rfl rfl rfl (by repeat first|assumption|exact o0_|exact o1_|apply o2_) List.not_mem_nil (lb_ (by rfl))) rfl) hx9 rfl rfl ?_
 refine SX.callv rfl (ltrRight_s (x := (ls[z]'hlt))) (by simp [mids, It.mids]) rfl Casts.refl (by kernel_rfl) rfl rfl rfl ?_
 refine ap_ ?_
 intro _
 refine SX.val rfl (Val.notP rfl) (by simp) rfl rfl ?_
 refine SX.val rfl (Val.pickF rfl rfl) (by simp) rfl rfl ?_
 refine SX.nil (SE.seq ?_)
 refine SC.condP rfl ?_ ?_
 rotate_left
 ·intro hc34
  refine SC.skip ?_
  refine SE.inBlock ?_
  refine SE.seq ?_
  refine SC.region ?_
  first
   | refine SL.val (Val.addI rfl rfl (by simp only [InR, lo, hi]; omega)) rfl rfl ?_
   | refine SL.val (Val.addW rfl rfl) rfl rfl ?_
  refine SL.val (Val.move rfl) rfl rfl ?_
  refine SL.nil ?_
  refine SE.round (z + 1) (by first | omega | (dsimp only; omega)) (⟨by omega, fun j h h2 => by rcases Nat.lt_or_ge j z with h3 | h3; exact hz.2 j h h3; obtain rfl : j = z := (by omega); exact ⟨Classical.not_not.1 hc34, fun h0 => by first | exact Classical.not_not.1 hc29 | omega⟩⟩) (by exact ⟨rfl, rfl, rfl, rfl, rfl, rfl, trivial⟩) (by repeat first|exact s0_ _|exact s1_ _|apply s2_|apply s3_)
 intro hc34
 refine SC.seq (SC.region ?_)
 refine SL.val (Val.assign rfl) rfl rfl ?_
 refine SL.nil (SE.seq ?_)
 refine SC.ret ?_
 refine SE.ret ?_
 refine SE.then_ nofun ?_
 refine SE.then_ nofun ?_
 refine SE.ret ?_
 refine SE.then_ nofun ?_
 refine SE.fin (rs := [.tmp 6]) rfl (RV.tmp rfl RV.nil) (()) (by repeat first|exact s0_ _|exact s1_ _|apply s2_|apply s3_) (by simp [It.rids]) ?_
 refine boo_dec0 fun he => ?_
 have g1 := he.each z hlt
 have g2 := he.rise z hlt
 first
  | exact hc34 g1
  | exact hc29 (g2 (by omega))
set_option maxHeartbeats 1000000 in
theorem risesO_s  : Spec Tryz.prog 84 [.sl 3 (os.map Oc.abs), .fn (.func 79) [] [], .fn (.func 85) [] []] [] (fun _ : Unit => []) (fun _ => boo (decide (OcsR os))) := by
 refine spec_of Tryz.func84 rfl Tryz.ntmps84 rfl fun G w => ?_
 refine SC.seq (SC.region ?_)
 refine SL.val (Val.assign rfl) rfl rfl ?_
 refine SL.nil (SE.seq ?_)
 refine SC.seq ?_
 refine SC.seq (SC.region ?_)
 refine SL.val (Val.move rfl) rfl rfl ?_
 first
  | refine SL.val (Val.lenSl rfl Tryz.underlying28 (List.length_map _)) rfl rfl ?_
  | refine SL.val (Val.lenOwn rfl (by repeat first|assumption|exact m0_|apply m1_) Tryz.underlying28 (List.length_map _)) rfl rfl ?_
  | refine SL.val (Val.lenNil rfl Tryz.underlying28) rfl rfl ?_
 refine SL.val (Val.move rfl) rfl rfl ?_
 refine SL.nil (SE.seq ?_)
 refine SC.block ?_
 refine SC.rowLe (i := 9) rfl fun hrow => ?_
 rw [List.length_map] at hrow
 unfold maxLen at hrow
 refine SC.loop (ι := Nat) (fun z => []) (fun z => [(0, .sl 3 (os.map Oc.abs)), (1, .fn (.func 79) [] []), (2, .fn (.func 85) [] []), (9, .sl 3 (os.map Oc.abs)), (10, int (os.length : Nat)), (11, int (z : Nat))]) (fun z => z ≤ os.length ∧ ∀ j (h : j < os.length), j < z → OcR os[j] ∧ (0 < j → (os[j - 1]'(by omega)).client < os[j].client)) (fun z => os.length - z) (0) (⟨Nat.zero_le _, fun j h h2 => by omega⟩) (by exact ⟨rfl, rfl, rfl, rfl, rfl, rfl, trivial⟩) (by repeat first|exact s0_ _|exact s1_ _|apply s2_|apply s3_) ?_
 intro z hz
 refine SC.seq (SC.region ?_)
 refine SL.val (Val.ltI rfl rfl) rfl rfl ?_
 refine SL.nil (SE.seq ?_)
 refine SC.seq ?_
 refine SC.condP rfl ?_ ?_
 rotate_left
 ·intro hc12
  refine SC.exit ?_
  refine SE.then_ nofun ?_
  refine SE.then_ nofun ?_
  refine SE.exit ?_
  refine SE.seq ?_
  refine SC.seq (SC.region ?_)
  refine SL.val (Val.assign rfl) rfl rfl ?_
  refine SL.nil (SE.seq ?_)
  refine SC.ret ?_
  refine SE.fin (rs := [.tmp 6]) rfl (RV.tmp rfl RV.nil) (()) (by repeat first|exact s0_ _|exact s1_ _|apply s2_|apply s3_) (by simp [It.rids]) ?_
  refine congrArg (fun b => Abs.v (Value.bool b)) (Eq.symm (decide_eq_true ?_))
  exact ⟨fun j h => (hz.2 j h (by omega)).1, fun j h => (hz.2 j h (by omega)).2⟩
 intro hc12
 have hlt : z < os.length := by omega
 refine SC.skip ?_
 refine SE.seq ?_
 refine SC.seq ?_
 refine SC.block ?_
 refine SC.seq (SC.region ?_)
 refine SL.val (Val.move rfl) rfl rfl ?_
 refine SL.val (Val.indexSl tabOk Tryz.underlying28 rfl rfl rfl rfl (at_map (by omega)) rfl rfl) rfl rfl ?_
 refine SL.val (Val.loadAR tabOk rfl rfl rfl (by rfl)) rfl rfl ?_
 refine SL.eff (Eff.alloc tabOk rfl) rfl rfl ?_
 rintro _ _ ⟨b8, rfl, rfl⟩
 refine SL.val (Val.assign rfl) rfl rfl ?_
 refine SL.eff (Eff.store (L' := Oc.abs (os[z]'hlt)) tabOk rfl rfl rfl (by repeat first|assumption|exact Upd.here|apply Upd.there) rfl (lb_ (by rfl)) rfl (by exact putL_whole rfl)) rfl rfl ?_
 rintro _ _ ⟨rfl, rfl⟩
 refine SL.nil (SE.seq ?_)
 refine SC.seq ?_
 refine SC.draw [] (.q 0 (.q 1 (.q 2 (.q 3 (.q 4 (.q 5 (.q 6 (.q 7 (.q 8 (.q 9 (.e 10 (.q 11 (.q 12 (.q 13 (.q 14 (.q 15 (.e 16 (.q 17 (.q 18 .nil))))))))))))))))))) (by kernel_rfl) (by kernel_rfl) ?_
 refine SX.val rfl (Val.move rfl) (by simp) rfl rfl ?_
 refine SX.val rfl (Val.gtI rfl rfl) (by simp) rfl rfl ?_
 refine SX.val rfl (Val.move rfl) (by simp) rfl rfl ?_
 refine SX.bothP (t := 18) rfl ?_ ?_
 rotate_left
 ·intro hc18
  iterate 7 refine SX.skip rfl rfl rfl ?_
  refine SX.skip' rfl rfl rfl ?_
  refine SX.skip rfl rfl rfl ?_
  refine SX.val rfl (Val.pickF rfl rfl) (by simp) rfl rfl ?_
  refine SX.val rfl (Val.move rfl) (by simp) rfl rfl ?_
  refine SX.val rfl (Val.move rfl) (by simp) rfl rfl ?_
  refine SX.hx (by first|(simp[mids,It.mids,ownPc];done)|(intro k hk;simp[mids,It.mids,ownPc] at hk ⊢;grind)) fun hx9 => ?_
  refine SX.val rfl (Val.to (C := .agg (Oc.abs (os[z]'hlt))) (Val.loadP tabOk rfl rfl rfl (by repeat first|assumption|exact o0_|exact o1_|apply o2_) List.not_mem_nil (lb_ (by rfl))) rfl) hx9 rfl rfl ?_
  refine SX.callv rfl (ocRight_s (o := (os[z]'hlt))) (by simp [mids, It.mids]) rfl Casts.refl (by kernel_rfl) rfl rfl rfl ?_
  refine ap_ ?_
  intro _
  refine SX.val rfl (Val.notP rfl) (by simp) rfl rfl ?_
  refine SX.val rfl (Val.pickF rfl rfl) (by simp) rfl rfl ?_
  refine SX.nil (SE.seq ?_)
  refine SC.condP rfl ?_ ?_
  rotate_left
  ·intro hc34
   refine SC.skip ?_
   refine SE.inBlock ?_
   refine SE.seq ?_
   refine SC.region ?_
   first
    | refine SL.val (Val.addI rfl rfl (by simp only [InR, lo, hi]; omega)) rfl rfl ?_
    | refine SL.val (Val.addW rfl rfl) rfl rfl ?_
   refine SL.val (Val.move rfl) rfl rfl ?_
   refine SL.nil ?_
   refine SE.round (z + 1) (by first | omega | (dsimp only; omega)) (⟨by omega, fun j h h2 => by rcases Nat.lt_or_ge j z with h3 | h3; exact hz.2 j h h3; obtain rfl : j = z := (by omega); exact ⟨Classical.not_not.1 hc34, fun h0 => by first | exact Classical.not_not.1 hc29 | omega⟩⟩) (by exact ⟨rfl, rfl, rfl, rfl, rfl, rfl, trivial⟩) (by repeat first|exact s0_ _|exact s1_ _|apply s2_|apply s3_)
  intro hc34
  refine SC.seq (SC.region ?_)
  refine SL.val (Val.assign rfl) rfl rfl ?_
  refine SL.nil (SE.seq ?_)
  refine SC.ret ?_
  refine SE.ret ?_
  refine SE.then_ nofun ?_
  refine SE.then_ nofun ?_
  refine SE.ret ?_
  refine SE.then_ nofun ?_
  refine SE.fin (rs := [.tmp 6]) rfl (RV.tmp rfl RV.nil) (()) (by repeat first|exact s0_ _|exact s1_ _|apply s2_|apply s3_) (by simp [It.rids]) ?_
  refine boo_dec0 fun he => ?_
  have g1 := he.each z hlt
  have g2 := he.rise z hlt
  first
   | exact hc34 g1
   | exact hc29 (g2 (by omega))
 intro hc18
 refine SX.val rfl (Val.move rfl) (by simp) rfl rfl ?_
 refine SX.val rfl (Val.move rfl) (by simp) rfl rfl ?_
 refine SX.val rfl (Val.move rfl) (by simp) rfl rfl ?_
 refine SX.hx (by first|(simp[mids,It.mids,ownPc];done)|(intro k hk;simp[mids,It.mids,ownPc] at hk ⊢;grind)) fun hx9 => ?_
 refine SX.val rfl (Val.subI rfl rfl (by simp only [InR, lo, hi]; omega)) hx9 rfl rfl ?_
 refine SX.val rfl (Val.indexSl (q := z - 1) tabOk Tryz.underlying28 rfl rfl rfl (by omega) (at_map (by omega)) rfl rfl) hx9 rfl rfl ?_
 refine SX.val rfl (Val.to (C := .agg (Oc.abs (os[z - 1]'(by omega)))) (Val.loadAR tabOk rfl rfl rfl (by rfl)) rfl) hx9 rfl rfl ?_
 refine SX.val rfl (Val.to (C := .agg (Oc.abs (os[z]'hlt))) (Val.loadP tabOk rfl rfl rfl (by repeat first|assumption|exact o0_|exact o1_|apply o2_) List.not_mem_nil (lb_ (by rfl))) rfl) hx9 rfl rfl ?_
 refine SX.callv rfl (lessO_s (o := (os[z - 1]'(by omega))) (q := (os[z]'hlt))) (by simp [mids, It.mids]) rfl Casts.refl (by kernel_rfl) rfl rfl rfl ?_
 refine ap_ ?_
 intro _
 refine SX.val rfl (Val.notP rfl) (by simp) rfl rfl ?_
 refine SX.val rfl (Val.pickT rfl rfl) (by simp) rfl rfl ?_
 refine SX.val rfl (Val.move rfl) (by simp) rfl rfl ?_
 refine SX.bothP (t := 29) rfl ?_ ?_
 ·intro hc29
  iterate 2 refine SX.skip rfl rfl rfl ?_
  refine SX.skip' rfl rfl rfl ?_
  refine SX.skip rfl rfl rfl ?_
  refine SX.val rfl (Val.pickT rfl rfl) (by simp) rfl rfl ?_
  refine SX.nil (SE.seq ?_)
  refine SC.condT rfl ?_
  refine SC.seq (SC.region ?_)
  refine SL.val (Val.assign rfl) rfl rfl ?_
  refine SL.nil (SE.seq ?_)
  refine SC.ret ?_
  refine SE.ret ?_
  refine SE.then_ nofun ?_
  refine SE.then_ nofun ?_
  refine SE.ret ?_
  refine SE.then_ nofun ?_
  refine SE.fin (rs := [.tmp 6]) rfl (RV.tmp rfl RV.nil) (()) (by repeat first|exact s0_ _|exact s1_ _|apply s2_|apply s3_) (by simp [It.rids]) ?_
  refine boo_dec0 fun he => ?_
  have g1 := he.each z hlt
  have g2 := he.rise z hlt
  first
   | exact hc34 g1
   | exact hc29 (g2 (by omega))
 intro hc29
 refine SX.val rfl (Val.move rfl) (by simp) rfl rfl ?_
 refine SX.hx (by first|(simp[mids,It.mids,ownPc];done)|(intro k hk;simp[mids,It.mids,ownPc] at hk ⊢;grind)) fun hx9 => ?_
 refine SX.val rfl (Val.to (C := .agg (Oc.abs (os[z]'hlt))) (Val.loadP tabOk rfl rfl rfl (by repeat first|assumption|exact o0_|exact o1_|apply o2_) List.not_mem_nil (lb_ (by rfl))) rfl) hx9 rfl rfl ?_
 refine SX.callv rfl (ocRight_s (o := (os[z]'hlt))) (by simp [mids, It.mids]) rfl Casts.refl (by kernel_rfl) rfl rfl rfl ?_
 refine ap_ ?_
 intro _
 refine SX.val rfl (Val.notP rfl) (by simp) rfl rfl ?_
 refine SX.val rfl (Val.pickF rfl rfl) (by simp) rfl rfl ?_
 refine SX.nil (SE.seq ?_)
 refine SC.condP rfl ?_ ?_
 rotate_left
 ·intro hc34
  refine SC.skip ?_
  refine SE.inBlock ?_
  refine SE.seq ?_
  refine SC.region ?_
  first
   | refine SL.val (Val.addI rfl rfl (by simp only [InR, lo, hi]; omega)) rfl rfl ?_
   | refine SL.val (Val.addW rfl rfl) rfl rfl ?_
  refine SL.val (Val.move rfl) rfl rfl ?_
  refine SL.nil ?_
  refine SE.round (z + 1) (by first | omega | (dsimp only; omega)) (⟨by omega, fun j h h2 => by rcases Nat.lt_or_ge j z with h3 | h3; exact hz.2 j h h3; obtain rfl : j = z := (by omega); exact ⟨Classical.not_not.1 hc34, fun h0 => by first | exact Classical.not_not.1 hc29 | omega⟩⟩) (by exact ⟨rfl, rfl, rfl, rfl, rfl, rfl, trivial⟩) (by repeat first|exact s0_ _|exact s1_ _|apply s2_|apply s3_)
 intro hc34
 refine SC.seq (SC.region ?_)
 refine SL.val (Val.assign rfl) rfl rfl ?_
 refine SL.nil (SE.seq ?_)
 refine SC.ret ?_
 refine SE.ret ?_
 refine SE.then_ nofun ?_
 refine SE.then_ nofun ?_
 refine SE.ret ?_
 refine SE.then_ nofun ?_
 refine SE.fin (rs := [.tmp 6]) rfl (RV.tmp rfl RV.nil) (()) (by repeat first|exact s0_ _|exact s1_ _|apply s2_|apply s3_) (by simp [It.rids]) ?_
 refine boo_dec0 fun he => ?_
 have g1 := he.each z hlt
 have g2 := he.rise z hlt
 first
  | exact hc34 g1
  | exact hc29 (g2 (by omega))
set_option maxHeartbeats 1000000 in
theorem lcheck_s (hl : i64ok l.total) : Spec Tryz.prog 51 [.agg l.abs] [] (fun _ : Unit => []) (fun _ => int l.chk) := by
 refine spec_of Tryz.func51 rfl Tryz.ntmps51 rfl fun G w => ?_
 refine SC.seq (SC.region ?_)
 refine SL.eff (Eff.boxA (cs := l.abs) rfl) rfl rfl ?_
 rintro _ _ ⟨b1, rfl, rfl⟩
 refine SL.val (Val.assign rfl) rfl rfl ?_
 refine SL.nil (SE.seq ?_)
 refine SC.seq (SC.region ?_)
 refine SL.val (Val.assign rfl) rfl rfl ?_
 refine SL.nil (SE.seq ?_)
 refine SC.seq (SC.region ?_)
 refine SL.val (Val.assign rfl) rfl rfl ?_
 refine SL.nil (SE.seq ?_)
 refine SC.seq ?_
 refine SC.seq (SC.region ?_)
 refine SL.val (Val.fieldAddr tabOk rfl rfl rfl rfl rfl) rfl rfl ?_
 refine SL.val (Val.to (C := int l.seq) (Val.load1 tabOk rfl rfl (by repeat first|assumption|exact o0_|exact o1_|apply o2_) List.not_mem_nil (by rfl)) rfl) rfl rfl ?_
 refine SL.call (within_s (a := l.seq) (b := 0) (c := 1048576)) Casts.refl (by kernel_rfl) rfl rfl rfl ?_
 refine ap_ ?_
 intro _
 refine SL.val (Val.notP rfl) rfl rfl ?_
 refine SL.val (Val.move rfl) rfl rfl ?_
 refine SL.bothP (t := 9) rfl ?_ ?_
 ·intro hc9
  iterate 4 refine SL.skip rfl rfl ?_
  refine SL.val (Val.pickT rfl rfl) rfl rfl ?_
  refine SL.val (Val.move rfl) rfl rfl ?_
  iterate 4 refine SL.skip rfl rfl ?_
  refine SL.val (Val.pickT rfl rfl) rfl rfl ?_
  refine SL.val (Val.move rfl) rfl rfl ?_
  iterate 4 refine SL.skip rfl rfl ?_
  refine SL.val (Val.pickT rfl rfl) rfl rfl ?_
  refine SL.val (Val.move rfl) rfl rfl ?_
  iterate 5 refine SL.skip rfl rfl ?_
  refine SL.val (Val.pickT rfl rfl) rfl rfl ?_
  refine SL.val (Val.move rfl) rfl rfl ?_
  iterate 5 refine SL.skip rfl rfl ?_
  refine SL.val (Val.pickT rfl rfl) rfl rfl ?_
  refine SL.nil (SE.seq ?_)
  refine SC.condT rfl ?_
  refine SC.seq (SC.region ?_)
  refine SL.val (Val.assign rfl) rfl rfl ?_
  refine SL.nil (SE.seq ?_)
  refine SC.ret ?_
  refine SE.then_ nofun ?_
  refine SE.fin (rs := [.tmp 2]) rfl (RV.tmp rfl RV.nil) (()) (by repeat first|exact s0_ _|exact s1_ _|apply s2_|apply s3_) (by simp [It.rids]) ?_
  show retA [int 2] = int (if l.Right then 0 else 2)
  rw [if_neg (fun he : l.Right => by
   obtain ⟨g1, g2, g3, g4, g5, g6⟩ := he
   first
    | omega
    | (rw [g3] at hc15; cases hc15; done)
    | exact hc34 g5
    | exact hc40 g1)]
  rfl
 intro hc9
 refine SL.val (Val.fieldAddr tabOk rfl rfl rfl rfl rfl) rfl rfl ?_
 refine SL.val (Val.to (C := int l.total) (Val.load1 tabOk rfl rfl (by repeat first|assumption|exact o0_|exact o1_|apply o2_) List.not_mem_nil (by rfl)) rfl) rfl rfl ?_
 refine SL.call (mis_s (a := l.total) hl) Casts.refl (by kernel_rfl) rfl rfl rfl ?_
 refine ap_ ?_
 intro _
 refine SL.val (Val.notB rfl) rfl rfl ?_
 refine SL.val (Val.pickF rfl rfl) rfl rfl ?_
 refine SL.val (Val.move rfl) rfl rfl ?_
 refine SL.both (t := 15) rfl ?_ ?_
 ·intro hc15
  iterate 4 refine SL.skip rfl rfl ?_
  refine SL.val (Val.pickT rfl rfl) rfl rfl ?_
  refine SL.val (Val.move rfl) rfl rfl ?_
  iterate 4 refine SL.skip rfl rfl ?_
  refine SL.val (Val.pickT rfl rfl) rfl rfl ?_
  refine SL.val (Val.move rfl) rfl rfl ?_
  iterate 5 refine SL.skip rfl rfl ?_
  refine SL.val (Val.pickT rfl rfl) rfl rfl ?_
  refine SL.val (Val.move rfl) rfl rfl ?_
  iterate 5 refine SL.skip rfl rfl ?_
  refine SL.val (Val.pickT rfl rfl) rfl rfl ?_
  refine SL.nil (SE.seq ?_)
  refine SC.condT rfl ?_
  refine SC.seq (SC.region ?_)
  refine SL.val (Val.assign rfl) rfl rfl ?_
  refine SL.nil (SE.seq ?_)
  refine SC.ret ?_
  refine SE.then_ nofun ?_
  refine SE.fin (rs := [.tmp 2]) rfl (RV.tmp rfl RV.nil) (()) (by repeat first|exact s0_ _|exact s1_ _|apply s2_|apply s3_) (by simp [It.rids]) ?_
  show retA [int 2] = int (if l.Right then 0 else 2)
  rw [if_neg (fun he : l.Right => by
   obtain ⟨g1, g2, g3, g4, g5, g6⟩ := he
   first
    | omega
    | (rw [g3] at hc15; cases hc15; done)
    | exact hc34 g5
    | exact hc40 g1)]
  rfl
 intro hc15
 refine SL.val (Val.fieldAddr tabOk rfl rfl rfl rfl rfl) rfl rfl ?_
 refine SL.val (Val.to (C := .sl 6 (l.ls.map ltrA)) (Val.load1 tabOk rfl rfl (by repeat first|assumption|exact o0_|exact o1_|apply o2_) List.not_mem_nil (by rfl)) rfl) rfl rfl ?_
 first
  | refine SL.val (Val.lenSl rfl Tryz.underlying27 (List.length_map _)) rfl rfl ?_
  | refine SL.val (Val.lenOwn rfl (by repeat first|assumption|exact m0_|apply m1_) Tryz.underlying27 (List.length_map _)) rfl rfl ?_
  | refine SL.val (Val.lenNil rfl Tryz.underlying27) rfl rfl ?_
 refine SL.val (Val.gtI rfl rfl) rfl rfl ?_
 refine SL.val (Val.pickF rfl rfl) rfl rfl ?_
 refine SL.val (Val.move rfl) rfl rfl ?_
 refine SL.bothP (t := 21) rfl ?_ ?_
 ·intro hc21
  iterate 4 refine SL.skip rfl rfl ?_
  refine SL.val (Val.pickT rfl rfl) rfl rfl ?_
  refine SL.val (Val.move rfl) rfl rfl ?_
  iterate 5 refine SL.skip rfl rfl ?_
  refine SL.val (Val.pickT rfl rfl) rfl rfl ?_
  refine SL.val (Val.move rfl) rfl rfl ?_
  iterate 5 refine SL.skip rfl rfl ?_
  refine SL.val (Val.pickT rfl rfl) rfl rfl ?_
  refine SL.nil (SE.seq ?_)
  refine SC.condT rfl ?_
  refine SC.seq (SC.region ?_)
  refine SL.val (Val.assign rfl) rfl rfl ?_
  refine SL.nil (SE.seq ?_)
  refine SC.ret ?_
  refine SE.then_ nofun ?_
  refine SE.fin (rs := [.tmp 2]) rfl (RV.tmp rfl RV.nil) (()) (by repeat first|exact s0_ _|exact s1_ _|apply s2_|apply s3_) (by simp [It.rids]) ?_
  show retA [int 2] = int (if l.Right then 0 else 2)
  rw [if_neg (fun he : l.Right => by
   obtain ⟨g1, g2, g3, g4, g5, g6⟩ := he
   first
    | omega
    | (rw [g3] at hc15; cases hc15; done)
    | exact hc34 g5
    | exact hc40 g1)]
  rfl
 intro hc21
 refine SL.val (Val.fieldAddr tabOk rfl rfl rfl rfl rfl) rfl rfl ?_
 refine SL.val (Val.to (C := .sl 3 (l.os.map Oc.abs)) (Val.load1 tabOk rfl rfl (by repeat first|assumption|exact o0_|exact o1_|apply o2_) List.not_mem_nil (by rfl)) rfl) rfl rfl ?_
 first
  | refine SL.val (Val.lenSl rfl Tryz.underlying28 (List.length_map _)) rfl rfl ?_
  | refine SL.val (Val.lenOwn rfl (by repeat first|assumption|exact m0_|apply m1_) Tryz.underlying28 (List.length_map _)) rfl rfl ?_
  | refine SL.val (Val.lenNil rfl Tryz.underlying28) rfl rfl ?_
 refine SL.val (Val.gtI rfl rfl) rfl rfl ?_
 refine SL.val (Val.pickF rfl rfl) rfl rfl ?_
 refine SL.val (Val.move rfl) rfl rfl ?_
 refine SL.bothP (t := 27) rfl ?_ ?_
 ·intro hc27
  iterate 5 refine SL.skip rfl rfl ?_
  refine SL.val (Val.pickT rfl rfl) rfl rfl ?_
  refine SL.val (Val.move rfl) rfl rfl ?_
  iterate 5 refine SL.skip rfl rfl ?_
  refine SL.val (Val.pickT rfl rfl) rfl rfl ?_
  refine SL.nil (SE.seq ?_)
  refine SC.condT rfl ?_
  refine SC.seq (SC.region ?_)
  refine SL.val (Val.assign rfl) rfl rfl ?_
  refine SL.nil (SE.seq ?_)
  refine SC.ret ?_
  refine SE.then_ nofun ?_
  refine SE.fin (rs := [.tmp 2]) rfl (RV.tmp rfl RV.nil) (()) (by repeat first|exact s0_ _|exact s1_ _|apply s2_|apply s3_) (by simp [It.rids]) ?_
  show retA [int 2] = int (if l.Right then 0 else 2)
  rw [if_neg (fun he : l.Right => by
   obtain ⟨g1, g2, g3, g4, g5, g6⟩ := he
   first
    | omega
    | (rw [g3] at hc15; cases hc15; done)
    | exact hc34 g5
    | exact hc40 g1)]
  rfl
 intro hc27
 refine SL.val (Val.fieldAddr tabOk rfl rfl rfl rfl rfl) rfl rfl ?_
 refine SL.val (Val.to (C := .sl 6 (l.ls.map ltrA)) (Val.load1 tabOk rfl rfl (by repeat first|assumption|exact o0_|exact o1_|apply o2_) List.not_mem_nil (by rfl)) rfl) rfl rfl ?_
 refine SL.val (Val.move rfl) rfl rfl ?_
 refine SL.call (risesL_s (ls := l.ls)) Casts.refl (by kernel_rfl) rfl rfl rfl ?_
 refine ap_ ?_
 intro _
 refine SL.val (Val.notP rfl) rfl rfl ?_
 refine SL.val (Val.pickF rfl rfl) rfl rfl ?_
 refine SL.val (Val.move rfl) rfl rfl ?_
 refine SL.bothP (t := 34) rfl ?_ ?_
 ·intro hc34
  iterate 5 refine SL.skip rfl rfl ?_
  refine SL.val (Val.pickT rfl rfl) rfl rfl ?_
  refine SL.nil (SE.seq ?_)
  refine SC.condT rfl ?_
  refine SC.seq (SC.region ?_)
  refine SL.val (Val.assign rfl) rfl rfl ?_
  refine SL.nil (SE.seq ?_)
  refine SC.ret ?_
  refine SE.then_ nofun ?_
  refine SE.fin (rs := [.tmp 2]) rfl (RV.tmp rfl RV.nil) (()) (by repeat first|exact s0_ _|exact s1_ _|apply s2_|apply s3_) (by simp [It.rids]) ?_
  show retA [int 2] = int (if l.Right then 0 else 2)
  rw [if_neg (fun he : l.Right => by
   obtain ⟨g1, g2, g3, g4, g5, g6⟩ := he
   first
    | omega
    | (rw [g3] at hc15; cases hc15; done)
    | exact hc34 g5
    | exact hc40 g1)]
  rfl
 intro hc34
 refine SL.val (Val.fieldAddr tabOk rfl rfl rfl rfl rfl) rfl rfl ?_
 refine SL.val (Val.to (C := .sl 3 (l.os.map Oc.abs)) (Val.load1 tabOk rfl rfl (by repeat first|assumption|exact o0_|exact o1_|apply o2_) List.not_mem_nil (by rfl)) rfl) rfl rfl ?_
 refine SL.val (Val.move rfl) rfl rfl ?_
 refine SL.call (risesO_s (os := l.os)) Casts.refl (by kernel_rfl) rfl rfl rfl ?_
 refine ap_ ?_
 intro _
 refine SL.val (Val.notP rfl) rfl rfl ?_
 refine SL.val (Val.pickF rfl rfl) rfl rfl ?_
 refine SL.nil (SE.seq ?_)
 refine SC.condP rfl ?_ ?_
 rotate_left
 ·intro hc40
  refine SC.skip ?_
  refine SE.seq ?_
  refine SC.seq (SC.region ?_)
  refine SL.val (Val.assign rfl) rfl rfl ?_
  refine SL.nil (SE.seq ?_)
  refine SC.ret ?_
  refine SE.fin (rs := [.tmp 2]) rfl (RV.tmp rfl RV.nil) (()) (by repeat first|exact s0_ _|exact s1_ _|apply s2_|apply s3_) (by simp [It.rids]) ?_
  show retA [int 0] = int (if l.Right then 0 else 2)
  rw [if_pos (show l.Right from ⟨Classical.not_not.1 hc40, Classical.not_not.1 hc9, by simpa using hc15, by omega, Classical.not_not.1 hc34, by omega⟩)]
  rfl
 intro hc40
 refine SC.seq (SC.region ?_)
 refine SL.val (Val.assign rfl) rfl rfl ?_
 refine SL.nil (SE.seq ?_)
 refine SC.ret ?_
 refine SE.then_ nofun ?_
 refine SE.fin (rs := [.tmp 2]) rfl (RV.tmp rfl RV.nil) (()) (by repeat first|exact s0_ _|exact s1_ _|apply s2_|apply s3_) (by simp [It.rids]) ?_
 show retA [int 2] = int (if l.Right then 0 else 2)
 rw [if_neg (fun he : l.Right => by
  obtain ⟨g1, g2, g3, g4, g5, g6⟩ := he
  first
   | omega
   | (rw [g3] at hc15; cases hc15; done)
   | exact hc34 g5
   | exact hc40 g1)]
 rfl
end
end Go.Proofs.YtickdhjljpnlpaaGreatDoor.A
/-
  Ledgers as bytes.
-/
namespace Go.Proofs.YtickdhjljpnlpaaGreatDoor.A
open Go.RowKit

section
variable {l : Lg} {x y : Ltr} {o q : Oc} {a b c k n : Int} {ls : List Ltr} {os : List Oc} {m : List UInt8}
theorem ltrs_step {H : List UInt8} {z : Nat} (hlt : z < l.ls.length) : H ++ ltrsB (l.ls.take z) ++ beBytes (tx (l.ls[z]'hlt).name).length 4 ++ tx (l.ls[z]'hlt).name ++ beBytes (u64 (l.ls[z]'hlt).state) 1 ++ beBytes (u64 (l.ls[z]'hlt).amount) 8 ++ beBytes (u64 (l.ls[z]'hlt).due) 8 ++ beBytes (tx (l.ls[z]'hlt).policy).length 4 ++ tx (l.ls[z]'hlt).policy ++ beBytes (tx (l.ls[z]'hlt).papers).length 4 ++ tx (l.ls[z]'hlt).papers = H ++ ltrsB (l.ls.take (z + 1)) := by
  rw [List.take_succ_eq_append_getElem hlt]
  unfold ltrsB
  rw [List.flatMap_append]
  simp [ltrByt]
theorem ocs_step {H : List UInt8} {z : Nat} (hlt : z < l.os.length) : H ++ ocsB (l.os.take z) ++ beBytes (u64 (l.os[z]'hlt).client) 1 ++ beBytes (u64 (l.os[z]'hlt).stamp) 8 ++ beBytes (u64 (l.os[z]'hlt).result) 1 = H ++ ocsB (l.os.take (z + 1)) := by
  rw [List.take_succ_eq_append_getElem hlt]
  unfold ocsB
  rw [List.flatMap_append]
  simp [Oc.bytes]
theorem ltr_sizes (h : LtR x) : x.name.size ≤ 16 ∧ x.policy.size ≤ 200 ∧ x.papers.size ≤ 200 := by
  have := h.name
  unfold nameB at this
  simp only [Bool.and_eq_true, decide_eq_true_eq] at this
  exact ⟨by omega, h.policy, h.papers⟩
theorem u64_lt18 (a : Int) : u64 a < 18446744073709551616 := by
  unfold u64
  omega
theorem num8_s (hl : m.length ≤ 100000000) : Spec Tryz.prog 52 [byt m, int a] [] (fun _ : Unit => []) (fun _ => byt (m ++ beBytes (u64 a) 8)) := by
 have hL : lots = 100000000000 := rfl
 refine spec_of Tryz.func52 rfl Tryz.ntmps52 rfl fun G w => ?_
 refine SC.seq (SC.region ?_)
 refine SL.val (Val.assign rfl) rfl rfl ?_
 refine SL.nil (SE.seq ?_)
 refine SC.seq (SC.region ?_)
 iterate 2 refine SL.val (Val.move rfl) rfl rfl ?_
 refine SL.val (Val.convU rfl Tryz.underlying79 (by kernel_rfl)) rfl rfl ?_
 refine SL.call (put_s (l := m) (x := u64 a) (n := 8) (by omega) (u64_lt18 a) rfl) Casts.refl (by kernel_rfl) rfl rfl rfl ?_
 refine ap_ ?_
 intro _
 refine SL.val (Val.assign rfl) rfl rfl ?_
 refine SL.nil (SE.seq ?_)
 refine SC.ret ?_
 refine SE.fin (rs := [.tmp 4]) rfl (RV.tmp rfl RV.nil) (()) (by repeat first|exact s0_ _|exact s1_ _|apply s2_|apply s3_) (by simp [It.rids]) ?_
 exact rfl
set_option maxHeartbeats 4000000 in
theorem lbytes_s (hl : i64ok l.total) : Spec Tryz.prog 30 [.agg l.abs] [] (fun _ : Unit => []) (fun _ => byt l.bytesR) := by
 have hL : lots = 100000000000 := rfl
 refine spec_of Tryz.func30 rfl Tryz.ntmps30 rfl fun G w => ?_
 refine SC.seq (SC.region ?_)
 refine SL.eff (Eff.boxA (cs := l.abs) rfl) rfl rfl ?_
 rintro _ _ ⟨b1, rfl, rfl⟩
 refine SL.val (Val.assign rfl) rfl rfl ?_
 refine SL.nil (SE.seq ?_)
 refine SC.seq ?_
 refine SC.seq (SC.region ?_)
 refine SL.val (Val.to (C := .agg l.abs) (Val.loadP tabOk rfl rfl rfl (by repeat first|assumption|exact o0_|exact o1_|apply o2_) List.not_mem_nil (lb_ (by rfl))) rfl) rfl rfl ?_
 refine SL.call (lcheck_s (l := l) hl) Casts.refl (by kernel_rfl) rfl rfl rfl ?_
 refine ap_ ?_
 intro _
 refine SL.val (Val.neI rfl rfl) rfl rfl ?_
 refine SL.nil (SE.seq ?_)
 refine SC.condP rfl ?_ ?_
 ·intro hc11
  refine SC.seq (SC.region ?_)
  refine SL.val (Val.assign rfl) rfl rfl ?_
  refine SL.nil (SE.seq ?_)
  refine SC.ret ?_
  refine SE.then_ nofun ?_
  refine SE.finC (rs := [.tmp 2]) rfl (RV.tmp rfl RV.nil) (Casts.nils (s := 1) Casts.refl) (()) (by repeat first|exact s0_ _|exact s1_ _|apply s2_|apply s3_) (by simp [It.rids]) ?_
  rw [show l.bytesR = [] from if_neg (fun h => hc11 (if_pos h))]
  rfl
 intro hc11
 have hr : l.Right := Classical.byContradiction fun h => hc11 (by unfold Lg.chk; rw [if_neg h]; decide)
 have hl16 := hr.lsFew
 have hl4 := hr.few
 refine SC.skip ?_
 refine SE.seq ?_
 refine SC.seq (SC.region ?_)
 refine SL.val (Val.assign rfl) rfl rfl ?_
 refine SL.nil (SE.seq ?_)
 refine SC.seq ?_
 refine SC.draw [] (.q 0 (.q 1 (.q 2 (.q 3 (.q 5 (.q 6 (.q 8 (.q 9 (.q 10 (.q 11 (.e 4 (.e 7 (.e 12 (.q 13 .nil)))))))))))))) (by kernel_rfl) (by kernel_rfl) ?_
 refine SX.val rfl (Val.move rfl) (by simp) rfl rfl ?_
 refine SX.val rfl (Val.move rfl) (by simp) rfl rfl ?_
 refine SX.val rfl (Val.fieldAddr tabOk rfl rfl rfl rfl rfl) (by simp) rfl rfl ?_
 refine SX.hx (by first|(simp[mids,It.mids,ownPc];done)|(intro k hk;simp[mids,It.mids,ownPc] at hk ⊢;grind)) fun hx9 => ?_
 refine SX.val rfl (Val.to (C := int l.seq) (Val.load1 tabOk rfl rfl (by repeat first|assumption|exact o0_|exact o1_|apply o2_) List.not_mem_nil (by rfl)) rfl) hx9 rfl rfl ?_
 refine SX.val rfl (Val.fieldAddr tabOk rfl rfl rfl rfl rfl) (by simp) rfl rfl ?_
 refine SX.val rfl (Val.to (C := int l.total) (Val.load1 tabOk rfl rfl (by repeat first|assumption|exact o0_|exact o1_|apply o2_) List.not_mem_nil (by rfl)) rfl) hx9 rfl rfl ?_
 refine SX.val rfl (Val.fieldAddr tabOk rfl rfl rfl rfl rfl) (by simp) rfl rfl ?_
 refine SX.val rfl (Val.to (C := .sl 6 (l.ls.map ltrA)) (Val.load1 tabOk rfl rfl (by repeat first|assumption|exact o0_|exact o1_|apply o2_) List.not_mem_nil (by rfl)) rfl) hx9 rfl rfl ?_
 first
  | refine SX.val rfl (Val.lenSl rfl Tryz.underlying27 (List.length_map _)) (by simp) rfl rfl ?_
  | refine SX.val rfl (Val.lenOwn rfl (by repeat first|assumption|exact m0_|apply m1_) Tryz.underlying27 (List.length_map _)) (by simp) rfl rfl ?_
  | refine SX.val rfl (Val.lenNil rfl Tryz.underlying27) (by simp) rfl rfl ?_
 first
  | refine SX.val rfl (Val.convI rfl Tryz.underlying79 (by kernel_rfl) (by simp only [InR, lo, hi]; omega)) (by simp) rfl rfl ?_
  | refine SX.val rfl (Val.convU rfl Tryz.underlying79 (by kernel_rfl)) (by simp) rfl rfl ?_
 refine SX.callv rfl (num8_s (m := []) (a := l.seq) (by simp only [List.length_append, beBytes_length, Lg.head_length, List.length_nil, tx_len] at *; omega)) (by simp [mids, It.mids]) rfl (Casts.cons (fun _ _ _ h => rep_nil h) Casts.refl) (by kernel_rfl) rfl rfl rfl ?_
 refine ap_ ?_
 intro _
 refine SX.callv rfl (num8_s (m := ([] ++ beBytes (u64 l.seq) 8)) (a := l.total) (by simp only [List.length_append, beBytes_length, Lg.head_length, List.length_nil, tx_len] at *; omega)) (by simp [mids, It.mids]) rfl Casts.refl (by kernel_rfl) rfl rfl rfl ?_
 refine ap_ ?_
 intro _
 refine SX.call rfl (put_s (l := ([] ++ beBytes (u64 l.seq) 8 ++ beBytes (u64 l.total) 8)) (x := l.ls.length) (n := 2) (by simp only [List.length_append, beBytes_length, Lg.head_length, List.length_nil, tx_len] at *; omega) (by omega) rfl) (by simp [mids, It.mids]) Casts.refl (by kernel_rfl) rfl rfl rfl ?_
 refine ap_ ?_
 intro _
 refine SX.val rfl (Val.assign rfl) (by simp) rfl rfl ?_
 refine SX.nil (SE.seq ?_)
 refine SC.seq ?_
 refine SC.seq (SC.region ?_)
 refine SL.val (Val.fieldAddr tabOk rfl rfl rfl rfl rfl) rfl rfl ?_
 refine SL.val (Val.to (C := .sl 6 (l.ls.map ltrA)) (Val.load1 tabOk rfl rfl (by repeat first|assumption|exact o0_|exact o1_|apply o2_) List.not_mem_nil (by rfl)) rfl) rfl rfl ?_
 first
  | refine SL.val (Val.lenSl rfl Tryz.underlying27 (List.length_map _)) rfl rfl ?_
  | refine SL.val (Val.lenOwn rfl (by repeat first|assumption|exact m0_|apply m1_) Tryz.underlying27 (List.length_map _)) rfl rfl ?_
  | refine SL.val (Val.lenNil rfl Tryz.underlying27) rfl rfl ?_
 refine SL.val (Val.move rfl) rfl rfl ?_
 refine SL.nil (SE.seq ?_)
 refine SC.block ?_
 refine SC.loop (ι := Nat) (fun z => [.blk b1 30 l.abs]) (fun z => [(1, ptr b1), (3, .fn (.func 52) [] []), (4, byt (l.head ++ ltrsB (l.ls.take z))), (26, ltrsA l.ls), (27, int (l.ls.length : Nat)), (28, int (z : Nat))]) (fun z => z ≤ l.ls.length) (fun z => l.ls.length - z) (0) (Nat.zero_le _) ⟨rfl, rfl, congrArg (fun m => some (byt m)) (by simp [Lg.head, ltrsB]), rfl, rfl, rfl, trivial⟩ (by repeat first|exact s0_ _|exact s1_ _|apply s2_|apply s3_) ?_
 intro z hz
 refine SC.seq (SC.region ?_)
 refine SL.val (Val.ltI rfl rfl) rfl rfl ?_
 refine SL.nil (SE.seq ?_)
 refine SC.seq ?_
 refine SC.condP rfl ?_ ?_
 rotate_left
 ·intro hc29
  have htk : l.ls.take z = l.ls := List.take_of_length_le (by omega)
  rw [htk]
  have hq := ltrsB_length hr.ls.all
  refine SC.exit ?_
  refine SE.then_ nofun ?_
  refine SE.then_ nofun ?_
  refine SE.exit ?_
  refine SE.seq ?_
  refine SC.seq (SC.region ?_)
  refine SL.val (Val.move rfl) rfl rfl ?_
  refine SL.val (Val.fieldAddr tabOk rfl rfl rfl rfl rfl) rfl rfl ?_
  refine SL.val (Val.to (C := .sl 3 (l.os.map Oc.abs)) (Val.load1 tabOk rfl rfl (by repeat first|assumption|exact o0_|exact o1_|apply o2_) List.not_mem_nil (by rfl)) rfl) rfl rfl ?_
  first
   | refine SL.val (Val.lenSl rfl Tryz.underlying28 (List.length_map _)) rfl rfl ?_
   | refine SL.val (Val.lenOwn rfl (by repeat first|assumption|exact m0_|apply m1_) Tryz.underlying28 (List.length_map _)) rfl rfl ?_
   | refine SL.val (Val.lenNil rfl Tryz.underlying28) rfl rfl ?_
  first
   | refine SL.val (Val.convI rfl Tryz.underlying79 (by kernel_rfl) (by simp only [InR, lo, hi]; omega)) rfl rfl ?_
   | refine SL.val (Val.convU rfl Tryz.underlying79 (by kernel_rfl)) rfl rfl ?_
  refine SL.call (put_s (l := (l.head ++ ltrsB l.ls)) (x := l.os.length) (n := 2) (by simp only [List.length_append, beBytes_length, Lg.head_length, List.length_nil, tx_len] at *; omega) (by omega) rfl) Casts.refl (by kernel_rfl) rfl rfl rfl ?_
  refine ap_ ?_
  intro _
  refine SL.val (Val.assign rfl) rfl rfl ?_
  refine SL.nil (SE.seq ?_)
  refine SC.seq ?_
  refine SC.seq (SC.region ?_)
  refine SL.val (Val.fieldAddr tabOk rfl rfl rfl rfl rfl) rfl rfl ?_
  refine SL.val (Val.to (C := .sl 3 (l.os.map Oc.abs)) (Val.load1 tabOk rfl rfl (by repeat first|assumption|exact o0_|exact o1_|apply o2_) List.not_mem_nil (by rfl)) rfl) rfl rfl ?_
  first
   | refine SL.val (Val.lenSl rfl Tryz.underlying28 (List.length_map _)) rfl rfl ?_
   | refine SL.val (Val.lenOwn rfl (by repeat first|assumption|exact m0_|apply m1_) Tryz.underlying28 (List.length_map _)) rfl rfl ?_
   | refine SL.val (Val.lenNil rfl Tryz.underlying28) rfl rfl ?_
  refine SL.val (Val.move rfl) rfl rfl ?_
  refine SL.nil (SE.seq ?_)
  refine SC.block ?_
  refine SC.loop (ι := Nat) (fun z => [.blk b1 30 l.abs]) (fun z => [(1, ptr b1), (3, .fn (.func 52) [] []), (4, byt (l.head ++ ltrsB l.ls ++ beBytes l.os.length 2 ++ ocsB (l.os.take z))), (67, outA l.os), (68, int (l.os.length : Nat)), (69, int (z : Nat))]) (fun z => z ≤ l.os.length) (fun z => l.os.length - z) (0) (Nat.zero_le _) ⟨rfl, rfl, congrArg (fun m => some (byt m)) (by simp [ocsB]), rfl, rfl, rfl, trivial⟩ (by repeat first|exact s0_ _|exact s1_ _|apply s2_|apply s3_) ?_
  intro z hz
  refine SC.seq (SC.region ?_)
  refine SL.val (Val.ltI rfl rfl) rfl rfl ?_
  refine SL.nil (SE.seq ?_)
  refine SC.seq ?_
  refine SC.condP rfl ?_ ?_
  rotate_left
  ·intro hc70
   refine SC.exit ?_
   refine SE.then_ nofun ?_
   refine SE.then_ nofun ?_
   refine SE.exit ?_
   refine SE.seq ?_
   refine SC.seq (SC.region ?_)
   refine SL.val (Val.move rfl) rfl rfl ?_
   refine SL.val (Val.assign rfl) rfl rfl ?_
   refine SL.nil (SE.seq ?_)
   refine SC.ret ?_
   refine SE.fin (rs := [.tmp 2]) rfl (RV.tmp rfl RV.nil) (()) (by repeat first|exact s0_ _|exact s1_ _|apply s2_|apply s3_) (by simp [It.rids]) ?_
   rw [show l.bytesR = l.bytes from if_pos hr, show l.bytes = (l.head ++ ltrsB l.ls ++ beBytes l.os.length 2 ++ ocsB (l.os.take z)) from by rw [List.take_of_length_le (by omega)]; rfl]
   rfl
  intro hc70
  have hlt : z < l.os.length := by omega
  have hq3 := ocsB_length (l.os.take z)
  have hq4 : (l.os.take z).length ≤ 4 := by rw [List.length_take]; omega
  refine SC.skip ?_
  refine SE.seq ?_
  refine SC.seq ?_
  refine SC.block ?_
  refine SC.seq (SC.region ?_)
  refine SL.val (Val.indexSl tabOk Tryz.underlying28 rfl rfl rfl rfl (at_map (by omega)) rfl rfl) rfl rfl ?_
  refine SL.val (Val.loadAR tabOk rfl rfl rfl (by rfl)) rfl rfl ?_
  refine SL.eff (Eff.alloc tabOk rfl) rfl rfl ?_
  rintro _ _ ⟨b8, rfl, rfl⟩
  refine SL.eff (Eff.store (L' := Oc.abs (l.os[z]'hlt)) tabOk rfl rfl rfl (by repeat first|assumption|exact Upd.here|apply Upd.there) rfl (lb_ (by rfl)) rfl (by exact putL_whole rfl)) rfl rfl ?_
  rintro _ _ ⟨rfl, rfl⟩
  refine SL.nil (SE.seq ?_)
  refine SC.seq ?_
  refine SC.draw [] (.q 0 (.q 1 (.q 2 (.q 3 (.q 4 (.q 6 (.q 7 (.e 5 (.e 8 (.q 9 .nil)))))))))) (by kernel_rfl) (by kernel_rfl) ?_
  refine SX.val rfl (Val.move rfl) (by simp) rfl rfl ?_
  refine SX.val rfl (Val.move rfl) (by simp) rfl rfl ?_
  refine SX.val rfl (Val.fieldAddr tabOk rfl rfl rfl rfl rfl) (by simp) rfl rfl ?_
  refine SX.hx (by first|(simp[mids,It.mids,ownPc];done)|(intro k hk;simp[mids,It.mids,ownPc] at hk ⊢;grind)) fun hx9 => ?_
  refine SX.val rfl (Val.to (C := int (l.os[z]'hlt).client) (Val.load1 tabOk rfl rfl (by repeat first|assumption|exact o0_|exact o1_|apply o2_) List.not_mem_nil (by rfl)) rfl) hx9 rfl rfl ?_
  refine SX.val rfl (Val.convU rfl Tryz.underlying79 (by kernel_rfl)) hx9 rfl rfl ?_
  refine SX.val rfl (Val.fieldAddr tabOk rfl rfl rfl rfl rfl) (by simp) rfl rfl ?_
  refine SX.val rfl (Val.to (C := int (l.os[z]'hlt).stamp) (Val.load1 tabOk rfl rfl (by repeat first|assumption|exact o0_|exact o1_|apply o2_) List.not_mem_nil (by rfl)) rfl) hx9 rfl rfl ?_
  refine SX.call rfl (put_s (l := (l.head ++ ltrsB l.ls ++ beBytes l.os.length 2 ++ ocsB (l.os.take z))) (x := u64 (l.os[z]'hlt).client) (n := 1) (by simp only [List.length_append, beBytes_length, Lg.head_length, List.length_nil, tx_len] at *; omega) (u64_lt18 _) rfl) (by simp [mids, It.mids]) Casts.refl (by kernel_rfl) rfl rfl rfl ?_
  refine ap_ ?_
  intro _
  refine SX.callv rfl (num8_s (m := ((l.head ++ ltrsB l.ls ++ beBytes l.os.length 2 ++ ocsB (l.os.take z)) ++ beBytes (u64 (l.os[z]'hlt).client) 1)) (a := (l.os[z]'hlt).stamp) (by simp only [List.length_append, beBytes_length, Lg.head_length, List.length_nil, tx_len] at *; omega)) (by simp [mids, It.mids]) rfl Casts.refl (by kernel_rfl) rfl rfl rfl ?_
  refine ap_ ?_
  intro _
  refine SX.val rfl (Val.assign rfl) (by simp) rfl rfl ?_
  refine SX.nil (SE.seq ?_)
  refine SC.region ?_
  refine SL.val (Val.move rfl) rfl rfl ?_
  refine SL.val (Val.fieldAddr tabOk rfl rfl rfl rfl rfl) rfl rfl ?_
  refine SL.val (Val.to (C := int (l.os[z]'hlt).result) (Val.load1 tabOk rfl rfl (by repeat first|assumption|exact o0_|exact o1_|apply o2_) List.not_mem_nil (by rfl)) rfl) rfl rfl ?_
  refine SL.val (Val.convU rfl Tryz.underlying79 (by kernel_rfl)) rfl rfl ?_
  refine SL.call (put_s (l := (((l.head ++ ltrsB l.ls ++ beBytes l.os.length 2 ++ ocsB (l.os.take z)) ++ beBytes (u64 (l.os[z]'hlt).client) 1) ++ beBytes (u64 (l.os[z]'hlt).stamp) 8)) (x := u64 (l.os[z]'hlt).result) (n := 1) (by simp only [List.length_append, beBytes_length, Lg.head_length, List.length_nil, tx_len] at *; omega) (u64_lt18 _) rfl) Casts.refl (by kernel_rfl) rfl rfl rfl ?_
  refine ap_ ?_
  intro _
  refine SL.val (Val.assign rfl) rfl rfl ?_
  refine SL.nil ?_
  refine SE.inBlock ?_
  refine SE.seq ?_
  refine SC.region ?_
  first
   | refine SL.val (Val.addI rfl rfl (by simp only [InR, lo, hi]; omega)) rfl rfl ?_
   | refine SL.val (Val.addW rfl rfl) rfl rfl ?_
  refine SL.val (Val.move rfl) rfl rfl ?_
  refine SL.nil ?_
  refine SE.round (z + 1) (by first | omega | (dsimp only; omega)) (by first | omega | (dsimp only; omega)) ⟨rfl, rfl, congrArg (fun m => some (byt m)) (ocs_step hlt), rfl, rfl, rfl, trivial⟩ (by repeat first|exact s0_ _|exact s1_ _|apply s2_|apply s3_)
 intro hc29
 have hlt : z < l.ls.length := by omega
 obtain ⟨s1, s2, s3⟩ := ltr_sizes (hr.ls.all _ (List.getElem_mem hlt))
 have hq := ltrsB_length (ls := l.ls.take z) (fun x hx => hr.ls.all x (List.mem_of_mem_take hx))
 have hq2 : (l.ls.take z).length ≤ 16 := by rw [List.length_take]; omega
 refine SC.skip ?_
 refine SE.seq ?_
 refine SC.seq ?_
 refine SC.block ?_
 refine SC.seq (SC.region ?_)
 refine SL.val (Val.indexSl tabOk Tryz.underlying27 rfl rfl rfl rfl (at_map (by omega)) rfl rfl) rfl rfl ?_
 refine SL.val (Val.loadAR tabOk rfl rfl rfl (by rfl)) rfl rfl ?_
 refine SL.eff (Eff.alloc tabOk rfl) rfl rfl ?_
 rintro _ _ ⟨b6, rfl, rfl⟩
 refine SL.eff (Eff.store (L' := ltrA (l.ls[z]'hlt)) tabOk rfl rfl rfl (by repeat first|assumption|exact Upd.here|apply Upd.there) rfl (lb_ (by rfl)) rfl (by exact putL_whole rfl)) rfl rfl ?_
 rintro _ _ ⟨rfl, rfl⟩
 refine SL.nil (SE.seq ?_)
 refine SC.seq ?_
 refine SC.draw [] (.q 0 (.q 1 (.q 2 (.q 5 (.q 6 (.q 7 (.e 3 (.e 4 (.e 8 (.q 9 .nil)))))))))) (by kernel_rfl) (by kernel_rfl) ?_
 refine SX.val rfl (Val.move rfl) (by simp) rfl rfl ?_
 refine SX.val rfl (Val.fieldAddr tabOk rfl rfl rfl rfl rfl) (by simp) rfl rfl ?_
 refine SX.hx (by first|(simp[mids,It.mids,ownPc];done)|(intro k hk;simp[mids,It.mids,ownPc] at hk ⊢;grind)) fun hx9 => ?_
 refine SX.val rfl (Val.to (C := st (l.ls[z]'hlt).name) (Val.load1 tabOk rfl rfl (by repeat first|assumption|exact o0_|exact o1_|apply o2_) List.not_mem_nil (by rfl)) rfl) hx9 rfl rfl ?_
 refine SX.val rfl (Val.fieldAddr tabOk rfl rfl rfl rfl rfl) (by simp) rfl rfl ?_
 refine SX.val rfl (Val.to (C := int (l.ls[z]'hlt).state) (Val.load1 tabOk rfl rfl (by repeat first|assumption|exact o0_|exact o1_|apply o2_) List.not_mem_nil (by rfl)) rfl) hx9 rfl rfl ?_
 refine SX.val rfl (Val.convU rfl Tryz.underlying79 (by kernel_rfl)) hx9 rfl rfl ?_
 refine SX.eff rfl (Eff.strBytes rfl Tryz.underlying9 Tryz.underlying31 (by first | assumption | omega)) (by simp) rfl rfl ?_
 rintro _ _ ⟨rfl, rfl⟩
 refine SX.call rfl (row_s (l := (l.head ++ ltrsB (l.ls.take z))) (m := tx (l.ls[z]'hlt).name) (by simp only [List.length_append, beBytes_length, Lg.head_length, List.length_nil, tx_len] at *; omega) (by rw [tx_len]; omega)) (by simp [mids, It.mids]) Casts.refl (by kernel_rfl) rfl rfl rfl ?_
 refine ap_ ?_
 intro _
 refine SX.call rfl (put_s (l := ((l.head ++ ltrsB (l.ls.take z)) ++ beBytes (tx (l.ls[z]'hlt).name).length 4 ++ tx (l.ls[z]'hlt).name)) (x := u64 (l.ls[z]'hlt).state) (n := 1) (by simp only [List.length_append, beBytes_length, Lg.head_length, List.length_nil, tx_len] at *; omega) (u64_lt18 _) rfl) (by simp [mids, It.mids]) Casts.refl (by kernel_rfl) rfl rfl rfl ?_
 refine ap_ ?_
 intro _
 refine SX.val rfl (Val.assign rfl) (by simp) rfl rfl ?_
 refine SX.nil (SE.seq ?_)
 refine SC.seq ?_
 refine SC.draw [] (.q 0 (.q 1 (.q 2 (.q 3 (.q 4 (.q 6 (.q 7 (.e 5 (.e 8 (.q 9 .nil)))))))))) (by kernel_rfl) (by kernel_rfl) ?_
 refine SX.val rfl (Val.move rfl) (by simp) rfl rfl ?_
 refine SX.val rfl (Val.move rfl) (by simp) rfl rfl ?_
 refine SX.val rfl (Val.move rfl) (by simp) rfl rfl ?_
 refine SX.val rfl (Val.fieldAddr tabOk rfl rfl rfl rfl rfl) (by simp) rfl rfl ?_
 refine SX.hx (by first|(simp[mids,It.mids,ownPc];done)|(intro k hk;simp[mids,It.mids,ownPc] at hk ⊢;grind)) fun hx9 => ?_
 refine SX.val rfl (Val.to (C := int (l.ls[z]'hlt).amount) (Val.load1 tabOk rfl rfl (by repeat first|assumption|exact o0_|exact o1_|apply o2_) List.not_mem_nil (by rfl)) rfl) hx9 rfl rfl ?_
 refine SX.val rfl (Val.fieldAddr tabOk rfl rfl rfl rfl rfl) (by simp) rfl rfl ?_
 refine SX.val rfl (Val.to (C := int (l.ls[z]'hlt).due) (Val.load1 tabOk rfl rfl (by repeat first|assumption|exact o0_|exact o1_|apply o2_) List.not_mem_nil (by rfl)) rfl) hx9 rfl rfl ?_
 refine SX.callv rfl (num8_s (m := (((l.head ++ ltrsB (l.ls.take z)) ++ beBytes (tx (l.ls[z]'hlt).name).length 4 ++ tx (l.ls[z]'hlt).name) ++ beBytes (u64 (l.ls[z]'hlt).state) 1)) (a := (l.ls[z]'hlt).amount) (by simp only [List.length_append, beBytes_length, Lg.head_length, List.length_nil, tx_len] at *; omega)) (by simp [mids, It.mids]) rfl Casts.refl (by kernel_rfl) rfl rfl rfl ?_
 refine ap_ ?_
 intro _
 refine SX.callv rfl (num8_s (m := ((((l.head ++ ltrsB (l.ls.take z)) ++ beBytes (tx (l.ls[z]'hlt).name).length 4 ++ tx (l.ls[z]'hlt).name) ++ beBytes (u64 (l.ls[z]'hlt).state) 1) ++ beBytes (u64 (l.ls[z]'hlt).amount) 8)) (a := (l.ls[z]'hlt).due) (by simp only [List.length_append, beBytes_length, Lg.head_length, List.length_nil, tx_len] at *; omega)) (by simp [mids, It.mids]) rfl Casts.refl (by kernel_rfl) rfl rfl rfl ?_
 refine ap_ ?_
 intro _
 refine SX.val rfl (Val.assign rfl) (by simp) rfl rfl ?_
 refine SX.nil (SE.seq ?_)
 refine SC.draw [] (.q 0 (.q 1 (.q 2 (.q 5 (.q 6 (.two 3 7 (.two 4 7 (.e 7 (.e 8 (.q 9 .nil))) (.e 4 (.e 8 (.q 9 .nil)))) (.e 3 (.e 4 (.e 8 (.q 9 .nil)))))))))) (by kernel_rfl) (by kernel_rfl) ?_
 refine SX.val rfl (Val.move rfl) (by simp) rfl rfl ?_
 refine SX.val rfl (Val.fieldAddr tabOk rfl rfl rfl rfl rfl) (by simp) rfl rfl ?_
 refine SX.hx (by first|(simp[mids,It.mids,ownPc];done)|(intro k hk;simp[mids,It.mids,ownPc] at hk ⊢;grind)) fun hx9 => ?_
 refine SX.val rfl (Val.to (C := st (l.ls[z]'hlt).policy) (Val.load1 tabOk rfl rfl (by repeat first|assumption|exact o0_|exact o1_|apply o2_) List.not_mem_nil (by rfl)) rfl) hx9 rfl rfl ?_
 refine SX.val rfl (Val.fieldAddr tabOk rfl rfl rfl rfl rfl) (by simp) rfl rfl ?_
 refine SX.val rfl (Val.to (C := st (l.ls[z]'hlt).papers) (Val.load1 tabOk rfl rfl (by repeat first|assumption|exact o0_|exact o1_|apply o2_) List.not_mem_nil (by rfl)) rfl) hx9 rfl rfl ?_
 refine SX.two ?_ ?_
 ·skip
  refine SX.eff rfl (Eff.strBytes rfl Tryz.underlying9 Tryz.underlying31 (by first | assumption | omega)) (by simp) rfl rfl ?_
  rintro _ _ ⟨rfl, rfl⟩
  refine SX.two ?_ ?_
  ·skip
   refine SX.call rfl (row_s (l := (((((l.head ++ ltrsB (l.ls.take z)) ++ beBytes (tx (l.ls[z]'hlt).name).length 4 ++ tx (l.ls[z]'hlt).name) ++ beBytes (u64 (l.ls[z]'hlt).state) 1) ++ beBytes (u64 (l.ls[z]'hlt).amount) 8) ++ beBytes (u64 (l.ls[z]'hlt).due) 8)) (m := tx (l.ls[z]'hlt).policy) (by simp only [List.length_append, beBytes_length, Lg.head_length, List.length_nil, tx_len] at *; omega) (by rw [tx_len]; omega)) (by simp [mids, It.mids]) Casts.refl (by kernel_rfl) rfl rfl rfl ?_
   refine ap_ ?_
   intro _
   refine SX.eff rfl (Eff.strBytes rfl Tryz.underlying9 Tryz.underlying31 (by first | assumption | omega)) (by simp) rfl rfl ?_
   rintro _ _ ⟨rfl, rfl⟩
   refine SX.call rfl (row_s (l := ((((((l.head ++ ltrsB (l.ls.take z)) ++ beBytes (tx (l.ls[z]'hlt).name).length 4 ++ tx (l.ls[z]'hlt).name) ++ beBytes (u64 (l.ls[z]'hlt).state) 1) ++ beBytes (u64 (l.ls[z]'hlt).amount) 8) ++ beBytes (u64 (l.ls[z]'hlt).due) 8) ++ beBytes (tx (l.ls[z]'hlt).policy).length 4 ++ tx (l.ls[z]'hlt).policy)) (m := tx (l.ls[z]'hlt).papers) (by simp only [List.length_append, beBytes_length, Lg.head_length, List.length_nil, tx_len] at *; omega) (by rw [tx_len]; omega)) (by simp [mids, It.mids]) Casts.refl (by kernel_rfl) rfl rfl rfl ?_
   refine ap_ ?_
   intro _
   refine SX.val rfl (Val.assign rfl) (by simp) rfl rfl ?_
   refine SX.nil ?_
   refine SE.inBlock ?_
   refine SE.seq ?_
   refine SC.region ?_
   first
    | refine SL.val (Val.addI rfl rfl (by simp only [InR, lo, hi]; omega)) rfl rfl ?_
    | refine SL.val (Val.addW rfl rfl) rfl rfl ?_
   refine SL.val (Val.move rfl) rfl rfl ?_
   refine SL.nil ?_
   refine SE.round (z + 1) (by first | omega | (dsimp only; omega)) (by first | omega | (dsimp only; omega)) ⟨rfl, rfl, congrArg (fun m => some (byt m)) (ltrs_step hlt), rfl, rfl, rfl, trivial⟩ (by repeat first|exact s0_ _|exact s1_ _|apply s2_|apply s3_)
  ·skip
   refine SX.eff rfl (Eff.strBytes rfl Tryz.underlying9 Tryz.underlying31 (by first | assumption | omega)) (by simp) rfl rfl ?_
   rintro _ _ ⟨rfl, rfl⟩
   refine SX.call rfl (row_s (l := (((((l.head ++ ltrsB (l.ls.take z)) ++ beBytes (tx (l.ls[z]'hlt).name).length 4 ++ tx (l.ls[z]'hlt).name) ++ beBytes (u64 (l.ls[z]'hlt).state) 1) ++ beBytes (u64 (l.ls[z]'hlt).amount) 8) ++ beBytes (u64 (l.ls[z]'hlt).due) 8)) (m := tx (l.ls[z]'hlt).policy) (by simp only [List.length_append, beBytes_length, Lg.head_length, List.length_nil, tx_len] at *; omega) (by rw [tx_len]; omega)) (by simp [mids, It.mids]) Casts.refl (by kernel_rfl) rfl rfl rfl ?_
   refine ap_ ?_
   intro _
   refine SX.call rfl (row_s (l := ((((((l.head ++ ltrsB (l.ls.take z)) ++ beBytes (tx (l.ls[z]'hlt).name).length 4 ++ tx (l.ls[z]'hlt).name) ++ beBytes (u64 (l.ls[z]'hlt).state) 1) ++ beBytes (u64 (l.ls[z]'hlt).amount) 8) ++ beBytes (u64 (l.ls[z]'hlt).due) 8) ++ beBytes (tx (l.ls[z]'hlt).policy).length 4 ++ tx (l.ls[z]'hlt).policy)) (m := tx (l.ls[z]'hlt).papers) (by simp only [List.length_append, beBytes_length, Lg.head_length, List.length_nil, tx_len] at *; omega) (by rw [tx_len]; omega)) (by simp [mids, It.mids]) Casts.refl (by kernel_rfl) rfl rfl rfl ?_
   refine ap_ ?_
   intro _
   refine SX.val rfl (Val.assign rfl) (by simp) rfl rfl ?_
   refine SX.nil ?_
   refine SE.inBlock ?_
   refine SE.seq ?_
   refine SC.region ?_
   first
    | refine SL.val (Val.addI rfl rfl (by simp only [InR, lo, hi]; omega)) rfl rfl ?_
    | refine SL.val (Val.addW rfl rfl) rfl rfl ?_
   refine SL.val (Val.move rfl) rfl rfl ?_
   refine SL.nil ?_
   refine SE.round (z + 1) (by first | omega | (dsimp only; omega)) (by first | omega | (dsimp only; omega)) ⟨rfl, rfl, congrArg (fun m => some (byt m)) (ltrs_step hlt), rfl, rfl, rfl, trivial⟩ (by repeat first|exact s0_ _|exact s1_ _|apply s2_|apply s3_)
 ·skip
  refine SX.eff rfl (Eff.strBytes rfl Tryz.underlying9 Tryz.underlying31 (by first | assumption | omega)) (by simp) rfl rfl ?_
  rintro _ _ ⟨rfl, rfl⟩
  refine SX.eff rfl (Eff.strBytes rfl Tryz.underlying9 Tryz.underlying31 (by first | assumption | omega)) (by simp) rfl rfl ?_
  rintro _ _ ⟨rfl, rfl⟩
  refine SX.call rfl (row_s (l := (((((l.head ++ ltrsB (l.ls.take z)) ++ beBytes (tx (l.ls[z]'hlt).name).length 4 ++ tx (l.ls[z]'hlt).name) ++ beBytes (u64 (l.ls[z]'hlt).state) 1) ++ beBytes (u64 (l.ls[z]'hlt).amount) 8) ++ beBytes (u64 (l.ls[z]'hlt).due) 8)) (m := tx (l.ls[z]'hlt).policy) (by simp only [List.length_append, beBytes_length, Lg.head_length, List.length_nil, tx_len] at *; omega) (by rw [tx_len]; omega)) (by simp [mids, It.mids]) Casts.refl (by kernel_rfl) rfl rfl rfl ?_
  refine ap_ ?_
  intro _
  refine SX.call rfl (row_s (l := ((((((l.head ++ ltrsB (l.ls.take z)) ++ beBytes (tx (l.ls[z]'hlt).name).length 4 ++ tx (l.ls[z]'hlt).name) ++ beBytes (u64 (l.ls[z]'hlt).state) 1) ++ beBytes (u64 (l.ls[z]'hlt).amount) 8) ++ beBytes (u64 (l.ls[z]'hlt).due) 8) ++ beBytes (tx (l.ls[z]'hlt).policy).length 4 ++ tx (l.ls[z]'hlt).policy)) (m := tx (l.ls[z]'hlt).papers) (by simp only [List.length_append, beBytes_length, Lg.head_length, List.length_nil, tx_len] at *; omega) (by rw [tx_len]; omega)) (by simp [mids, It.mids]) Casts.refl (by kernel_rfl) rfl rfl rfl ?_
  refine ap_ ?_
  intro _
  refine SX.val rfl (Val.assign rfl) (by simp) rfl rfl ?_
  refine SX.nil ?_
  refine SE.inBlock ?_
  refine SE.seq ?_
  refine SC.region ?_
  first
   | refine SL.val (Val.addI rfl rfl (by simp only [InR, lo, hi]; omega)) rfl rfl ?_
   | refine SL.val (Val.addW rfl rfl) rfl rfl ?_
  refine SL.val (Val.move rfl) rfl rfl ?_
  refine SL.nil ?_
  refine SE.round (z + 1) (by first | omega | (dsimp only; omega)) (by first | omega | (dsimp only; omega)) ⟨rfl, rfl, congrArg (fun m => some (byt m)) (ltrs_step hlt), rfl, rfl, rfl, trivial⟩ (by repeat first|exact s0_ _|exact s1_ _|apply s2_|apply s3_)
end
end Go.Proofs.YtickdhjljpnlpaaGreatDoor.A
