/-
  Packed out of the texts: FrmS, LedS.
-/
import Derived.Test.YtejcohlpjikjpaaGreatDoorU06
/-
  Policies: the program's formula, and the document's layer 8.
-/
set_option maxRecDepth 100000
set_option linter.unusedSimpArgs false
set_option linter.unusedVariables false
namespace Go.Proofs.YtejcohlpjikjpaaGreatDoor.A
open Go.RowKit

section
variable {o a n deep : Int} {ks : List Frm} {s : Wo} {f : Frm}
set_option maxHeartbeats 1000000 in
theorem shape_step (ih : ∀ k ∈ ks, ∀ deep : Int, k.nodes ≤ 1099511627776 → 0 ≤ deep → deep ≤ 1099511627776 - k.nodes → Spec Tryz.prog 111 [.agg k.abs, int deep] [] (fun _ : Unit => []) (fun _ => .tup [int (k.nodes : Nat), int (deep + k.depth - 1)])) (hn : (Frm.mk o a ks).nodes ≤ 1099511627776) (h0 : 0 ≤ deep) (hd : deep ≤ 1099511627776 - (Frm.mk o a ks).nodes) : Spec Tryz.prog 111 [.agg (Frm.mk o a ks).abs, int deep] [] (fun _ : Unit => []) (fun _ => .tup [int ((Frm.mk o a ks).nodes : Nat), int (deep + (Frm.mk o a ks).depth - 1)]) := by
 rw [Frm.abs_mk]
 have hlen := Frm.length_le ks
 rw [Frm.nodes_mk] at hn hd
 refine spec_of Tryz.func111 rfl Tryz.ntmps111 rfl fun G w => ?_
 refine SC.seq (SC.region ?_)
 refine SL.eff (Eff.boxA rfl) rfl rfl ?_
 rintro _ _ ⟨b2, rfl, rfl⟩
 iterate 2 refine SL.val (Val.assign rfl) rfl rfl ?_
 refine SL.nil (SE.seq ?_)
 refine SC.seq (SC.region ?_)
 refine SL.val (Val.move rfl) rfl rfl ?_
 iterate 2 refine SL.val (Val.assign rfl) rfl rfl ?_
 refine SL.nil (SE.seq ?_)
 refine SC.seq ?_
 refine SC.seq (SC.region ?_)
 refine SL.val (Val.fieldAddr tabOk rfl rfl rfl rfl rfl) rfl rfl ?_
 refine SL.val (Val.load1 tabOk rfl rfl (by repeat first|assumption|exact o0_|exact o1_|apply o2_) List.not_mem_nil (by rfl)) rfl rfl ?_
 first
  | refine SL.val (Val.lenSl rfl Tryz.underlying93 (List.length_map _)) rfl rfl ?_
  | refine SL.val (Val.lenOwn rfl (by repeat first|assumption|exact m0|apply m1) Tryz.underlying93 (List.length_map _)) rfl rfl ?_
  | refine SL.val (Val.lenNil rfl Tryz.underlying93) rfl rfl ?_
 refine SL.val (Val.move rfl) rfl rfl ?_
 refine SL.nil (SE.seq ?_)
 refine SC.block ?_
 refine SC.loop (ι := Nat) (fun z => [.blk b2 95 [int o, int a, .sl 3 (ks.map Frm.abs)]]) (fun z => [(1, int deep), (2, ptr b2), (4, int ((1 + Frm.nodess (ks.take z) : Nat) : Int)), (5, int (deep + (Frm.depths (ks.take z) : Nat))), (12, .sl 3 (ks.map Frm.abs)), (13, int (ks.length : Nat)), (14, int (z : Nat))]) (fun z => z ≤ ks.length) (fun z => ks.length - z) (0) (Nat.zero_le _) (by exact ⟨rfl, rfl, rfl, congrArg (fun x : Int => some (int x)) (show deep = deep + ((0 : Nat) : Int) by omega), rfl, rfl, rfl, trivial⟩) (by repeat first|exact s0 _|exact s1 _|apply s2|apply s3) ?_
 intro z hz
 refine SC.seq (SC.region ?_)
 refine SL.val (Val.ltI rfl rfl) rfl rfl ?_
 refine SL.nil (SE.seq ?_)
 refine SC.seq ?_
 refine SC.condP rfl ?_ ?_
 rotate_left
 ·intro hc15
  have hz2 : z = ks.length := by omega
  have htk : ks.take z = ks := by rw [hz2]; exact List.take_of_length_le (Nat.le_refl _)
  refine SC.exit ?_
  refine SE.then_ nofun ?_
  refine SE.then_ nofun ?_
  refine SE.exit ?_
  refine SE.seq ?_
  refine SC.seq (SC.region ?_)
  iterate 2 refine SL.val (Val.move rfl) rfl rfl ?_
  iterate 2 refine SL.val (Val.assign rfl) rfl rfl ?_
  refine SL.nil (SE.seq ?_)
  refine SC.ret ?_
  refine SE.fin (rs := [.tmp 4, .tmp 5]) rfl (RV.tmp rfl (RV.tmp rfl RV.nil)) (()) (by repeat first|exact s0 _|exact s1 _|apply s2|apply s3) (by simp [It.rids]) ?_
  rw [htk, Frm.nodes_mk, Frm.depth_mk]
  rw [show deep + ((1 + Frm.depths ks : Nat) : Int) - 1 = deep + (Frm.depths ks : Nat) by omega]
  rfl
 intro hc15
 have hlt : z < ks.length := by omega
 have hkz := Frm.nodes_mem (List.getElem_mem hlt)
 have hdz := Frm.depths_mem (List.getElem_mem hlt)
 have htn := Frm.take_nodes1 hlt
 have htd := Frm.take_depths1 hlt
 have htl := Frm.take_nodes (ks := ks) (z + 1)
 have hdn := Frm.depth_le (ks[z]'hlt)
 refine SC.skip ?_
 refine SE.seq ?_
 refine SC.seq ?_
 refine SC.block ?_
 refine SC.seq (SC.region ?_)
 refine SL.val (Val.indexSl tabOk Tryz.underlying93 rfl rfl rfl rfl (at_map (by omega)) rfl rfl) rfl rfl ?_
 refine SL.val (Val.loadAR tabOk rfl rfl rfl (Frm.abs_len _)) rfl rfl ?_
 refine SL.eff (Eff.alloc tabOk rfl) rfl rfl ?_
 rintro _ _ ⟨b7, rfl, rfl⟩
 refine SL.eff (Eff.store (L' := (ks[z]'hlt).abs) tabOk rfl rfl rfl (by repeat first|assumption|exact Upd.here|apply Upd.there) (by exact Frm.abs_len _) (lb_ (by rfl)) (by exact Frm.abs_ones _) (putL_whole (by exact Frm.abs_len _))) rfl rfl ?_
 rintro _ _ ⟨rfl, rfl⟩
 refine SL.nil (SE.seq ?_)
 refine SC.seq (SC.region ?_)
 refine SL.val (Val.loadA tabOk rfl rfl rfl (by repeat first|assumption|exact o0_|exact o1_|apply o2_) List.not_mem_nil (Frm.abs_len _)) rfl rfl ?_
 refine SL.val (Val.move rfl) rfl rfl ?_
 refine SL.val (Val.addI rfl rfl (by simp only [InR, lo, hi]; omega)) rfl rfl ?_
 refine SL.call (ih (ks[z]'hlt) (List.getElem_mem hlt) (deep + 1) (by omega) (by omega) (by omega)) Casts.refl (by kernel_rfl) rfl rfl rfl ?_
 refine ap_ ?_
 intro _
 refine SL.val (Val.move rfl) rfl rfl ?_
 refine SL.val (Val.extract rfl rfl) rfl rfl ?_
 refine SL.val (Val.extract rfl rfl) rfl rfl ?_
 iterate 2 refine SL.val (Val.assign rfl) rfl rfl ?_
 refine SL.nil (SE.seq ?_)
 refine SC.region ?_
 iterate 2 refine SL.val (Val.move rfl) rfl rfl ?_
 refine SL.val (Val.to (C := int ((1 + Frm.nodess (ks.take (z + 1)) : Nat) : Int)) (Val.addI rfl rfl (by simp only [InR, lo, hi]; omega)) (congrArg int (by omega))) rfl rfl ?_
 iterate 2 refine SL.val (Val.move rfl) rfl rfl ?_
 refine SL.val (Val.to (C := int (deep + (Frm.depths (ks.take (z + 1)) : Nat))) (Val.maxI rfl rfl) (congrArg int (by omega))) rfl rfl ?_
 iterate 2 refine SL.val (Val.assign rfl) rfl rfl ?_
 refine SL.nil ?_
 refine SE.inBlock ?_
 refine SE.seq ?_
 refine SC.region ?_
 first
  | refine SL.val (Val.addI rfl rfl (by simp only [InR, lo, hi]; omega)) rfl rfl ?_
  | refine SL.val (Val.addW rfl rfl) rfl rfl ?_
 refine SL.val (Val.move rfl) rfl rfl ?_
 refine SL.nil ?_
 refine SE.round (z + 1) (by first | omega | (dsimp only; omega)) (by first | omega | (dsimp only; omega)) (by exact ⟨rfl, rfl, rfl, rfl, rfl, rfl, rfl, trivial⟩) (by repeat first|exact s0 _|exact s1 _|apply s2|apply s3)
theorem shape_s (f : Frm) : ∀ deep : Int, f.nodes ≤ 1099511627776 → 0 ≤ deep → deep ≤ 1099511627776 - f.nodes → Spec Tryz.prog 111 [.agg f.abs, int deep] [] (fun _ : Unit => []) (fun _ => .tup [int (f.nodes : Nat), int (deep + f.depth - 1)]) := Frm.ind (p := fun f => ∀ deep : Int, f.nodes ≤ 1099511627776 → 0 ≤ deep → deep ≤ 1099511627776 - f.nodes → Spec Tryz.prog 111 [.agg f.abs, int deep] [] (fun _ : Unit => []) (fun _ => .tup [int (f.nodes : Nat), int (deep + f.depth - 1)])) (fun o a ks ih => fun deep hn h0 hd => shape_step ih hn h0 hd) f
set_option maxHeartbeats 1000000 in
theorem size_step (ih : ∀ k ∈ ks, k.nodes ≤ 1099511627776 → Spec Tryz.prog 125 [.agg k.abs] [] (fun _ : Unit => []) (fun _ => .tup [int (k.nodes : Nat), int (k.depth : Nat)])) (hn : (Frm.mk o a ks).nodes ≤ 1099511627776) : Spec Tryz.prog 125 [.agg (Frm.mk o a ks).abs] [] (fun _ : Unit => []) (fun _ => .tup [int ((Frm.mk o a ks).nodes : Nat), int ((Frm.mk o a ks).depth : Nat)]) := by
 rw [Frm.abs_mk]
 have hlen := Frm.length_le ks
 rw [Frm.nodes_mk] at hn
 refine spec_of Tryz.func125 rfl Tryz.ntmps125 rfl fun G w => ?_
 refine SC.seq (SC.region ?_)
 refine SL.eff (Eff.boxA rfl) rfl rfl ?_
 rintro _ _ ⟨b1, rfl, rfl⟩
 iterate 2 refine SL.val (Val.assign rfl) rfl rfl ?_
 refine SL.nil (SE.seq ?_)
 refine SC.seq (SC.region ?_)
 iterate 2 refine SL.val (Val.assign rfl) rfl rfl ?_
 refine SL.nil (SE.seq ?_)
 refine SC.seq ?_
 refine SC.seq (SC.region ?_)
 refine SL.val (Val.fieldAddr tabOk rfl rfl rfl rfl rfl) rfl rfl ?_
 refine SL.val (Val.load1 tabOk rfl rfl (by repeat first|assumption|exact o0_|exact o1_|apply o2_) List.not_mem_nil (by rfl)) rfl rfl ?_
 first
  | refine SL.val (Val.lenSl rfl Tryz.underlying93 (List.length_map _)) rfl rfl ?_
  | refine SL.val (Val.lenOwn rfl (by repeat first|assumption|exact m0|apply m1) Tryz.underlying93 (List.length_map _)) rfl rfl ?_
  | refine SL.val (Val.lenNil rfl Tryz.underlying93) rfl rfl ?_
 refine SL.val (Val.move rfl) rfl rfl ?_
 refine SL.nil (SE.seq ?_)
 refine SC.block ?_
 refine SC.loop (ι := Nat) (fun z => [.blk b1 95 [int o, int a, .sl 3 (ks.map Frm.abs)]]) (fun z => [(1, ptr b1), (4, int ((1 + Frm.nodess (ks.take z) : Nat) : Int)), (5, int (Frm.depths (ks.take z) : Nat)), (11, .sl 3 (ks.map Frm.abs)), (12, int (ks.length : Nat)), (13, int (z : Nat))]) (fun z => z ≤ ks.length) (fun z => ks.length - z) (0) (Nat.zero_le _) (by exact ⟨rfl, rfl, rfl, rfl, rfl, rfl, trivial⟩) (by repeat first|exact s0 _|exact s1 _|apply s2|apply s3) ?_
 intro z hz
 refine SC.seq (SC.region ?_)
 refine SL.val (Val.ltI rfl rfl) rfl rfl ?_
 refine SL.nil (SE.seq ?_)
 refine SC.seq ?_
 refine SC.condP rfl ?_ ?_
 rotate_left
 ·intro hc14
  have hz2 : z = ks.length := by omega
  have htk : ks.take z = ks := by rw [hz2]; exact List.take_of_length_le (Nat.le_refl _)
  have hdp := Frm.depth_le (Frm.mk o a ks)
  rw [Frm.depth_mk, Frm.nodes_mk] at hdp
  rw [htk]
  refine SC.exit ?_
  refine SE.then_ nofun ?_
  refine SE.then_ nofun ?_
  refine SE.exit ?_
  refine SE.seq ?_
  refine SC.seq (SC.region ?_)
  iterate 2 refine SL.val (Val.move rfl) rfl rfl ?_
  refine SL.val (Val.addI rfl rfl (by simp only [InR, lo, hi]; omega)) rfl rfl ?_
  iterate 2 refine SL.val (Val.assign rfl) rfl rfl ?_
  refine SL.nil (SE.seq ?_)
  refine SC.ret ?_
  refine SE.fin (rs := [.tmp 2, .tmp 3]) rfl (RV.tmp rfl (RV.tmp rfl RV.nil)) (()) (by repeat first|exact s0 _|exact s1 _|apply s2|apply s3) (by simp [It.rids]) ?_
  rw [Frm.nodes_mk, Frm.depth_mk]
  rw [show ((1 + Frm.depths ks : Nat) : Int) = (Frm.depths ks : Nat) + 1 by omega]
  rfl
 intro hc14
 have hlt : z < ks.length := by omega
 have hkz := Frm.nodes_mem (List.getElem_mem hlt)
 have hdz := Frm.depths_mem (List.getElem_mem hlt)
 have htn := Frm.take_nodes1 hlt
 have htd := Frm.take_depths1 hlt
 have htl := Frm.take_nodes (ks := ks) (z + 1)
 have hdn := Frm.depth_le (ks[z]'hlt)
 refine SC.skip ?_
 refine SE.seq ?_
 refine SC.seq ?_
 refine SC.block ?_
 refine SC.seq (SC.region ?_)
 refine SL.val (Val.indexSl tabOk Tryz.underlying93 rfl rfl rfl rfl (at_map (by omega)) rfl rfl) rfl rfl ?_
 refine SL.val (Val.loadAR tabOk rfl rfl rfl (Frm.abs_len _)) rfl rfl ?_
 refine SL.eff (Eff.alloc tabOk rfl) rfl rfl ?_
 rintro _ _ ⟨b7, rfl, rfl⟩
 refine SL.eff (Eff.store (L' := (ks[z]'hlt).abs) tabOk rfl rfl rfl (by repeat first|assumption|exact Upd.here|apply Upd.there) (by exact Frm.abs_len _) (lb_ (by rfl)) (by exact Frm.abs_ones _) (putL_whole (by exact Frm.abs_len _))) rfl rfl ?_
 rintro _ _ ⟨rfl, rfl⟩
 refine SL.nil (SE.seq ?_)
 refine SC.seq (SC.region ?_)
 refine SL.val (Val.loadA tabOk rfl rfl rfl (by repeat first|assumption|exact o0_|exact o1_|apply o2_) List.not_mem_nil (Frm.abs_len _)) rfl rfl ?_
 refine SL.call (ih (ks[z]'hlt) (List.getElem_mem hlt) (by omega)) Casts.refl (by kernel_rfl) rfl rfl rfl ?_
 refine ap_ ?_
 intro _
 refine SL.val (Val.move rfl) rfl rfl ?_
 refine SL.val (Val.extract rfl rfl) rfl rfl ?_
 refine SL.val (Val.extract rfl rfl) rfl rfl ?_
 iterate 2 refine SL.val (Val.assign rfl) rfl rfl ?_
 refine SL.nil (SE.seq ?_)
 refine SC.seq (SC.region ?_)
 iterate 2 refine SL.val (Val.move rfl) rfl rfl ?_
 refine SL.val (Val.to (C := int ((1 + Frm.nodess (ks.take (z + 1)) : Nat) : Int)) (Val.addI rfl rfl (by simp only [InR, lo, hi]; omega)) (congrArg int (by omega))) rfl rfl ?_
 refine SL.val (Val.assign rfl) rfl rfl ?_
 refine SL.nil (SE.seq ?_)
 refine SC.region ?_
 iterate 2 refine SL.val (Val.move rfl) rfl rfl ?_
 refine SL.val (Val.to (C := int (Frm.depths (ks.take (z + 1)) : Nat)) (Val.maxI rfl rfl) (congrArg int (by omega))) rfl rfl ?_
 refine SL.val (Val.assign rfl) rfl rfl ?_
 refine SL.nil ?_
 refine SE.inBlock ?_
 refine SE.seq ?_
 refine SC.region ?_
 first
  | refine SL.val (Val.addI rfl rfl (by simp only [InR, lo, hi]; omega)) rfl rfl ?_
  | refine SL.val (Val.addW rfl rfl) rfl rfl ?_
 refine SL.val (Val.move rfl) rfl rfl ?_
 refine SL.nil ?_
 refine SE.round (z + 1) (by first | omega | (dsimp only; omega)) (by first | omega | (dsimp only; omega)) (by exact ⟨rfl, rfl, rfl, rfl, rfl, rfl, trivial⟩) (by repeat first|exact s0 _|exact s1 _|apply s2|apply s3)
theorem size_s (f : Frm) : f.nodes ≤ 1099511627776 → Spec Tryz.prog 125 [.agg f.abs] [] (fun _ : Unit => []) (fun _ => .tup [int (f.nodes : Nat), int (f.depth : Nat)]) := Frm.ind (p := fun f => f.nodes ≤ 1099511627776 → Spec Tryz.prog 125 [.agg f.abs] [] (fun _ : Unit => []) (fun _ => .tup [int (f.nodes : Nat), int (f.depth : Nat)])) (fun o a ks ih => fun hn => size_step ih hn) f
theorem boo_i' {p : Prop} [Decidable p] {b : Bool} (h : b = true ↔ p) : retA [boo (decide p)] = boo b := by
  refine congrArg (fun b => Abs.v (Value.bool b)) ?_
  rw [Bool.eq_iff_iff, decide_eq_true_iff]
  exact h.symm
theorem boo_f' {b : Bool} (h : b = false) : retA [boo false] = boo b := by rw [h]; rfl
theorem boo_t' {b : Bool} (h : b = true) : retA [boo true] = boo b := by rw [h]; rfl
set_option maxHeartbeats 1000000 in
theorem ranges_step (ih : ∀ k ∈ ks, k.nodes ≤ 1099511627776 → Spec Tryz.prog 126 [.agg k.abs, int n] [] (fun _ : Unit => []) (fun _ => boo (k.ranges n))) (hn : (Frm.mk o a ks).nodes ≤ 1099511627776) : Spec Tryz.prog 126 [.agg (Frm.mk o a ks).abs, int n] [] (fun _ : Unit => []) (fun _ => boo ((Frm.mk o a ks).ranges n)) := by
  rw [Frm.abs_mk]
  have hlen := Frm.length_le ks
  rw [Frm.nodes_mk] at hn
  refine spec_of Tryz.func126 rfl Tryz.ntmps126 rfl fun G w => ?_
  refine SC.seq (SC.region ?_)
  refine SL.eff (Eff.boxA rfl) rfl rfl ?_
  rintro _ _ ⟨b2, rfl, rfl⟩
  refine SL.val (Val.assign rfl) rfl rfl ?_
  refine SL.nil (SE.seq ?_)
  refine SC.seq ?_
  refine SC.seq (SC.region ?_)
  refine SL.val (Val.fieldAddr tabOk rfl rfl rfl rfl rfl) rfl rfl ?_
  refine SL.val (Val.load1 tabOk rfl rfl (by repeat first|assumption|exact o0_|exact o1_|apply o2_) List.not_mem_nil (by rfl)) rfl rfl ?_
  first
    | refine SL.val (Val.lenSl rfl Tryz.underlying93 (List.length_map _)) rfl rfl ?_
    | refine SL.val (Val.lenOwn rfl (by repeat first|assumption|exact m0|apply m1) Tryz.underlying93 (List.length_map _)) rfl rfl ?_
    | refine SL.val (Val.lenNil rfl Tryz.underlying93) rfl rfl ?_
  refine SL.val (Val.eqI rfl rfl) rfl rfl ?_
  refine SL.nil (SE.seq ?_)
  refine SC.condP rfl ?_ ?_
  · intro hc10
    have hk0 : ks = [] := List.eq_nil_of_length_eq_zero (by omega)
    subst hk0
    refine SC.seq (SC.region ?_)
    refine SL.val (Val.fieldAddr tabOk rfl rfl rfl rfl rfl) rfl rfl ?_
    refine SL.val (Val.load1 tabOk rfl rfl (by repeat first|assumption|exact o0_|exact o1_|apply o2_) List.not_mem_nil (by rfl)) rfl rfl ?_
    refine SL.val (Val.geI rfl rfl) rfl rfl ?_
    refine SL.val (Val.move rfl) rfl rfl ?_
    refine SL.bothP (t := 14) rfl ?_ ?_
    rotate_left
    · intro hc14
      iterate 4 refine SL.skip rfl rfl ?_
      refine SL.val (Val.pickF rfl rfl) rfl rfl ?_
      refine SL.val (Val.move rfl) rfl rfl ?_
      iterate 3 refine SL.skip rfl rfl ?_
      refine SL.val (Val.pickF rfl rfl) rfl rfl ?_
      refine SL.val (Val.assign rfl) rfl rfl ?_
      refine SL.nil (SE.seq ?_)
      refine SC.ret ?_
      refine SE.then_ nofun ?_
      refine SE.fin (rs := [.tmp 4]) rfl (RV.tmp rfl RV.nil) (()) (by repeat first|exact s0 _|exact s1 _|apply s2|apply s3) (by simp [It.rids]) ?_
      first
        | (refine boo_i' ?_; rw [Frm.ranges_leaf, decide_eq_true_iff]; omega)
        | (refine boo_f' ?_; rw [Frm.ranges_leaf, decide_eq_false_iff_not]; omega)
    intro hc14
    refine SL.val (Val.fieldAddr tabOk rfl rfl rfl rfl rfl) rfl rfl ?_
    refine SL.val (Val.load1 tabOk rfl rfl (by repeat first|assumption|exact o0_|exact o1_|apply o2_) List.not_mem_nil (by rfl)) rfl rfl ?_
    refine SL.val (Val.move rfl) rfl rfl ?_
    refine SL.val (Val.ltI rfl rfl) rfl rfl ?_
    refine SL.val (Val.pickT rfl rfl) rfl rfl ?_
    refine SL.val (Val.move rfl) rfl rfl ?_
    refine SL.bothP (t := 20) rfl ?_ ?_
    · intro hc20
      refine SL.val (Val.fieldAddr tabOk rfl rfl rfl rfl rfl) rfl rfl ?_
      refine SL.val (Val.load1 tabOk rfl rfl (by repeat first|assumption|exact o0_|exact o1_|apply o2_) List.not_mem_nil (by rfl)) rfl rfl ?_
      refine SL.val (Val.eqI rfl rfl) rfl rfl ?_
      refine SL.val (Val.pickT rfl rfl) rfl rfl ?_
      refine SL.val (Val.assign rfl) rfl rfl ?_
      refine SL.nil (SE.seq ?_)
      refine SC.ret ?_
      refine SE.then_ nofun ?_
      refine SE.fin (rs := [.tmp 4]) rfl (RV.tmp rfl RV.nil) (()) (by repeat first|exact s0 _|exact s1 _|apply s2|apply s3) (by simp [It.rids]) ?_
      first
        | (refine boo_i' ?_; rw [Frm.ranges_leaf, decide_eq_true_iff]; omega)
        | (refine boo_f' ?_; rw [Frm.ranges_leaf, decide_eq_false_iff_not]; omega)
    intro hc20
    iterate 3 refine SL.skip rfl rfl ?_
    refine SL.val (Val.pickF rfl rfl) rfl rfl ?_
    refine SL.val (Val.assign rfl) rfl rfl ?_
    refine SL.nil (SE.seq ?_)
    refine SC.ret ?_
    refine SE.then_ nofun ?_
    refine SE.fin (rs := [.tmp 4]) rfl (RV.tmp rfl RV.nil) (()) (by repeat first|exact s0 _|exact s1 _|apply s2|apply s3) (by simp [It.rids]) ?_
    first
      | (refine boo_i' ?_; rw [Frm.ranges_leaf, decide_eq_true_iff]; omega)
      | (refine boo_f' ?_; rw [Frm.ranges_leaf, decide_eq_false_iff_not]; omega)
  intro hc10
  have hk0 : ks ≠ [] := by rintro rfl; simp at hc10
  refine SC.skip ?_
  refine SE.seq ?_
  refine SC.seq ?_
  refine SC.seq (SC.region ?_)
  refine SL.val (Val.fieldAddr tabOk rfl rfl rfl rfl rfl) rfl rfl ?_
  refine SL.val (Val.load1 tabOk rfl rfl (by repeat first|assumption|exact o0_|exact o1_|apply o2_) List.not_mem_nil (by rfl)) rfl rfl ?_
  first
    | refine SL.val (Val.lenSl rfl Tryz.underlying93 (List.length_map _)) rfl rfl ?_
    | refine SL.val (Val.lenOwn rfl (by repeat first|assumption|exact m0|apply m1) Tryz.underlying93 (List.length_map _)) rfl rfl ?_
    | refine SL.val (Val.lenNil rfl Tryz.underlying93) rfl rfl ?_
  refine SL.val (Val.move rfl) rfl rfl ?_
  refine SL.nil (SE.seq ?_)
  refine SC.block ?_
  refine SC.loop (ι := Nat) (fun z => [.blk b2 95 [int o, int a, .sl 3 (ks.map Frm.abs)]]) (fun z => [(1, int n), (2, ptr b2), (26, .sl 3 (ks.map Frm.abs)), (27, int (ks.length : Nat)), (28, int (z : Nat))]) (fun z => z ≤ ks.length ∧ ∀ j (h : j < ks.length), j < z → ks[j].ranges n = true) (fun z => ks.length - z) (0) (⟨Nat.zero_le _, fun j h hj => by omega⟩) (by exact ⟨rfl, rfl, rfl, rfl, rfl, trivial⟩) (by repeat first|exact s0 _|exact s1 _|apply s2|apply s3) ?_
  intro z hz
  refine SC.seq (SC.region ?_)
  refine SL.val (Val.ltI rfl rfl) rfl rfl ?_
  refine SL.nil (SE.seq ?_)
  refine SC.seq ?_
  refine SC.condP rfl ?_ ?_
  · intro hc29
    have hlt : z < ks.length := by omega
    have hkz := Frm.nodes_mem (List.getElem_mem hlt)
    have hdz := Frm.depths_mem (List.getElem_mem hlt)
    have htn := Frm.take_nodes1 hlt
    have htd := Frm.take_depths1 hlt
    have htl := Frm.take_nodes (ks := ks) (z + 1)
    have hdn := Frm.depth_le (ks[z]'hlt)
    refine SC.skip ?_
    refine SE.seq ?_
    refine SC.seq ?_
    refine SC.block ?_
    refine SC.seq (SC.region ?_)
    refine SL.val (Val.indexSl tabOk Tryz.underlying93 rfl rfl rfl rfl (at_map (by omega)) rfl rfl) rfl rfl ?_
    refine SL.val (Val.loadAR tabOk rfl rfl rfl (Frm.abs_len _)) rfl rfl ?_
    refine SL.eff (Eff.alloc tabOk rfl) rfl rfl ?_
    rintro _ _ ⟨b6, rfl, rfl⟩
    refine SL.eff (Eff.store (L' := (ks[z]'hlt).abs) tabOk rfl rfl rfl (by repeat first|assumption|exact Upd.here|apply Upd.there) (by exact Frm.abs_len _) (lb_ (by rfl)) (by exact Frm.abs_ones _) (putL_whole (by exact Frm.abs_len _))) rfl rfl ?_
    rintro _ _ ⟨rfl, rfl⟩
    refine SL.nil (SE.seq ?_)
    refine SC.seq (SC.region ?_)
    refine SL.val (Val.loadA tabOk rfl rfl rfl (by repeat first|assumption|exact o0_|exact o1_|apply o2_) List.not_mem_nil (Frm.abs_len _)) rfl rfl ?_
    refine SL.val (Val.move rfl) rfl rfl ?_
    refine SL.call (ih (ks[z]'hlt) (List.getElem_mem hlt) (by omega)) Casts.refl (by kernel_rfl) rfl rfl rfl ?_
    refine ap_ ?_
    intro _
    refine SL.val (Val.notB rfl) rfl rfl ?_
    refine SL.nil (SE.seq ?_)
    refine SC.cond rfl ?_ ?_
    rotate_left
    · intro hc35
      have hr : (ks[z]'hlt).ranges n = true := by simpa using hc35
      refine SC.skip ?_
      refine SE.inBlock ?_
      refine SE.seq ?_
      refine SC.region ?_
      first
        | refine SL.val (Val.addI rfl rfl (by simp only [InR, lo, hi]; omega)) rfl rfl ?_
        | refine SL.val (Val.addW rfl rfl) rfl rfl ?_
      refine SL.val (Val.move rfl) rfl rfl ?_
      refine SL.nil ?_
      refine SE.round (z + 1) (by first | omega | (dsimp only; omega)) (⟨by omega, fun j h hj => by
            rcases Nat.lt_or_ge j z with h1 | h1
            · exact hz.2 j h h1
            · obtain rfl : j = z := by omega
              exact hr⟩) (by exact ⟨rfl, rfl, rfl, rfl, rfl, trivial⟩) (by repeat first|exact s0 _|exact s1 _|apply s2|apply s3)
    intro hc35
    have hr : (ks[z]'hlt).ranges n = false := by simpa using hc35
    refine SC.seq (SC.region ?_)
    refine SL.val (Val.assign rfl) rfl rfl ?_
    refine SL.nil (SE.seq ?_)
    refine SC.ret ?_
    refine SE.ret ?_
    refine SE.then_ nofun ?_
    refine SE.then_ nofun ?_
    refine SE.ret ?_
    refine SE.then_ nofun ?_
    refine SE.fin (rs := [.tmp 4]) rfl (RV.tmp rfl RV.nil) (()) (by repeat first|exact s0 _|exact s1 _|apply s2|apply s3) (by simp [It.rids]) ?_
    refine boo_f' ?_
    rw [Frm.ranges_node n o a hk0, Bool.and_eq_false_iff]
    left
    rw [Bool.eq_false_iff]
    intro h
    rw [Frm.rangess_iff] at h
    rw [h _ (List.getElem_mem hlt)] at hr
    cases hr
  intro hc29
  have hz2 : z = ks.length := by omega
  have htk : ks.take z = ks := by rw [hz2]; exact List.take_of_length_le (Nat.le_refl _)
  refine SC.exit ?_
  refine SE.then_ nofun ?_
  refine SE.then_ nofun ?_
  refine SE.exit ?_
  refine SE.seq ?_
  refine SC.seq (SC.region ?_)
  refine SL.val (Val.fieldAddr tabOk rfl rfl rfl rfl rfl) rfl rfl ?_
  refine SL.val (Val.load1 tabOk rfl rfl (by repeat first|assumption|exact o0_|exact o1_|apply o2_) List.not_mem_nil (by rfl)) rfl rfl ?_
  refine SL.val (Val.geI rfl rfl) rfl rfl ?_
  refine SL.val (Val.move rfl) rfl rfl ?_
  refine SL.bothP (t := 40) rfl ?_ ?_
  rotate_left
  · intro hc40
    iterate 6 refine SL.skip rfl rfl ?_
    refine SL.val (Val.pickF rfl rfl) rfl rfl ?_
    refine SL.val (Val.move rfl) rfl rfl ?_
    iterate 3 refine SL.skip rfl rfl ?_
    refine SL.val (Val.pickF rfl rfl) rfl rfl ?_
    refine SL.val (Val.assign rfl) rfl rfl ?_
    refine SL.nil (SE.seq ?_)
    refine SC.ret ?_
    have hall : Frm.rangess n ks = true := by
      rw [Frm.rangess_iff]
      intro k hk
      obtain ⟨j, hj, rfl⟩ := List.getElem_of_mem hk
      exact hz.2 j hj (by omega)
    refine SE.fin (rs := [.tmp 4]) rfl (RV.tmp rfl RV.nil) (()) (by repeat first|exact s0 _|exact s1 _|apply s2|apply s3) (by simp [It.rids]) ?_
    first
      | (refine boo_i' ?_; rw [Frm.ranges_node n o a hk0, hall, Bool.true_and, decide_eq_true_iff]; omega)
      | (refine boo_f' ?_; rw [Frm.ranges_node n o a hk0, hall, Bool.true_and, decide_eq_false_iff_not]; omega)
  intro hc40
  refine SL.val (Val.fieldAddr tabOk rfl rfl rfl rfl rfl) rfl rfl ?_
  refine SL.val (Val.load1 tabOk rfl rfl (by repeat first|assumption|exact o0_|exact o1_|apply o2_) List.not_mem_nil (by rfl)) rfl rfl ?_
  refine SL.val (Val.fieldAddr tabOk rfl rfl rfl rfl rfl) rfl rfl ?_
  refine SL.val (Val.load1 tabOk rfl rfl (by repeat first|assumption|exact o0_|exact o1_|apply o2_) List.not_mem_nil (by rfl)) rfl rfl ?_
  first
    | refine SL.val (Val.lenSl rfl Tryz.underlying93 (List.length_map _)) rfl rfl ?_
    | refine SL.val (Val.lenOwn rfl (by repeat first|assumption|exact m0|apply m1) Tryz.underlying93 (List.length_map _)) rfl rfl ?_
    | refine SL.val (Val.lenNil rfl Tryz.underlying93) rfl rfl ?_
  refine SL.val (Val.leI rfl rfl) rfl rfl ?_
  refine SL.val (Val.pickT rfl rfl) rfl rfl ?_
  refine SL.val (Val.move rfl) rfl rfl ?_
  refine SL.bothP (t := 48) rfl ?_ ?_
  · intro hc48
    refine SL.val (Val.fieldAddr tabOk rfl rfl rfl rfl rfl) rfl rfl ?_
    refine SL.val (Val.load1 tabOk rfl rfl (by repeat first|assumption|exact o0_|exact o1_|apply o2_) List.not_mem_nil (by rfl)) rfl rfl ?_
    refine SL.val (Val.eqI rfl rfl) rfl rfl ?_
    refine SL.val (Val.pickT rfl rfl) rfl rfl ?_
    refine SL.val (Val.assign rfl) rfl rfl ?_
    refine SL.nil (SE.seq ?_)
    refine SC.ret ?_
    have hall : Frm.rangess n ks = true := by
      rw [Frm.rangess_iff]
      intro k hk
      obtain ⟨j, hj, rfl⟩ := List.getElem_of_mem hk
      exact hz.2 j hj (by omega)
    refine SE.fin (rs := [.tmp 4]) rfl (RV.tmp rfl RV.nil) (()) (by repeat first|exact s0 _|exact s1 _|apply s2|apply s3) (by simp [It.rids]) ?_
    first
      | (refine boo_i' ?_; rw [Frm.ranges_node n o a hk0, hall, Bool.true_and, decide_eq_true_iff]; omega)
      | (refine boo_f' ?_; rw [Frm.ranges_node n o a hk0, hall, Bool.true_and, decide_eq_false_iff_not]; omega)
  intro hc48
  iterate 3 refine SL.skip rfl rfl ?_
  refine SL.val (Val.pickF rfl rfl) rfl rfl ?_
  refine SL.val (Val.assign rfl) rfl rfl ?_
  refine SL.nil (SE.seq ?_)
  refine SC.ret ?_
  have hall : Frm.rangess n ks = true := by
    rw [Frm.rangess_iff]
    intro k hk
    obtain ⟨j, hj, rfl⟩ := List.getElem_of_mem hk
    exact hz.2 j hj (by omega)
  refine SE.fin (rs := [.tmp 4]) rfl (RV.tmp rfl RV.nil) (()) (by repeat first|exact s0 _|exact s1 _|apply s2|apply s3) (by simp [It.rids]) ?_
  first
    | (refine boo_i' ?_; rw [Frm.ranges_node n o a hk0, hall, Bool.true_and, decide_eq_true_iff]; omega)
    | (refine boo_f' ?_; rw [Frm.ranges_node n o a hk0, hall, Bool.true_and, decide_eq_false_iff_not]; omega)
theorem ranges_s (n : Int) (f : Frm) : f.nodes ≤ 1099511627776 → Spec Tryz.prog 126 [.agg f.abs, int n] [] (fun _ : Unit => []) (fun _ => boo (f.ranges n)) := Frm.ind (p := fun f => f.nodes ≤ 1099511627776 → Spec Tryz.prog 126 [.agg f.abs, int n] [] (fun _ : Unit => []) (fun _ => boo (f.ranges n))) (fun o a ks ih => fun hn => ranges_step ih hn) f
theorem indexFunc_frm {xs : List Frm} {p : Frm → Bool} {k : Nat} {caps : List Abs} {σ : Blks} (hb : goesIn Tryz.prog k = true) (hr : Rds σ) (hn : xs.length < 9223372036854775807) (h : ∀ x ∈ xs, Spec Tryz.prog k (.agg (Frm.abs x) :: caps) σ (fun _ : Unit => []) (fun _ => boo (p x))) : Spec Tryz.prog 149 [.sl 3 (xs.map Frm.abs), .fn (.func k) [] caps] σ (fun _ : {r : Int // 0 ≤ r ↔ ∃ x ∈ xs, p x = true} => []) (fun z => int z.1) := by
 refine spec_of Tryz.func149 rfl Tryz.ntmps149 rfl fun G w => ?_
 refine SC.seq (SC.region ?_)
 refine SL.val (Val.assign rfl) rfl rfl ?_
 refine SL.nil (SE.seq ?_)
 refine SC.seq ?_
 refine SC.seq (SC.region ?_)
 refine SL.val (Val.move rfl) rfl rfl ?_
 first
  | refine SL.val (Val.lenSl rfl Tryz.underlying93 (List.length_map _)) rfl rfl ?_
  | refine SL.val (Val.lenOwn rfl (by repeat first|assumption|exact m0|apply m1) Tryz.underlying93 (List.length_map _)) rfl rfl ?_
  | refine SL.val (Val.lenNil rfl Tryz.underlying93) rfl rfl ?_
 refine SL.val (Val.move rfl) rfl rfl ?_
 refine SL.nil (SE.seq ?_)
 refine SC.block ?_
 refine SC.loop (ι := Nat) (fun z => σ) (fun z => [(0, .sl 3 (xs.map Frm.abs)), (1, .fn (.func k) [] caps), (7, int (xs.length : Nat)), (8, int (z : Nat))]) (fun z => z ≤ xs.length ∧ ∀ j (hj : j < xs.length), j < z → p xs[j] = false) (fun z => xs.length - z) (0) (⟨Nat.zero_le _, by omega⟩) (by exact ⟨rfl, rfl, rfl, rfl, trivial⟩) (by repeat first|exact s0 _|exact s1 _|apply s2|apply s3) ?_
 intro z hz
 refine SC.seq (SC.region ?_)
 refine SL.val (Val.ltI rfl rfl) rfl rfl ?_
 refine SL.nil (SE.seq ?_)
 refine SC.seq ?_
 refine SC.condP rfl ?_ ?_
 rotate_left
 ·intro hc9
  refine SC.exit ?_
  refine SE.then_ nofun ?_
  refine SE.then_ nofun ?_
  refine SE.exit ?_
  refine SE.seq ?_
  refine SC.seq (SC.region ?_)
  refine SL.val (Val.assign rfl) rfl rfl ?_
  refine SL.nil (SE.seq ?_)
  refine SC.ret ?_
  refine SE.fin (rs := [.tmp 4]) rfl (RV.tmp rfl RV.nil) (⟨-1, ⟨fun h => (by omega), fun ⟨x, hx, hp⟩ => by obtain ⟨j, hj, rfl⟩ := List.getElem_of_mem hx; have := hz.2 j hj (by omega); rw [this] at hp; cases hp⟩⟩) (by repeat first|exact s0 _|exact s1 _|apply s2|apply s3) (by simp [It.rids]) ?_
  exact rfl
 intro hc9
 have hlt : z < xs.length := by omega
 refine SC.skip ?_
 refine SE.seq ?_
 refine SC.seq ?_
 refine SC.block ?_
 refine SC.seq (SC.region ?_)
 refine SL.val (Val.move rfl) rfl rfl ?_
 refine SL.val (Val.assign rfl) rfl rfl ?_
 refine SL.nil (SE.seq ?_)
 refine SC.seq (SC.region ?_)
 iterate 3 refine SL.val (Val.move rfl) rfl rfl ?_
 refine SL.val (Val.indexSl tabOk Tryz.underlying93 rfl rfl rfl rfl (at_map (by omega)) rfl rfl) rfl rfl ?_
 refine SL.val (Val.loadAR tabOk rfl rfl rfl (Frm.abs_len _)) rfl rfl ?_
 refine SL.callv (h _ (List.getElem_mem hlt)) rfl Casts.refl hb rfl rfl rfl ?_
 refine After.pure (Rds.reads hr (fun x hx => by repeat (first | exact hx | apply List.mem_cons_of_mem))) (fun _ => rfl) ?_
 intro _
 refine SL.nil (SE.seq ?_)
 refine SC.cond rfl ?_ ?_
 rotate_left
 ·intro hc16
  refine SC.skip ?_
  refine SE.inBlock ?_
  refine SE.seq ?_
  refine SC.region ?_
  first
   | refine SL.val (Val.addI rfl rfl (by simp only [InR, lo, hi]; omega)) rfl rfl ?_
   | refine SL.val (Val.addW rfl rfl) rfl rfl ?_
  refine SL.val (Val.move rfl) rfl rfl ?_
  refine SL.nil ?_
  refine SE.round (z + 1) (by first | omega | (dsimp only; omega)) (⟨by omega, fun j hj hjz => by rcases Nat.lt_or_ge j z with h1 | h1; exact hz.2 j hj h1; obtain rfl : j = z := (by omega); exact hc16⟩) (by exact ⟨rfl, rfl, rfl, rfl, trivial⟩) (by repeat first|exact s0 _|exact s1 _|apply s2|apply s3)
 intro hc16
 refine SC.seq (SC.region ?_)
 refine SL.val (Val.move rfl) rfl rfl ?_
 refine SL.val (Val.assign rfl) rfl rfl ?_
 refine SL.nil (SE.seq ?_)
 refine SC.ret ?_
 refine SE.ret ?_
 refine SE.then_ nofun ?_
 refine SE.then_ nofun ?_
 refine SE.ret ?_
 refine SE.then_ nofun ?_
 refine SE.fin (rs := [.tmp 4]) rfl (RV.tmp rfl RV.nil) (⟨(z : Nat), ⟨fun _ => ⟨_, List.getElem_mem hlt, hc16⟩, fun _ => (by omega)⟩⟩) (by repeat first|exact s0 _|exact s1 _|apply s2|apply s3) (by simp [It.rids]) ?_
 exact rfl
theorem containsFunc_frm {xs : List Frm} {p : Frm → Bool} {k : Nat} {caps : List Abs} {σ : Blks} (hb : goesIn Tryz.prog k = true) (hr : Rds σ) (hn : xs.length < 9223372036854775807) (h : ∀ x ∈ xs, Spec Tryz.prog k (.agg (Frm.abs x) :: caps) σ (fun _ : Unit => []) (fun _ => boo (p x))) : Spec Tryz.prog 135 [.sl 3 (xs.map Frm.abs), .fn (.func k) [] caps] σ (fun _ : Unit => []) (fun _ => boo (xs.any p)) := by
 refine spec_of Tryz.func135 rfl Tryz.ntmps135 rfl fun G w => ?_
 refine SC.seq (SC.region ?_)
 refine SL.val (Val.assign rfl) rfl rfl ?_
 refine SL.nil (SE.seq ?_)
 refine SC.seq (SC.region ?_)
 iterate 2 refine SL.val (Val.move rfl) rfl rfl ?_
 refine SL.call (indexFunc_frm hb hr hn h) Casts.refl (by kernel_rfl) rfl rfl rfl ?_
 refine After.pure (Rds.reads hr (fun x hx => by repeat (first | exact hx | apply List.mem_cons_of_mem))) (fun _ => rfl) ?_
 intro r
 refine SL.val (Val.geI rfl rfl) rfl rfl ?_
 refine SL.val (Val.assign rfl) rfl rfl ?_
 refine SL.nil (SE.seq ?_)
 refine SC.ret ?_
 refine SE.fin (rs := [.tmp 4]) rfl (RV.tmp rfl RV.nil) (()) (by repeat first|exact s0 _|exact s1 _|apply s2|apply s3) (by simp [It.rids]) ?_
 refine congrArg (fun b => Abs.v (Value.bool b)) ?_
 rw [Bool.eq_iff_iff, decide_eq_true_iff, r.2, List.any_eq_true]
theorem odd1_s {p : Nat} (h : Spec Tryz.prog 112 [.agg f.abs, int n] [] (fun _ : Unit => []) (fun _ => boo (!f.ranges n))) : Spec Tryz.prog 136 [.agg f.abs, ptr p] [.rd p 3 [int n]] (fun _ : Unit => []) (fun _ => boo (!f.ranges n)) := by
 refine spec_of Tryz.func136 rfl Tryz.ntmps136 rfl fun G w => ?_
 refine SC.seq (SC.region ?_)
 refine SL.eff (Eff.boxA (cs := f.abs) rfl) rfl rfl ?_
 rintro _ _ ⟨b2, rfl, rfl⟩
 refine SL.val (Val.assign rfl) rfl rfl ?_
 refine SL.nil (SE.seq ?_)
 refine SC.seq (SC.region ?_)
 refine SL.val (Val.loadA tabOk rfl rfl rfl (by repeat first|assumption|exact o0_|exact o1_|apply o2_) List.not_mem_nil (Frm.abs_len _)) rfl rfl ?_
 refine SL.val (Val.load1 tabOk rfl rfl (by repeat first|assumption|exact o0_|exact o1_|apply o2_) List.not_mem_nil (by rfl)) rfl rfl ?_
 refine SL.call (h) Casts.refl (by kernel_rfl) rfl rfl rfl ?_
 refine After.pure Reads.nil (fun _ => rfl) ?_
 intro _
 refine SL.val (Val.assign rfl) rfl rfl ?_
 refine SL.nil (SE.seq ?_)
 refine SC.ret ?_
 refine SE.fin (rs := [.tmp 3]) rfl (RV.tmp rfl RV.nil) (()) (by repeat first|exact s0 _|exact s1 _|apply s2|apply s3) (by simp [It.rids]) ?_
 exact rfl
set_option maxHeartbeats 1000000 in
theorem odd_step (ih : ∀ k ∈ ks, k.nodes ≤ 1099511627776 → Spec Tryz.prog 112 [.agg k.abs, int n] [] (fun _ : Unit => []) (fun _ => boo (!k.ranges n))) (hn : (Frm.mk o a ks).nodes ≤ 1099511627776) : Spec Tryz.prog 112 [.agg (Frm.mk o a ks).abs, int n] [] (fun _ : Unit => []) (fun _ => boo (!(Frm.mk o a ks).ranges n)) := by
 rw [Frm.abs_mk]
 have hlen := Frm.length_le ks
 rw [Frm.nodes_mk] at hn
 refine spec_of Tryz.func112 rfl Tryz.ntmps112 rfl fun G w => ?_
 refine SC.seq (SC.region ?_)
 refine SL.eff (Eff.boxA rfl) rfl rfl ?_
 rintro _ _ ⟨b2, rfl, rfl⟩
 refine SL.eff (Eff.box1 rfl rfl) rfl rfl ?_
 rintro _ _ ⟨b3, rfl, rfl⟩
 refine SL.val (Val.assign rfl) rfl rfl ?_
 refine SL.nil (SE.seq ?_)
 refine SC.seq ?_
 refine SC.seq (SC.region ?_)
 refine SL.val (Val.fieldAddr tabOk rfl rfl rfl rfl rfl) rfl rfl ?_
 refine SL.val (Val.load1 tabOk rfl rfl (by repeat first|assumption|exact o0_|exact o1_|apply o2_) List.not_mem_nil (by rfl)) rfl rfl ?_
 first
  | refine SL.val (Val.lenSl rfl Tryz.underlying93 (List.length_map _)) rfl rfl ?_
  | refine SL.val (Val.lenOwn rfl (by repeat first|assumption|exact m0|apply m1) Tryz.underlying93 (List.length_map _)) rfl rfl ?_
  | refine SL.val (Val.lenNil rfl Tryz.underlying93) rfl rfl ?_
 refine SL.val (Val.eqI rfl rfl) rfl rfl ?_
 refine SL.nil (SE.seq ?_)
 refine SC.condP rfl ?_ ?_
 ·intro hc8
  have hk0 : ks = [] := List.eq_nil_of_length_eq_zero (by omega)
  subst hk0
  refine SC.seq (SC.region ?_)
  refine SL.val (Val.fieldAddr tabOk rfl rfl rfl rfl rfl) rfl rfl ?_
  refine SL.val (Val.load1 tabOk rfl rfl (by repeat first|assumption|exact o0_|exact o1_|apply o2_) List.not_mem_nil (by rfl)) rfl rfl ?_
  refine SL.val (Val.neI rfl rfl) rfl rfl ?_
  refine SL.val (Val.move rfl) rfl rfl ?_
  refine SL.bothP (t := 12) rfl ?_ ?_
  ·intro hc12
   iterate 3 refine SL.skip rfl rfl ?_
   refine SL.val (Val.pickT rfl rfl) rfl rfl ?_
   refine SL.val (Val.move rfl) rfl rfl ?_
   iterate 4 refine SL.skip rfl rfl ?_
   refine SL.val (Val.pickT rfl rfl) rfl rfl ?_
   refine SL.val (Val.assign rfl) rfl rfl ?_
   refine SL.nil (SE.seq ?_)
   refine SC.ret ?_
   refine SE.then_ nofun ?_
   refine SE.fin (rs := [.tmp 4]) rfl (RV.tmp rfl RV.nil) (()) (by repeat first|exact s0 _|exact s1 _|apply s2|apply s3) (by simp [It.rids]) ?_
   first
    | (refine boo_i' ?_; rw [Frm.ranges_leaf, Bool.not_eq_true', decide_eq_false_iff_not]; omega)
    | (refine boo_t' ?_; rw [Frm.ranges_leaf, Bool.not_eq_true', decide_eq_false_iff_not]; omega)
  intro hc12
  refine SL.val (Val.fieldAddr tabOk rfl rfl rfl rfl rfl) rfl rfl ?_
  refine SL.val (Val.load1 tabOk rfl rfl (by repeat first|assumption|exact o0_|exact o1_|apply o2_) List.not_mem_nil (by rfl)) rfl rfl ?_
  refine SL.val (Val.ltI rfl rfl) rfl rfl ?_
  refine SL.val (Val.pickF rfl rfl) rfl rfl ?_
  refine SL.val (Val.move rfl) rfl rfl ?_
  refine SL.bothP (t := 17) rfl ?_ ?_
  ·intro hc17
   iterate 4 refine SL.skip rfl rfl ?_
   refine SL.val (Val.pickT rfl rfl) rfl rfl ?_
   refine SL.val (Val.assign rfl) rfl rfl ?_
   refine SL.nil (SE.seq ?_)
   refine SC.ret ?_
   refine SE.then_ nofun ?_
   refine SE.fin (rs := [.tmp 4]) rfl (RV.tmp rfl RV.nil) (()) (by repeat first|exact s0 _|exact s1 _|apply s2|apply s3) (by simp [It.rids]) ?_
   first
    | (refine boo_i' ?_; rw [Frm.ranges_leaf, Bool.not_eq_true', decide_eq_false_iff_not]; omega)
    | (refine boo_t' ?_; rw [Frm.ranges_leaf, Bool.not_eq_true', decide_eq_false_iff_not]; omega)
  intro hc17
  refine SL.val (Val.fieldAddr tabOk rfl rfl rfl rfl rfl) rfl rfl ?_
  refine SL.val (Val.load1 tabOk rfl rfl (by repeat first|assumption|exact o0_|exact o1_|apply o2_) List.not_mem_nil (by rfl)) rfl rfl ?_
  refine SL.val (Val.load1 tabOk rfl rfl (by repeat first|assumption|exact o0_|exact o1_|apply o2_) List.not_mem_nil (by rfl)) rfl rfl ?_
  refine SL.val (Val.geI rfl rfl) rfl rfl ?_
  refine SL.val (Val.pickF rfl rfl) rfl rfl ?_
  refine SL.val (Val.assign rfl) rfl rfl ?_
  refine SL.nil (SE.seq ?_)
  refine SC.ret ?_
  refine SE.then_ nofun ?_
  refine SE.fin (rs := [.tmp 4]) rfl (RV.tmp rfl RV.nil) (()) (by repeat first|exact s0 _|exact s1 _|apply s2|apply s3) (by simp [It.rids]) ?_
  first
   | (refine boo_i' ?_; rw [Frm.ranges_leaf, Bool.not_eq_true', decide_eq_false_iff_not]; omega)
   | (refine boo_t' ?_; rw [Frm.ranges_leaf, Bool.not_eq_true', decide_eq_false_iff_not]; omega)
 intro hc8
 have hk0 : ks ≠ [] := by rintro rfl; simp at hc8
 refine SC.skip ?_
 refine SE.seq ?_
 refine SC.seq (SC.region ?_)
 refine SL.val (Val.fieldAddr tabOk rfl rfl rfl rfl rfl) rfl rfl ?_
 refine SL.val (Val.load1 tabOk rfl rfl (by repeat first|assumption|exact o0_|exact o1_|apply o2_) List.not_mem_nil (by rfl)) rfl rfl ?_
 refine SL.val (Val.neI rfl rfl) rfl rfl ?_
 refine SL.val (Val.move rfl) rfl rfl ?_
 refine SL.bothP (t := 26) rfl ?_ ?_
 ·intro hc26
  iterate 3 refine SL.skip rfl rfl ?_
  refine SL.val (Val.pickT rfl rfl) rfl rfl ?_
  refine SL.val (Val.move rfl) rfl rfl ?_
  iterate 6 refine SL.skip rfl rfl ?_
  refine SL.val (Val.pickT rfl rfl) rfl rfl ?_
  refine SL.val (Val.move rfl) rfl rfl ?_
  iterate 4 refine SL.skip rfl rfl ?_
  refine SL.val (Val.pickT rfl rfl) rfl rfl ?_
  refine SL.val (Val.assign rfl) rfl rfl ?_
  refine SL.nil (SE.seq ?_)
  refine SC.ret ?_
  refine SE.fin (rs := [.tmp 4]) rfl (RV.tmp rfl RV.nil) (()) (by repeat first|exact s0 _|exact s1 _|apply s2|apply s3) (by simp [It.rids]) ?_
  first
   | (refine boo_t' ?_; rw [Frm.ranges_node n o a hk0, Bool.not_eq_true', Bool.and_eq_false_iff, decide_eq_false_iff_not]; right; omega)
   | (show boo (ks.any fun f => !f.ranges n) = _; refine congrArg (fun b => Abs.v (Value.bool b)) ?_; rw [Frm.ranges_node n o a hk0, show decide (1 ≤ a ∧ a ≤ ((ks.length : Nat) : Int) ∧ o = 0) = true from decide_eq_true (by omega), Bool.and_true, Bool.eq_iff_iff, List.any_eq_true, Bool.not_eq_true', Bool.eq_false_iff, ne_eq, Frm.rangess_iff]; simp)
 intro hc26
 refine SL.val (Val.fieldAddr tabOk rfl rfl rfl rfl rfl) rfl rfl ?_
 refine SL.val (Val.load1 tabOk rfl rfl (by repeat first|assumption|exact o0_|exact o1_|apply o2_) List.not_mem_nil (by rfl)) rfl rfl ?_
 refine SL.val (Val.ltI rfl rfl) rfl rfl ?_
 refine SL.val (Val.pickF rfl rfl) rfl rfl ?_
 refine SL.val (Val.move rfl) rfl rfl ?_
 refine SL.bothP (t := 31) rfl ?_ ?_
 ·intro hc31
  iterate 6 refine SL.skip rfl rfl ?_
  refine SL.val (Val.pickT rfl rfl) rfl rfl ?_
  refine SL.val (Val.move rfl) rfl rfl ?_
  iterate 4 refine SL.skip rfl rfl ?_
  refine SL.val (Val.pickT rfl rfl) rfl rfl ?_
  refine SL.val (Val.assign rfl) rfl rfl ?_
  refine SL.nil (SE.seq ?_)
  refine SC.ret ?_
  refine SE.fin (rs := [.tmp 4]) rfl (RV.tmp rfl RV.nil) (()) (by repeat first|exact s0 _|exact s1 _|apply s2|apply s3) (by simp [It.rids]) ?_
  first
   | (refine boo_t' ?_; rw [Frm.ranges_node n o a hk0, Bool.not_eq_true', Bool.and_eq_false_iff, decide_eq_false_iff_not]; right; omega)
   | (show boo (ks.any fun f => !f.ranges n) = _; refine congrArg (fun b => Abs.v (Value.bool b)) ?_; rw [Frm.ranges_node n o a hk0, show decide (1 ≤ a ∧ a ≤ ((ks.length : Nat) : Int) ∧ o = 0) = true from decide_eq_true (by omega), Bool.and_true, Bool.eq_iff_iff, List.any_eq_true, Bool.not_eq_true', Bool.eq_false_iff, ne_eq, Frm.rangess_iff]; simp)
 intro hc31
 refine SL.val (Val.fieldAddr tabOk rfl rfl rfl rfl rfl) rfl rfl ?_
 refine SL.val (Val.load1 tabOk rfl rfl (by repeat first|assumption|exact o0_|exact o1_|apply o2_) List.not_mem_nil (by rfl)) rfl rfl ?_
 refine SL.val (Val.fieldAddr tabOk rfl rfl rfl rfl rfl) rfl rfl ?_
 refine SL.val (Val.load1 tabOk rfl rfl (by repeat first|assumption|exact o0_|exact o1_|apply o2_) List.not_mem_nil (by rfl)) rfl rfl ?_
 first
  | refine SL.val (Val.lenSl rfl Tryz.underlying93 (List.length_map _)) rfl rfl ?_
  | refine SL.val (Val.lenOwn rfl (by repeat first|assumption|exact m0|apply m1) Tryz.underlying93 (List.length_map _)) rfl rfl ?_
  | refine SL.val (Val.lenNil rfl Tryz.underlying93) rfl rfl ?_
 refine SL.val (Val.gtI rfl rfl) rfl rfl ?_
 refine SL.val (Val.pickF rfl rfl) rfl rfl ?_
 refine SL.val (Val.move rfl) rfl rfl ?_
 refine SL.bothP (t := 39) rfl ?_ ?_
 ·intro hc39
  iterate 4 refine SL.skip rfl rfl ?_
  refine SL.val (Val.pickT rfl rfl) rfl rfl ?_
  refine SL.val (Val.assign rfl) rfl rfl ?_
  refine SL.nil (SE.seq ?_)
  refine SC.ret ?_
  refine SE.fin (rs := [.tmp 4]) rfl (RV.tmp rfl RV.nil) (()) (by repeat first|exact s0 _|exact s1 _|apply s2|apply s3) (by simp [It.rids]) ?_
  first
   | (refine boo_t' ?_; rw [Frm.ranges_node n o a hk0, Bool.not_eq_true', Bool.and_eq_false_iff, decide_eq_false_iff_not]; right; omega)
   | (show boo (ks.any fun f => !f.ranges n) = _; refine congrArg (fun b => Abs.v (Value.bool b)) ?_; rw [Frm.ranges_node n o a hk0, show decide (1 ≤ a ∧ a ≤ ((ks.length : Nat) : Int) ∧ o = 0) = true from decide_eq_true (by omega), Bool.and_true, Bool.eq_iff_iff, List.any_eq_true, Bool.not_eq_true', Bool.eq_false_iff, ne_eq, Frm.rangess_iff]; simp)
 intro hc39
 refine SL.val (Val.fieldAddr tabOk rfl rfl rfl rfl rfl) rfl rfl ?_
 refine SL.val (Val.load1 tabOk rfl rfl (by repeat first|assumption|exact o0_|exact o1_|apply o2_) List.not_mem_nil (by rfl)) rfl rfl ?_
 refine SL.val (Val.makeFunc rfl rfl) rfl rfl ?_
 refine SL.call (containsFunc_frm (xs := ks) (k := 136) (caps := [ptr b3]) (σ := [.rd b3 3 [int n]]) (p := fun f : Frm => !f.ranges n) (by kernel_rfl) (by intro x hx; simp only [List.mem_cons, List.not_mem_nil, or_false] at hx; rcases hx with rfl; exact .inl ⟨_, _, _, rfl⟩) (by omega) (fun k hk => odd1_s (ih k hk (by have := Frm.nodes_mem hk; omega)))) Casts.refl (by kernel_rfl) rfl rfl rfl ?_
 refine ap_ ?_
 intro _
 refine SL.val (Val.pickF rfl rfl) rfl rfl ?_
 refine SL.val (Val.assign rfl) rfl rfl ?_
 refine SL.nil (SE.seq ?_)
 refine SC.ret ?_
 refine SE.fin (rs := [.tmp 4]) rfl (RV.tmp rfl RV.nil) (()) (by repeat first|exact s0 _|exact s1 _|apply s2|apply s3) (by simp [It.rids]) ?_
 first
  | (refine boo_t' ?_; rw [Frm.ranges_node n o a hk0, Bool.not_eq_true', Bool.and_eq_false_iff, decide_eq_false_iff_not]; right; omega)
  | (show boo (ks.any fun f => !f.ranges n) = _; refine congrArg (fun b => Abs.v (Value.bool b)) ?_; rw [Frm.ranges_node n o a hk0, show decide (1 ≤ a ∧ a ≤ ((ks.length : Nat) : Int) ∧ o = 0) = true from decide_eq_true (by omega), Bool.and_true, Bool.eq_iff_iff, List.any_eq_true, Bool.not_eq_true', Bool.eq_false_iff, ne_eq, Frm.rangess_iff]; simp)
theorem odd_s (n : Int) (f : Frm) : f.nodes ≤ 1099511627776 → Spec Tryz.prog 112 [.agg f.abs, int n] [] (fun _ : Unit => []) (fun _ => boo (!f.ranges n)) := Frm.ind (p := fun f => f.nodes ≤ 1099511627776 → Spec Tryz.prog 112 [.agg f.abs, int n] [] (fun _ : Unit => []) (fun _ => boo (!f.ranges n))) (fun o a ks ih => fun hn => odd_step ih hn) f
theorem fcheck_s (hn : f.nodes ≤ 1099511627000) : Spec Tryz.prog 82 [.agg f.abs, int n] [] (fun _ : Unit => []) (fun _ => int (f.check n)) := by
 have hdp := f.depth_le
 refine spec_of Tryz.func82 rfl Tryz.ntmps82 rfl fun G w => ?_
 refine SC.seq (SC.region ?_)
 refine SL.eff (Eff.boxA (cs := f.abs) rfl) rfl rfl ?_
 rintro _ _ ⟨b2, rfl, rfl⟩
 refine SL.val (Val.assign rfl) rfl rfl ?_
 refine SL.nil (SE.seq ?_)
 refine SC.seq ?_
 refine SC.seq (SC.region ?_)
 refine SL.val (Val.move rfl) rfl rfl ?_
 refine SL.val (Val.ltI rfl rfl) rfl rfl ?_
 refine SL.val (Val.move rfl) rfl rfl ?_
 refine SL.bothP (t := 9) rfl ?_ ?_
 ·intro hc9
  iterate 2 refine SL.skip rfl rfl ?_
  refine SL.val (Val.pickT rfl rfl) rfl rfl ?_
  refine SL.nil (SE.seq ?_)
  refine SC.condT rfl ?_
  refine SC.seq (SC.region ?_)
  refine SL.val (Val.assign rfl) rfl rfl ?_
  refine SL.nil (SE.seq ?_)
  refine SC.ret ?_
  refine SE.then_ nofun ?_
  try have hr := hc24
  refine SE.fin (rs := [.tmp 4]) rfl (RV.tmp rfl RV.nil) (()) (by repeat first|exact s0 _|exact s1 _|apply s2|apply s3) (by simp [It.rids]) ?_
  first
   | (refine congrArg int ?_; unfold Frm.check; rw [if_pos (by omega)])
   | (refine congrArg int ?_; unfold Frm.check; rw [if_neg (by omega), if_pos (by omega)])
   | (refine congrArg int ?_; unfold Frm.check; rw [if_neg (by omega), if_neg (by omega), if_pos (by omega)])
   | (refine congrArg int ?_; unfold Frm.check; rw [if_neg (by omega), if_neg (by omega), if_neg (by omega)]; rename_i hr; simp at hr; simp [hr])
 intro hc9
 refine SL.val (Val.move rfl) rfl rfl ?_
 refine SL.val (Val.gtI rfl rfl) rfl rfl ?_
 refine SL.val (Val.pickF rfl rfl) rfl rfl ?_
 refine SL.nil (SE.seq ?_)
 refine SC.condP rfl ?_ ?_
 ·intro hc12
  refine SC.seq (SC.region ?_)
  refine SL.val (Val.assign rfl) rfl rfl ?_
  refine SL.nil (SE.seq ?_)
  refine SC.ret ?_
  refine SE.then_ nofun ?_
  try have hr := hc24
  refine SE.fin (rs := [.tmp 4]) rfl (RV.tmp rfl RV.nil) (()) (by repeat first|exact s0 _|exact s1 _|apply s2|apply s3) (by simp [It.rids]) ?_
  first
   | (refine congrArg int ?_; unfold Frm.check; rw [if_pos (by omega)])
   | (refine congrArg int ?_; unfold Frm.check; rw [if_neg (by omega), if_pos (by omega)])
   | (refine congrArg int ?_; unfold Frm.check; rw [if_neg (by omega), if_neg (by omega), if_pos (by omega)])
   | (refine congrArg int ?_; unfold Frm.check; rw [if_neg (by omega), if_neg (by omega), if_neg (by omega)]; rename_i hr; simp at hr; simp [hr])
 intro hc12
 refine SC.skip ?_
 refine SE.seq ?_
 refine SC.seq ?_
 refine SC.seq (SC.region ?_)
 refine SL.val (Val.loadA tabOk rfl rfl rfl (by repeat first|assumption|exact o0_|exact o1_|apply o2_) List.not_mem_nil (Frm.abs_len _)) rfl rfl ?_
 refine SL.call (shape_s f 1 (by omega) (by omega) (by omega)) Casts.refl (by kernel_rfl) rfl rfl rfl ?_
 refine ap_ ?_
 intro _
 refine SL.val (Val.move rfl) rfl rfl ?_
 refine SL.val (Val.extract rfl rfl) rfl rfl ?_
 refine SL.val (Val.extract rfl rfl) rfl rfl ?_
 iterate 2 refine SL.val (Val.assign rfl) rfl rfl ?_
 refine SL.nil (SE.seq ?_)
 refine SC.block ?_
 refine SC.seq (SC.region ?_)
 refine SL.val (Val.move rfl) rfl rfl ?_
 refine SL.val (Val.gtI rfl rfl) rfl rfl ?_
 refine SL.val (Val.assign rfl) rfl rfl ?_
 refine SL.nil (SE.seq ?_)
 refine SC.condP rfl ?_ ?_
 ·intro hc18
  refine SC.seq (SC.region ?_)
  refine SL.val (Val.assign rfl) rfl rfl ?_
  refine SL.nil (SE.seq ?_)
  refine SC.ret ?_
  refine SE.ret ?_
  refine SE.then_ nofun ?_
  try have hr := hc24
  refine SE.fin (rs := [.tmp 4]) rfl (RV.tmp rfl RV.nil) (()) (by repeat first|exact s0 _|exact s1 _|apply s2|apply s3) (by simp [It.rids]) ?_
  first
   | (refine congrArg int ?_; unfold Frm.check; rw [if_pos (by omega)])
   | (refine congrArg int ?_; unfold Frm.check; rw [if_neg (by omega), if_pos (by omega)])
   | (refine congrArg int ?_; unfold Frm.check; rw [if_neg (by omega), if_neg (by omega), if_pos (by omega)])
   | (refine congrArg int ?_; unfold Frm.check; rw [if_neg (by omega), if_neg (by omega), if_neg (by omega)]; rename_i hr; simp at hr; simp [hr])
 intro hc18
 refine SC.seq (SC.region ?_)
 refine SL.val (Val.move rfl) rfl rfl ?_
 refine SL.val (Val.gtI rfl rfl) rfl rfl ?_
 refine SL.val (Val.assign rfl) rfl rfl ?_
 refine SL.nil (SE.seq ?_)
 refine SC.condP rfl ?_ ?_
 ·intro hc21
  refine SC.seq (SC.region ?_)
  refine SL.val (Val.assign rfl) rfl rfl ?_
  refine SL.nil (SE.seq ?_)
  refine SC.ret ?_
  refine SE.ret ?_
  refine SE.then_ nofun ?_
  try have hr := hc24
  refine SE.fin (rs := [.tmp 4]) rfl (RV.tmp rfl RV.nil) (()) (by repeat first|exact s0 _|exact s1 _|apply s2|apply s3) (by simp [It.rids]) ?_
  first
   | (refine congrArg int ?_; unfold Frm.check; rw [if_pos (by omega)])
   | (refine congrArg int ?_; unfold Frm.check; rw [if_neg (by omega), if_pos (by omega)])
   | (refine congrArg int ?_; unfold Frm.check; rw [if_neg (by omega), if_neg (by omega), if_pos (by omega)])
   | (refine congrArg int ?_; unfold Frm.check; rw [if_neg (by omega), if_neg (by omega), if_neg (by omega)]; rename_i hr; simp at hr; simp [hr])
 intro hc21
 refine SC.seq (SC.region ?_)
 refine SL.val (Val.loadA tabOk rfl rfl rfl (by repeat first|assumption|exact o0_|exact o1_|apply o2_) List.not_mem_nil (Frm.abs_len _)) rfl rfl ?_
 refine SL.val (Val.move rfl) rfl rfl ?_
 refine SL.call (odd_s n f (by omega)) Casts.refl (by kernel_rfl) rfl rfl rfl ?_
 refine ap_ ?_
 intro _
 refine SL.val (Val.assign rfl) rfl rfl ?_
 refine SL.nil (SE.seq ?_)
 refine SC.cond rfl ?_ ?_
 ·intro hc24
  refine SC.seq (SC.region ?_)
  refine SL.val (Val.assign rfl) rfl rfl ?_
  refine SL.nil (SE.seq ?_)
  refine SC.ret ?_
  refine SE.ret ?_
  refine SE.then_ nofun ?_
  try have hr := hc24
  refine SE.fin (rs := [.tmp 4]) rfl (RV.tmp rfl RV.nil) (()) (by repeat first|exact s0 _|exact s1 _|apply s2|apply s3) (by simp [It.rids]) ?_
  first
   | (refine congrArg int ?_; unfold Frm.check; rw [if_pos (by omega)])
   | (refine congrArg int ?_; unfold Frm.check; rw [if_neg (by omega), if_pos (by omega)])
   | (refine congrArg int ?_; unfold Frm.check; rw [if_neg (by omega), if_neg (by omega), if_pos (by omega)])
   | (refine congrArg int ?_; unfold Frm.check; rw [if_neg (by omega), if_neg (by omega), if_neg (by omega)]; rename_i hr; simp at hr; simp [hr])
 intro hc24
 refine SC.skip ?_
 refine SE.inBlock ?_
 refine SE.seq ?_
 refine SC.seq (SC.region ?_)
 refine SL.val (Val.assign rfl) rfl rfl ?_
 refine SL.nil (SE.seq ?_)
 refine SC.ret ?_
 try have hr := hc24
 refine SE.fin (rs := [.tmp 4]) rfl (RV.tmp rfl RV.nil) (()) (by repeat first|exact s0 _|exact s1 _|apply s2|apply s3) (by simp [It.rids]) ?_
 first
  | (refine congrArg int ?_; unfold Frm.check; rw [if_pos (by omega)])
  | (refine congrArg int ?_; unfold Frm.check; rw [if_neg (by omega), if_pos (by omega)])
  | (refine congrArg int ?_; unfold Frm.check; rw [if_neg (by omega), if_neg (by omega), if_pos (by omega)])
  | (refine congrArg int ?_; unfold Frm.check; rw [if_neg (by omega), if_neg (by omega), if_neg (by omega)]; rename_i hr; simp at hr; simp [hr])
theorem rfcheck_s (hn : f.nodes ≤ 1099511627000) : Spec Tryz.prog 92 [.agg f.abs, int n] [] (fun _ : Unit => []) (fun _ => int (f.check n)) := by
 have hdp := f.depth_le
 refine spec_of Tryz.func92 rfl Tryz.ntmps92 rfl fun G w => ?_
 refine SC.seq (SC.region ?_)
 refine SL.eff (Eff.boxA (cs := f.abs) rfl) rfl rfl ?_
 rintro _ _ ⟨b2, rfl, rfl⟩
 refine SL.val (Val.assign rfl) rfl rfl ?_
 refine SL.nil (SE.seq ?_)
 refine SC.seq (SC.region ?_)
 refine SL.val (Val.loadA tabOk rfl rfl rfl (by repeat first|assumption|exact o0_|exact o1_|apply o2_) List.not_mem_nil (Frm.abs_len _)) rfl rfl ?_
 refine SL.call (size_s f (by omega)) Casts.refl (by kernel_rfl) rfl rfl rfl ?_
 refine ap_ ?_
 intro _
 refine SL.val (Val.move rfl) rfl rfl ?_
 refine SL.val (Val.extract rfl rfl) rfl rfl ?_
 refine SL.val (Val.extract rfl rfl) rfl rfl ?_
 iterate 2 refine SL.val (Val.assign rfl) rfl rfl ?_
 refine SL.nil (SE.seq ?_)
 refine SC.seq ?_
 refine SC.block ?_
 refine SC.seq (SC.region ?_)
 refine SL.val (Val.move rfl) rfl rfl ?_
 refine SL.val (Val.ltI rfl rfl) rfl rfl ?_
 refine SL.val (Val.move rfl) rfl rfl ?_
 refine SL.bothP (t := 15) rfl ?_ ?_
 ·intro hc15
  iterate 2 refine SL.skip rfl rfl ?_
  refine SL.val (Val.pickT rfl rfl) rfl rfl ?_
  refine SL.val (Val.assign rfl) rfl rfl ?_
  refine SL.nil (SE.seq ?_)
  refine SC.condT rfl ?_
  refine SC.seq (SC.region ?_)
  refine SL.val (Val.assign rfl) rfl rfl ?_
  refine SL.nil (SE.seq ?_)
  refine SC.ret ?_
  refine SE.ret ?_
  refine SE.then_ nofun ?_
  try have hr := hc25
  refine SE.fin (rs := [.tmp 4]) rfl (RV.tmp rfl RV.nil) (()) (by repeat first|exact s0 _|exact s1 _|apply s2|apply s3) (by simp [It.rids]) ?_
  first
   | (refine congrArg int ?_; unfold Frm.check; rw [if_pos (by omega)])
   | (refine congrArg int ?_; unfold Frm.check; rw [if_neg (by omega), if_pos (by omega)])
   | (refine congrArg int ?_; unfold Frm.check; rw [if_neg (by omega), if_neg (by omega), if_pos (by omega)])
   | (refine congrArg int ?_; unfold Frm.check; rw [if_neg (by omega), if_neg (by omega), if_neg (by omega)]; rename_i hr; simp at hr; simp [hr])
 intro hc15
 refine SL.val (Val.move rfl) rfl rfl ?_
 refine SL.val (Val.gtI rfl rfl) rfl rfl ?_
 refine SL.val (Val.pickF rfl rfl) rfl rfl ?_
 refine SL.val (Val.assign rfl) rfl rfl ?_
 refine SL.nil (SE.seq ?_)
 refine SC.condP rfl ?_ ?_
 ·intro hc12
  refine SC.seq (SC.region ?_)
  refine SL.val (Val.assign rfl) rfl rfl ?_
  refine SL.nil (SE.seq ?_)
  refine SC.ret ?_
  refine SE.ret ?_
  refine SE.then_ nofun ?_
  try have hr := hc25
  refine SE.fin (rs := [.tmp 4]) rfl (RV.tmp rfl RV.nil) (()) (by repeat first|exact s0 _|exact s1 _|apply s2|apply s3) (by simp [It.rids]) ?_
  first
   | (refine congrArg int ?_; unfold Frm.check; rw [if_pos (by omega)])
   | (refine congrArg int ?_; unfold Frm.check; rw [if_neg (by omega), if_pos (by omega)])
   | (refine congrArg int ?_; unfold Frm.check; rw [if_neg (by omega), if_neg (by omega), if_pos (by omega)])
   | (refine congrArg int ?_; unfold Frm.check; rw [if_neg (by omega), if_neg (by omega), if_neg (by omega)]; rename_i hr; simp at hr; simp [hr])
 intro hc12
 refine SC.seq (SC.region ?_)
 refine SL.val (Val.move rfl) rfl rfl ?_
 refine SL.val (Val.gtI rfl rfl) rfl rfl ?_
 refine SL.val (Val.assign rfl) rfl rfl ?_
 refine SL.nil (SE.seq ?_)
 refine SC.condP rfl ?_ ?_
 ·intro hc19
  refine SC.seq (SC.region ?_)
  refine SL.val (Val.assign rfl) rfl rfl ?_
  refine SL.nil (SE.seq ?_)
  refine SC.ret ?_
  refine SE.ret ?_
  refine SE.then_ nofun ?_
  try have hr := hc25
  refine SE.fin (rs := [.tmp 4]) rfl (RV.tmp rfl RV.nil) (()) (by repeat first|exact s0 _|exact s1 _|apply s2|apply s3) (by simp [It.rids]) ?_
  first
   | (refine congrArg int ?_; unfold Frm.check; rw [if_pos (by omega)])
   | (refine congrArg int ?_; unfold Frm.check; rw [if_neg (by omega), if_pos (by omega)])
   | (refine congrArg int ?_; unfold Frm.check; rw [if_neg (by omega), if_neg (by omega), if_pos (by omega)])
   | (refine congrArg int ?_; unfold Frm.check; rw [if_neg (by omega), if_neg (by omega), if_neg (by omega)]; rename_i hr; simp at hr; simp [hr])
 intro hc19
 refine SC.seq (SC.region ?_)
 refine SL.val (Val.move rfl) rfl rfl ?_
 refine SL.val (Val.gtI rfl rfl) rfl rfl ?_
 refine SL.val (Val.assign rfl) rfl rfl ?_
 refine SL.nil (SE.seq ?_)
 refine SC.condP rfl ?_ ?_
 ·intro hc22
  refine SC.seq (SC.region ?_)
  refine SL.val (Val.assign rfl) rfl rfl ?_
  refine SL.nil (SE.seq ?_)
  refine SC.ret ?_
  refine SE.ret ?_
  refine SE.then_ nofun ?_
  try have hr := hc25
  refine SE.fin (rs := [.tmp 4]) rfl (RV.tmp rfl RV.nil) (()) (by repeat first|exact s0 _|exact s1 _|apply s2|apply s3) (by simp [It.rids]) ?_
  first
   | (refine congrArg int ?_; unfold Frm.check; rw [if_pos (by omega)])
   | (refine congrArg int ?_; unfold Frm.check; rw [if_neg (by omega), if_pos (by omega)])
   | (refine congrArg int ?_; unfold Frm.check; rw [if_neg (by omega), if_neg (by omega), if_pos (by omega)])
   | (refine congrArg int ?_; unfold Frm.check; rw [if_neg (by omega), if_neg (by omega), if_neg (by omega)]; rename_i hr; simp at hr; simp [hr])
 intro hc22
 refine SC.seq (SC.region ?_)
 refine SL.val (Val.loadA tabOk rfl rfl rfl (by repeat first|assumption|exact o0_|exact o1_|apply o2_) List.not_mem_nil (Frm.abs_len _)) rfl rfl ?_
 refine SL.val (Val.move rfl) rfl rfl ?_
 refine SL.call (ranges_s n f (by omega)) Casts.refl (by kernel_rfl) rfl rfl rfl ?_
 refine ap_ ?_
 intro _
 refine SL.val (Val.notB rfl) rfl rfl ?_
 refine SL.val (Val.assign rfl) rfl rfl ?_
 refine SL.nil (SE.seq ?_)
 refine SC.cond rfl ?_ ?_
 ·intro hc25
  refine SC.seq (SC.region ?_)
  refine SL.val (Val.assign rfl) rfl rfl ?_
  refine SL.nil (SE.seq ?_)
  refine SC.ret ?_
  refine SE.ret ?_
  refine SE.then_ nofun ?_
  try have hr := hc25
  refine SE.fin (rs := [.tmp 4]) rfl (RV.tmp rfl RV.nil) (()) (by repeat first|exact s0 _|exact s1 _|apply s2|apply s3) (by simp [It.rids]) ?_
  first
   | (refine congrArg int ?_; unfold Frm.check; rw [if_pos (by omega)])
   | (refine congrArg int ?_; unfold Frm.check; rw [if_neg (by omega), if_pos (by omega)])
   | (refine congrArg int ?_; unfold Frm.check; rw [if_neg (by omega), if_neg (by omega), if_pos (by omega)])
   | (refine congrArg int ?_; unfold Frm.check; rw [if_neg (by omega), if_neg (by omega), if_neg (by omega)]; rename_i hr; simp at hr; simp [hr])
 intro hc25
 refine SC.skip ?_
 refine SE.inBlock ?_
 refine SE.seq ?_
 refine SC.seq (SC.region ?_)
 refine SL.val (Val.assign rfl) rfl rfl ?_
 refine SL.nil (SE.seq ?_)
 refine SC.ret ?_
 try have hr := hc25
 refine SE.fin (rs := [.tmp 4]) rfl (RV.tmp rfl RV.nil) (()) (by repeat first|exact s0 _|exact s1 _|apply s2|apply s3) (by simp [It.rids]) ?_
 first
  | (refine congrArg int ?_; unfold Frm.check; rw [if_pos (by omega)])
  | (refine congrArg int ?_; unfold Frm.check; rw [if_neg (by omega), if_pos (by omega)])
  | (refine congrArg int ?_; unfold Frm.check; rw [if_neg (by omega), if_neg (by omega), if_pos (by omega)])
  | (refine congrArg int ?_; unfold Frm.check; rw [if_neg (by omega), if_neg (by omega), if_neg (by omega)]; rename_i hr; simp at hr; simp [hr])
set_option maxHeartbeats 1000000 in
theorem holds_step (ih : ∀ k ∈ ks, k.nodes ≤ 1099511627776 → k.ranges 7 = true → Spec Tryz.prog 114 [.agg k.abs, u32 s] [] (fun _ : Unit => []) (fun _ => boo (k.holds s))) (hn : (Frm.mk o a ks).nodes ≤ 1099511627776) (hr : (Frm.mk o a ks).ranges 7 = true) : Spec Tryz.prog 114 [.agg (Frm.mk o a ks).abs, u32 s] [] (fun _ : Unit => []) (fun _ => boo ((Frm.mk o a ks).holds s)) := by
 rw [Frm.abs_mk]
 have hlen := Frm.length_le ks
 rw [Frm.nodes_mk] at hn
 have hkr := Frm.kids_range hr
 refine spec_of Tryz.func114 rfl Tryz.ntmps114 rfl fun G w => ?_
 refine SC.seq (SC.region ?_)
 refine SL.eff (Eff.boxA rfl) rfl rfl ?_
 rintro _ _ ⟨b2, rfl, rfl⟩
 refine SL.val (Val.assign rfl) rfl rfl ?_
 refine SL.nil (SE.seq ?_)
 refine SC.seq ?_
 refine SC.seq (SC.region ?_)
 refine SL.val (Val.fieldAddr tabOk rfl rfl rfl rfl rfl) rfl rfl ?_
 refine SL.val (Val.load1 tabOk rfl rfl (by repeat first|assumption|exact o0_|exact o1_|apply o2_) List.not_mem_nil (by rfl)) rfl rfl ?_
 first
  | refine SL.val (Val.lenSl rfl Tryz.underlying93 (List.length_map _)) rfl rfl ?_
  | refine SL.val (Val.lenOwn rfl (by repeat first|assumption|exact m0|apply m1) Tryz.underlying93 (List.length_map _)) rfl rfl ?_
  | refine SL.val (Val.lenNil rfl Tryz.underlying93) rfl rfl ?_
 refine SL.val (Val.eqI rfl rfl) rfl rfl ?_
 refine SL.nil (SE.seq ?_)
 refine SC.condP rfl ?_ ?_
 ·intro hc11
  have hk0 : ks = [] := List.eq_nil_of_length_eq_zero (by omega)
  subst hk0
  have hro := hr
  rw [Frm.ranges_leaf, decide_eq_true_iff] at hro
  obtain ⟨m, rfl⟩ : ∃ m : Nat, o = (m : Nat) := ⟨o.toNat, by omega⟩
  refine SC.seq (SC.region ?_)
  refine SL.val (Val.move rfl) rfl rfl ?_
  refine SL.val (Val.fieldAddr tabOk rfl rfl rfl rfl rfl) rfl rfl ?_
  refine SL.val (Val.load1 tabOk rfl rfl (by repeat first|assumption|exact o0_|exact o1_|apply o2_) List.not_mem_nil (by rfl)) rfl rfl ?_
  refine SL.val (Val.to (C := .v (.int .u64 (m : Nat))) (Val.convI rfl Tryz.underlying176 (by kernel_rfl) (by simp only [InR, lo, hi]; omega)) rfl) rfl rfl ?_
  refine SL.val (Val.shrB (m := m) rfl rfl rfl) rfl rfl ?_
  refine SL.val (Val.andW (q := 1#32) rfl rfl) rfl rfl ?_
  refine SL.val (Val.eqI rfl rfl) rfl rfl ?_
  refine SL.val (Val.assign rfl) rfl rfl ?_
  refine SL.nil (SE.seq ?_)
  refine SC.ret ?_
  refine SE.then_ nofun ?_
  refine SE.fin (rs := [.tmp 4]) rfl (RV.tmp rfl RV.nil) (()) (by repeat first|exact s0 _|exact s1 _|apply s2|apply s3) (by simp [It.rids]) ?_
  refine congrArg (fun b => Abs.v (Value.bool b)) ?_
  rw [Frm.holds_leaf, ← and_bit]
  rw [decide_eq_decide]
  exact Int.ofNat_inj
 intro hc11
 have hk0 : ks ≠ [] := by rintro rfl; simp at hc11
 have hro := hr
 rw [Frm.ranges_node 7 o a hk0, Bool.and_eq_true, decide_eq_true_iff] at hro
 refine SC.skip ?_
 refine SE.seq ?_
 refine SC.seq (SC.region ?_)
 refine SL.val (Val.fieldAddr tabOk rfl rfl rfl rfl rfl) rfl rfl ?_
 refine SL.val (Val.load1 tabOk rfl rfl (by repeat first|assumption|exact o0_|exact o1_|apply o2_) List.not_mem_nil (by rfl)) rfl rfl ?_
 refine SL.val (Val.assign rfl) rfl rfl ?_
 refine SL.nil (SE.seq ?_)
 refine SC.seq ?_
 refine SC.seq (SC.region ?_)
 refine SL.val (Val.fieldAddr tabOk rfl rfl rfl rfl rfl) rfl rfl ?_
 refine SL.val (Val.load1 tabOk rfl rfl (by repeat first|assumption|exact o0_|exact o1_|apply o2_) List.not_mem_nil (by rfl)) rfl rfl ?_
 first
  | refine SL.val (Val.lenSl rfl Tryz.underlying93 (List.length_map _)) rfl rfl ?_
  | refine SL.val (Val.lenOwn rfl (by repeat first|assumption|exact m0|apply m1) Tryz.underlying93 (List.length_map _)) rfl rfl ?_
  | refine SL.val (Val.lenNil rfl Tryz.underlying93) rfl rfl ?_
 refine SL.val (Val.move rfl) rfl rfl ?_
 refine SL.nil (SE.seq ?_)
 refine SC.block ?_
 refine SC.loop (ι := Nat) (fun z => [.blk b2 95 [int o, int a, .sl 3 (ks.map Frm.abs)]]) (fun z => [(1, u32 s), (2, ptr b2), (5, int (a - (Frm.holdss s (ks.take z) : Nat))), (22, .sl 3 (ks.map Frm.abs)), (23, int (ks.length : Nat)), (24, int (z : Nat))]) (fun z => z ≤ ks.length) (fun z => ks.length - z) (0) (Nat.zero_le _) (by exact ⟨rfl, rfl, congrArg (fun x : Int => some (int x)) (show a = a - ((0 : Nat) : Int) by omega), rfl, rfl, rfl, trivial⟩) (by repeat first|exact s0 _|exact s1 _|apply s2|apply s3) ?_
 intro z hz
 refine SC.seq (SC.region ?_)
 refine SL.val (Val.ltI rfl rfl) rfl rfl ?_
 refine SL.nil (SE.seq ?_)
 refine SC.seq ?_
 refine SC.condP rfl ?_ ?_
 rotate_left
 ·intro hc25
  have hz2 : z = ks.length := by omega
  have htk : ks.take z = ks := by rw [hz2]; exact List.take_of_length_le (Nat.le_refl _)
  refine SC.exit ?_
  refine SE.then_ nofun ?_
  refine SE.then_ nofun ?_
  refine SE.exit ?_
  refine SE.seq ?_
  refine SC.seq (SC.region ?_)
  refine SL.val (Val.move rfl) rfl rfl ?_
  refine SL.val (Val.leI rfl rfl) rfl rfl ?_
  refine SL.val (Val.assign rfl) rfl rfl ?_
  refine SL.nil (SE.seq ?_)
  refine SC.ret ?_
  refine SE.fin (rs := [.tmp 4]) rfl (RV.tmp rfl RV.nil) (()) (by repeat first|exact s0 _|exact s1 _|apply s2|apply s3) (by simp [It.rids]) ?_
  refine boo_i' ?_
  rw [Frm.holds_node s o a hk0, decide_eq_true_iff, htk]
  omega
 intro hc25
 have hlt : z < ks.length := by omega
 have hkz := Frm.nodes_mem (List.getElem_mem hlt)
 have hdz := Frm.depths_mem (List.getElem_mem hlt)
 have htn := Frm.take_nodes1 hlt
 have htd := Frm.take_depths1 hlt
 have htl := Frm.take_nodes (ks := ks) (z + 1)
 have hdn := Frm.depth_le (ks[z]'hlt)
 have hth := Frm.take_holds1 (s := s) hlt
 refine SC.skip ?_
 refine SE.seq ?_
 refine SC.seq ?_
 refine SC.block ?_
 refine SC.seq (SC.region ?_)
 refine SL.val (Val.indexSl tabOk Tryz.underlying93 rfl rfl rfl rfl (at_map (by omega)) rfl rfl) rfl rfl ?_
 refine SL.val (Val.loadAR tabOk rfl rfl rfl (Frm.abs_len _)) rfl rfl ?_
 refine SL.eff (Eff.alloc tabOk rfl) rfl rfl ?_
 rintro _ _ ⟨b7, rfl, rfl⟩
 refine SL.eff (Eff.store (L' := (ks[z]'hlt).abs) tabOk rfl rfl rfl (by repeat first|assumption|exact Upd.here|apply Upd.there) (by exact Frm.abs_len _) (lb_ (by rfl)) (by exact Frm.abs_ones _) (putL_whole (by exact Frm.abs_len _))) rfl rfl ?_
 rintro _ _ ⟨rfl, rfl⟩
 refine SL.nil (SE.seq ?_)
 refine SC.seq (SC.region ?_)
 refine SL.val (Val.loadA tabOk rfl rfl rfl (by repeat first|assumption|exact o0_|exact o1_|apply o2_) List.not_mem_nil (Frm.abs_len _)) rfl rfl ?_
 refine SL.val (Val.move rfl) rfl rfl ?_
 refine SL.call (ih (ks[z]'hlt) (List.getElem_mem hlt) (by omega) (hkr _ (List.getElem_mem hlt))) Casts.refl (by kernel_rfl) rfl rfl rfl ?_
 refine ap_ ?_
 intro _
 refine SL.nil (SE.seq ?_)
 refine SC.cond rfl ?_ ?_
 rotate_left
 ·intro hc30
  rw [if_neg (by rw [hc30]; decide)] at hth
  refine SC.skip ?_
  refine SE.inBlock ?_
  refine SE.seq ?_
  refine SC.region ?_
  first
   | refine SL.val (Val.addI rfl rfl (by simp only [InR, lo, hi]; omega)) rfl rfl ?_
   | refine SL.val (Val.addW rfl rfl) rfl rfl ?_
  refine SL.val (Val.move rfl) rfl rfl ?_
  refine SL.nil ?_
  refine SE.round (z + 1) (by first | omega | (dsimp only; omega)) (by first | omega | (dsimp only; omega)) (by exact ⟨rfl, rfl, congrArg (fun x : Int => some (int x)) (show a - (Frm.holdss s (ks.take z) : Nat) = a - (Frm.holdss s (ks.take (z + 1)) : Nat) by omega), rfl, rfl, rfl, trivial⟩) (by repeat first|exact s0 _|exact s1 _|apply s2|apply s3)
 intro hc30
 rw [if_pos hc30] at hth
 refine SC.region ?_
 refine SL.val (Val.move rfl) rfl rfl ?_
 refine SL.val (Val.to (C := int (a - (Frm.holdss s (ks.take (z + 1)) : Nat))) (Val.subI rfl rfl (by have := Frm.holdss_le s (ks.take z); rw [List.length_take] at this; simp only [InR, lo, hi]; omega)) (congrArg int (by have := Frm.take_holds1 (s := s) hlt; rw [if_pos (by assumption)] at this; omega))) rfl rfl ?_
 refine SL.val (Val.assign rfl) rfl rfl ?_
 refine SL.nil ?_
 refine SE.inBlock ?_
 refine SE.seq ?_
 refine SC.region ?_
 first
  | refine SL.val (Val.addI rfl rfl (by simp only [InR, lo, hi]; omega)) rfl rfl ?_
  | refine SL.val (Val.addW rfl rfl) rfl rfl ?_
 refine SL.val (Val.move rfl) rfl rfl ?_
 refine SL.nil ?_
 refine SE.round (z + 1) (by first | omega | (dsimp only; omega)) (by first | omega | (dsimp only; omega)) (by exact ⟨rfl, rfl, rfl, rfl, rfl, rfl, trivial⟩) (by repeat first|exact s0 _|exact s1 _|apply s2|apply s3)
theorem holds_s (s : Wo) (f : Frm) : f.nodes ≤ 1099511627776 → f.ranges 7 = true → Spec Tryz.prog 114 [.agg f.abs, u32 s] [] (fun _ : Unit => []) (fun _ => boo (f.holds s)) := Frm.ind (p := fun f => f.nodes ≤ 1099511627776 → f.ranges 7 = true → Spec Tryz.prog 114 [.agg f.abs, u32 s] [] (fun _ : Unit => []) (fun _ => boo (f.holds s))) (fun o a ks ih => fun hn hr => holds_step ih hn hr) f
set_option maxHeartbeats 1000000 in
theorem has_s {m : Nat} (hm : m ≤ 1000) : Spec Tryz.prog 93 [u32 s, int (m : Nat)] [] (fun _ : Unit => []) (fun _ => boo (s.getLsbD m)) := by
 refine spec_of Tryz.func93 rfl Tryz.ntmps93 rfl fun G w => ?_
 refine SC.seq (SC.region ?_)
 refine SL.val (Val.assign rfl) rfl rfl ?_
 refine SL.nil (SE.seq ?_)
 refine SC.seq ?_
 refine SC.seq (SC.region ?_)
 refine SL.val (Val.assign rfl) rfl rfl ?_
 refine SL.nil (SE.seq ?_)
 refine SC.block ?_
 refine SC.loop (ι := Nat) (fun z => []) (fun z => [(0, u32 (s >>> z)), (1, int (m : Nat)), (5, int (z : Nat))]) (fun z => z ≤ m) (fun z => m - z) (0) (Nat.zero_le _) (by exact ⟨congrArg (fun x : Wo => some (u32 x)) (show s = s >>> 0 by simp), rfl, rfl, trivial⟩) (by repeat first|exact s0 _|exact s1 _|apply s2|apply s3) ?_
 intro z hz
 refine SC.seq ?_
 refine SC.seq (SC.region ?_)
 iterate 2 refine SL.val (Val.move rfl) rfl rfl ?_
 refine SL.val (Val.ltI rfl rfl) rfl rfl ?_
 refine SL.nil (SE.seq ?_)
 refine SC.condP rfl ?_ ?_
 rotate_left
 ·intro hc8
  have hz2 : z = m := by omega
  refine SC.exit ?_
  refine SE.then_ nofun ?_
  refine SE.then_ nofun ?_
  refine SE.exit ?_
  refine SE.seq ?_
  refine SC.seq (SC.region ?_)
  refine SL.val (Val.move rfl) rfl rfl ?_
  refine SL.val (Val.remI rfl rfl (by omega)) rfl rfl ?_
  refine SL.val (Val.eqI rfl rfl) rfl rfl ?_
  refine SL.val (Val.assign rfl) rfl rfl ?_
  refine SL.nil (SE.seq ?_)
  refine SC.ret ?_
  refine SE.fin (rs := [.tmp 4]) rfl (RV.tmp rfl RV.nil) (()) (by repeat first|exact s0 _|exact s1 _|apply s2|apply s3) (by simp [It.rids]) ?_
  refine boo_i' ?_
  rw [← hz2, ← halve_bit, decide_eq_true_iff]
  omega
 intro hc8
 refine SC.skip ?_
 refine SE.seq ?_
 refine SC.seq ?_
 refine SC.block ?_
 refine SC.region ?_
 refine SL.val (Val.move rfl) rfl rfl ?_
 refine SL.val (Val.to (C := u32 (s >>> (z + 1))) (Val.quoI rfl rfl (by omega) (by have := (s >>> z).isLt; simp only [InR, lo, hi]; omega)) (congrArg (fun r => Abs.v (.int .u32 r)) (by
   rw [BitVec.toNat_ushiftRight, BitVec.toNat_ushiftRight, Nat.shiftRight_succ]
   omega))) rfl rfl ?_
 refine SL.val (Val.assign rfl) rfl rfl ?_
 refine SL.nil ?_
 refine SE.inBlock ?_
 refine SE.seq ?_
 refine SC.region ?_
 refine SL.val (Val.move rfl) rfl rfl ?_
 first
  | refine SL.val (Val.addI rfl rfl (by simp only [InR, lo, hi]; omega)) rfl rfl ?_
  | refine SL.val (Val.addW rfl rfl) rfl rfl ?_
 refine SL.val (Val.assign rfl) rfl rfl ?_
 refine SL.nil ?_
 refine SE.round (z + 1) (by first | omega | (dsimp only; omega)) (by first | omega | (dsimp only; omega)) (by exact ⟨rfl, rfl, rfl, trivial⟩) (by repeat first|exact s0 _|exact s1 _|apply s2|apply s3)
set_option maxHeartbeats 1000000 in
theorem rholds_step (ih : ∀ k ∈ ks, k.nodes ≤ 1099511627776 → k.ranges 7 = true → Spec Tryz.prog 71 [.agg k.abs, u32 s] [] (fun _ : Unit => []) (fun _ => boo (k.holds s))) (hn : (Frm.mk o a ks).nodes ≤ 1099511627776) (hr : (Frm.mk o a ks).ranges 7 = true) : Spec Tryz.prog 71 [.agg (Frm.mk o a ks).abs, u32 s] [] (fun _ : Unit => []) (fun _ => boo ((Frm.mk o a ks).holds s)) := by
 rw [Frm.abs_mk]
 have hlen := Frm.length_le ks
 rw [Frm.nodes_mk] at hn
 have hkr := Frm.kids_range hr
 refine spec_of Tryz.func71 rfl Tryz.ntmps71 rfl fun G w => ?_
 refine SC.seq (SC.region ?_)
 refine SL.eff (Eff.boxA rfl) rfl rfl ?_
 rintro _ _ ⟨b2, rfl, rfl⟩
 refine SL.val (Val.assign rfl) rfl rfl ?_
 refine SL.nil (SE.seq ?_)
 refine SC.seq ?_
 refine SC.seq (SC.region ?_)
 refine SL.val (Val.fieldAddr tabOk rfl rfl rfl rfl rfl) rfl rfl ?_
 refine SL.val (Val.load1 tabOk rfl rfl (by repeat first|assumption|exact o0_|exact o1_|apply o2_) List.not_mem_nil (by rfl)) rfl rfl ?_
 first
  | refine SL.val (Val.lenSl rfl Tryz.underlying93 (List.length_map _)) rfl rfl ?_
  | refine SL.val (Val.lenOwn rfl (by repeat first|assumption|exact m0|apply m1) Tryz.underlying93 (List.length_map _)) rfl rfl ?_
  | refine SL.val (Val.lenNil rfl Tryz.underlying93) rfl rfl ?_
 refine SL.val (Val.eqI rfl rfl) rfl rfl ?_
 refine SL.nil (SE.seq ?_)
 refine SC.condP rfl ?_ ?_
 ·intro hc11
  have hk0 : ks = [] := List.eq_nil_of_length_eq_zero (by omega)
  subst hk0
  have hro := hr
  rw [Frm.ranges_leaf, decide_eq_true_iff] at hro
  obtain ⟨m, rfl⟩ : ∃ m : Nat, o = (m : Nat) := ⟨o.toNat, by omega⟩
  refine SC.seq (SC.region ?_)
  refine SL.val (Val.move rfl) rfl rfl ?_
  refine SL.val (Val.fieldAddr tabOk rfl rfl rfl rfl rfl) rfl rfl ?_
  refine SL.val (Val.load1 tabOk rfl rfl (by repeat first|assumption|exact o0_|exact o1_|apply o2_) List.not_mem_nil (by rfl)) rfl rfl ?_
  refine SL.call (has_s (s := s) (m := m) (by omega)) Casts.refl (by kernel_rfl) rfl rfl rfl ?_
  refine ap_ ?_
  intro _
  refine SL.val (Val.assign rfl) rfl rfl ?_
  refine SL.nil (SE.seq ?_)
  refine SC.ret ?_
  refine SE.then_ nofun ?_
  refine SE.fin (rs := [.tmp 4]) rfl (RV.tmp rfl RV.nil) (()) (by repeat first|exact s0 _|exact s1 _|apply s2|apply s3) (by simp [It.rids]) ?_
  refine congrArg (fun b => Abs.v (Value.bool b)) ?_
  rw [Frm.holds_leaf]
  rfl
 intro hc11
 have hk0 : ks ≠ [] := by rintro rfl; simp at hc11
 have hro := hr
 rw [Frm.ranges_node 7 o a hk0, Bool.and_eq_true, decide_eq_true_iff] at hro
 refine SC.skip ?_
 refine SE.seq ?_
 refine SC.seq (SC.region ?_)
 refine SL.val (Val.assign rfl) rfl rfl ?_
 refine SL.nil (SE.seq ?_)
 refine SC.seq ?_
 refine SC.seq (SC.region ?_)
 refine SL.val (Val.fieldAddr tabOk rfl rfl rfl rfl rfl) rfl rfl ?_
 refine SL.val (Val.load1 tabOk rfl rfl (by repeat first|assumption|exact o0_|exact o1_|apply o2_) List.not_mem_nil (by rfl)) rfl rfl ?_
 first
  | refine SL.val (Val.lenSl rfl Tryz.underlying93 (List.length_map _)) rfl rfl ?_
  | refine SL.val (Val.lenOwn rfl (by repeat first|assumption|exact m0|apply m1) Tryz.underlying93 (List.length_map _)) rfl rfl ?_
  | refine SL.val (Val.lenNil rfl Tryz.underlying93) rfl rfl ?_
 refine SL.val (Val.move rfl) rfl rfl ?_
 refine SL.nil (SE.seq ?_)
 refine SC.block ?_
 refine SC.loop (ι := Nat) (fun z => [.blk b2 95 [int o, int a, .sl 3 (ks.map Frm.abs)]]) (fun z => [(1, u32 s), (2, ptr b2), (5, int (Frm.holdss s (ks.take z) : Nat)), (17, .sl 3 (ks.map Frm.abs)), (18, int (ks.length : Nat)), (19, int (z : Nat))]) (fun z => z ≤ ks.length) (fun z => ks.length - z) (0) (Nat.zero_le _) (by exact ⟨rfl, rfl, rfl, rfl, rfl, rfl, trivial⟩) (by repeat first|exact s0 _|exact s1 _|apply s2|apply s3) ?_
 intro z hz
 refine SC.seq (SC.region ?_)
 refine SL.val (Val.ltI rfl rfl) rfl rfl ?_
 refine SL.nil (SE.seq ?_)
 refine SC.seq ?_
 refine SC.condP rfl ?_ ?_
 rotate_left
 ·intro hc20
  have hz2 : z = ks.length := by omega
  have htk : ks.take z = ks := by rw [hz2]; exact List.take_of_length_le (Nat.le_refl _)
  refine SC.exit ?_
  refine SE.then_ nofun ?_
  refine SE.then_ nofun ?_
  refine SE.exit ?_
  refine SE.seq ?_
  refine SC.seq (SC.region ?_)
  refine SL.val (Val.move rfl) rfl rfl ?_
  refine SL.val (Val.fieldAddr tabOk rfl rfl rfl rfl rfl) rfl rfl ?_
  refine SL.val (Val.load1 tabOk rfl rfl (by repeat first|assumption|exact o0_|exact o1_|apply o2_) List.not_mem_nil (by rfl)) rfl rfl ?_
  refine SL.val (Val.geI rfl rfl) rfl rfl ?_
  refine SL.val (Val.assign rfl) rfl rfl ?_
  refine SL.nil (SE.seq ?_)
  refine SC.ret ?_
  refine SE.fin (rs := [.tmp 4]) rfl (RV.tmp rfl RV.nil) (()) (by repeat first|exact s0 _|exact s1 _|apply s2|apply s3) (by simp [It.rids]) ?_
  refine boo_i' ?_
  rw [Frm.holds_node s o a hk0, decide_eq_true_iff, htk]
 intro hc20
 have hlt : z < ks.length := by omega
 have hkz := Frm.nodes_mem (List.getElem_mem hlt)
 have hdz := Frm.depths_mem (List.getElem_mem hlt)
 have htn := Frm.take_nodes1 hlt
 have htd := Frm.take_depths1 hlt
 have htl := Frm.take_nodes (ks := ks) (z + 1)
 have hdn := Frm.depth_le (ks[z]'hlt)
 have hth := Frm.take_holds1 (s := s) hlt
 refine SC.skip ?_
 refine SE.seq ?_
 refine SC.seq ?_
 refine SC.block ?_
 refine SC.seq (SC.region ?_)
 refine SL.val (Val.indexSl tabOk Tryz.underlying93 rfl rfl rfl rfl (at_map (by omega)) rfl rfl) rfl rfl ?_
 refine SL.val (Val.loadAR tabOk rfl rfl rfl (Frm.abs_len _)) rfl rfl ?_
 refine SL.eff (Eff.alloc tabOk rfl) rfl rfl ?_
 rintro _ _ ⟨b7, rfl, rfl⟩
 refine SL.eff (Eff.store (L' := (ks[z]'hlt).abs) tabOk rfl rfl rfl (by repeat first|assumption|exact Upd.here|apply Upd.there) (by exact Frm.abs_len _) (lb_ (by rfl)) (by exact Frm.abs_ones _) (putL_whole (by exact Frm.abs_len _))) rfl rfl ?_
 rintro _ _ ⟨rfl, rfl⟩
 refine SL.nil (SE.seq ?_)
 refine SC.seq (SC.region ?_)
 refine SL.val (Val.loadA tabOk rfl rfl rfl (by repeat first|assumption|exact o0_|exact o1_|apply o2_) List.not_mem_nil (Frm.abs_len _)) rfl rfl ?_
 refine SL.val (Val.move rfl) rfl rfl ?_
 refine SL.call (ih (ks[z]'hlt) (List.getElem_mem hlt) (by omega) (hkr _ (List.getElem_mem hlt))) Casts.refl (by kernel_rfl) rfl rfl rfl ?_
 refine ap_ ?_
 intro _
 refine SL.nil (SE.seq ?_)
 refine SC.cond rfl ?_ ?_
 rotate_left
 ·intro hc25
  rw [if_neg (by rw [hc25]; decide)] at hth
  refine SC.skip ?_
  refine SE.inBlock ?_
  refine SE.seq ?_
  refine SC.region ?_
  first
   | refine SL.val (Val.addI rfl rfl (by simp only [InR, lo, hi]; omega)) rfl rfl ?_
   | refine SL.val (Val.addW rfl rfl) rfl rfl ?_
  refine SL.val (Val.move rfl) rfl rfl ?_
  refine SL.nil ?_
  refine SE.round (z + 1) (by first | omega | (dsimp only; omega)) (by first | omega | (dsimp only; omega)) (by exact ⟨rfl, rfl, congrArg (fun x : Nat => some (int (x : Nat))) (show Frm.holdss s (ks.take z) = Frm.holdss s (ks.take (z + 1)) by omega), rfl, rfl, rfl, trivial⟩) (by repeat first|exact s0 _|exact s1 _|apply s2|apply s3)
 intro hc25
 rw [if_pos hc25] at hth
 refine SC.region ?_
 refine SL.val (Val.move rfl) rfl rfl ?_
 refine SL.val (Val.to (C := int (Frm.holdss s (ks.take (z + 1)) : Nat)) (Val.addI rfl rfl (by have := Frm.holdss_le s (ks.take z); rw [List.length_take] at this; simp only [InR, lo, hi]; omega)) (congrArg int (by have := Frm.take_holds1 (s := s) hlt; rw [if_pos (by assumption)] at this; omega))) rfl rfl ?_
 refine SL.val (Val.assign rfl) rfl rfl ?_
 refine SL.nil ?_
 refine SE.inBlock ?_
 refine SE.seq ?_
 refine SC.region ?_
 first
  | refine SL.val (Val.addI rfl rfl (by simp only [InR, lo, hi]; omega)) rfl rfl ?_
  | refine SL.val (Val.addW rfl rfl) rfl rfl ?_
 refine SL.val (Val.move rfl) rfl rfl ?_
 refine SL.nil ?_
 refine SE.round (z + 1) (by first | omega | (dsimp only; omega)) (by first | omega | (dsimp only; omega)) (by exact ⟨rfl, rfl, rfl, rfl, rfl, rfl, trivial⟩) (by repeat first|exact s0 _|exact s1 _|apply s2|apply s3)
theorem rholds_s (s : Wo) (f : Frm) : f.nodes ≤ 1099511627776 → f.ranges 7 = true → Spec Tryz.prog 71 [.agg f.abs, u32 s] [] (fun _ : Unit => []) (fun _ => boo (f.holds s)) := Frm.ind (p := fun f => f.nodes ≤ 1099511627776 → f.ranges 7 = true → Spec Tryz.prog 71 [.agg f.abs, u32 s] [] (fun _ : Unit => []) (fun _ => boo (f.holds s))) (fun o a ks ih => fun hn hr => rholds_step ih hn hr) f
theorem right_s (hn : f.nodes ≤ 1099511627000) : Spec Tryz.prog 113 [.agg f.abs] [] (fun _ : Unit => []) (fun _ => boo (decide (f.check 7 = 0))) := by
 refine spec_of Tryz.func113 rfl Tryz.ntmps113 rfl fun G w => ?_
 refine SC.seq (SC.region ?_)
 refine SL.eff (Eff.boxA (cs := f.abs) rfl) rfl rfl ?_
 rintro _ _ ⟨b1, rfl, rfl⟩
 refine SL.val (Val.assign rfl) rfl rfl ?_
 refine SL.nil (SE.seq ?_)
 refine SC.seq (SC.region ?_)
 refine SL.val (Val.loadA tabOk rfl rfl rfl (by repeat first|assumption|exact o0_|exact o1_|apply o2_) List.not_mem_nil (Frm.abs_len _)) rfl rfl ?_
 refine SL.call (fcheck_s (n := 7) hn) Casts.refl (by kernel_rfl) rfl rfl rfl ?_
 refine ap_ ?_
 intro _
 refine SL.val (Val.eqI rfl rfl) rfl rfl ?_
 refine SL.val (Val.assign rfl) rfl rfl ?_
 refine SL.nil (SE.seq ?_)
 refine SC.ret ?_
 refine SE.fin (rs := [.tmp 2]) rfl (RV.tmp rfl RV.nil) (()) (by repeat first|exact s0 _|exact s1 _|apply s2|apply s3) (by simp [It.rids]) ?_
 exact rfl
theorem fholds_s (hn : f.nodes ≤ 1099511627000) : Spec Tryz.prog 83 [.agg f.abs, u32 s] [] (fun _ : Unit => []) (fun _ => boo (decide (f.check 7 = 0) && f.holds s)) := by
 refine spec_of Tryz.func83 rfl Tryz.ntmps83 rfl fun G w => ?_
 refine SC.seq (SC.region ?_)
 refine SL.eff (Eff.boxA (cs := f.abs) rfl) rfl rfl ?_
 rintro _ _ ⟨b2, rfl, rfl⟩
 refine SL.val (Val.assign rfl) rfl rfl ?_
 refine SL.nil (SE.seq ?_)
 refine SC.seq (SC.region ?_)
 refine SL.val (Val.loadA tabOk rfl rfl rfl (by repeat first|assumption|exact o0_|exact o1_|apply o2_) List.not_mem_nil (Frm.abs_len _)) rfl rfl ?_
 refine SL.call (right_s hn) Casts.refl (by kernel_rfl) rfl rfl rfl ?_
 refine ap_ ?_
 intro _
 refine SL.val (Val.move rfl) rfl rfl ?_
 refine SL.bothP (t := 7) rfl ?_ ?_
 rotate_left
 ·intro hc7
  iterate 3 refine SL.skip rfl rfl ?_
  refine SL.val (Val.pickF rfl rfl) rfl rfl ?_
  refine SL.val (Val.assign rfl) rfl rfl ?_
  refine SL.nil (SE.seq ?_)
  refine SC.ret ?_
  refine SE.fin (rs := [.tmp 4]) rfl (RV.tmp rfl RV.nil) (()) (by repeat first|exact s0 _|exact s1 _|apply s2|apply s3) (by simp [It.rids]) ?_
  first
   | (rw [decide_eq_true (by assumption), Bool.true_and]; rfl)
   | (rw [decide_eq_false (by assumption), Bool.false_and]; rfl)
 intro hc7
 refine SL.val (Val.loadA tabOk rfl rfl rfl (by repeat first|assumption|exact o0_|exact o1_|apply o2_) List.not_mem_nil (Frm.abs_len _)) rfl rfl ?_
 refine SL.val (Val.move rfl) rfl rfl ?_
 refine SL.call (holds_s s f (by omega) (Frm.check_ok.1 (by assumption)).2.2.2) Casts.refl (by kernel_rfl) rfl rfl rfl ?_
 refine ap_ ?_
 intro _
 refine SL.val (Val.pickT rfl rfl) rfl rfl ?_
 refine SL.val (Val.assign rfl) rfl rfl ?_
 refine SL.nil (SE.seq ?_)
 refine SC.ret ?_
 refine SE.fin (rs := [.tmp 4]) rfl (RV.tmp rfl RV.nil) (()) (by repeat first|exact s0 _|exact s1 _|apply s2|apply s3) (by simp [It.rids]) ?_
 first
  | (rw [decide_eq_true (by assumption), Bool.true_and]; rfl)
  | (rw [decide_eq_false (by assumption), Bool.false_and]; rfl)
theorem enough_s (hn : f.nodes ≤ 1099511627000) : Spec Tryz.prog 60 [.agg f.abs, u32 s, int n] [] (fun _ : Unit => []) (fun _ => boo (decide (f.check n = 0) && f.holds s)) := by
 refine spec_of Tryz.func60 rfl Tryz.ntmps60 rfl fun G w => ?_
 refine SC.seq (SC.region ?_)
 refine SL.eff (Eff.boxA (cs := f.abs) rfl) rfl rfl ?_
 rintro _ _ ⟨b3, rfl, rfl⟩
 refine SL.val (Val.assign rfl) rfl rfl ?_
 refine SL.nil (SE.seq ?_)
 refine SC.seq (SC.region ?_)
 refine SL.val (Val.loadA tabOk rfl rfl rfl (by repeat first|assumption|exact o0_|exact o1_|apply o2_) List.not_mem_nil (Frm.abs_len _)) rfl rfl ?_
 refine SL.val (Val.move rfl) rfl rfl ?_
 refine SL.call (fcheck_s (n := n) hn) Casts.refl (by kernel_rfl) rfl rfl rfl ?_
 refine ap_ ?_
 intro _
 refine SL.val (Val.eqI rfl rfl) rfl rfl ?_
 refine SL.val (Val.move rfl) rfl rfl ?_
 refine SL.bothP (t := 11) rfl ?_ ?_
 rotate_left
 ·intro hc11
  iterate 3 refine SL.skip rfl rfl ?_
  refine SL.val (Val.pickF rfl rfl) rfl rfl ?_
  refine SL.val (Val.assign rfl) rfl rfl ?_
  refine SL.nil (SE.seq ?_)
  refine SC.ret ?_
  refine SE.fin (rs := [.tmp 6]) rfl (RV.tmp rfl RV.nil) (()) (by repeat first|exact s0 _|exact s1 _|apply s2|apply s3) (by simp [It.rids]) ?_
  first
   | (rw [decide_eq_true hc11, decide_eq_true (Frm.check_ok.2 (by have h9 := Frm.check_ok.1 hc11; exact ⟨by omega, h9.2.1, h9.2.2.1, Frm.ranges_mono h9.1.2 f h9.2.2.2⟩)), Bool.true_and]; rfl)
   | (rw [decide_eq_false hc11, Bool.false_and]; rfl)
 intro hc11
 refine SL.val (Val.loadA tabOk rfl rfl rfl (by repeat first|assumption|exact o0_|exact o1_|apply o2_) List.not_mem_nil (Frm.abs_len _)) rfl rfl ?_
 refine SL.val (Val.move rfl) rfl rfl ?_
 refine SL.call (fholds_s (s := s) hn) Casts.refl (by kernel_rfl) rfl rfl rfl ?_
 refine ap_ ?_
 intro _
 refine SL.val (Val.pickT rfl rfl) rfl rfl ?_
 refine SL.val (Val.assign rfl) rfl rfl ?_
 refine SL.nil (SE.seq ?_)
 refine SC.ret ?_
 refine SE.fin (rs := [.tmp 6]) rfl (RV.tmp rfl RV.nil) (()) (by repeat first|exact s0 _|exact s1 _|apply s2|apply s3) (by simp [It.rids]) ?_
 first
  | (rw [decide_eq_true hc11, decide_eq_true (Frm.check_ok.2 (by have h9 := Frm.check_ok.1 hc11; exact ⟨by omega, h9.2.1, h9.2.2.1, Frm.ranges_mono h9.1.2 f h9.2.2.2⟩)), Bool.true_and]; rfl)
  | (rw [decide_eq_false hc11, Bool.false_and]; rfl)
end
end Go.Proofs.YtejcohlpjikjpaaGreatDoor.A
/-
  What an entry does, plain: step by step.
-/
namespace Go.Proofs.YtejcohlpjikjpaaGreatDoor.A
open Go.RowKit

theorem parseF_ok {t : Txt} {n : Int} (h : (parseF t n).2 = 0) : (parseF t n).1.check n = 0 := by
  unfold parseF at h ⊢
  split at h
  · cases h
  · next h1 =>
    rw [if_neg h1]
    cases hp : polT 10 t with
    | none => rw [hp] at h; cases h
    | some y =>
      obtain ⟨f, r⟩ := y
      rw [hp] at h
      dsimp only at h ⊢
      split at h
      · cases h
      · next h2 =>
        split at h
        · next h3 => exact absurd h h3
        · next h3 =>
          rw [if_neg h2, if_neg h3]
          exact Classical.byContradiction h3
theorem st_tx (s : ByteArray) : st s = .v (.string ⟨(tx s).toArray⟩) := congrArg (fun s => Abs.v (.string s)) (tx_inj (tx_mk _).symm)
theorem mask_u32 {m : Nat} (h : m < 4294967296) : Abs.v (.int .u32 (m : Nat)) = u32 (BitVec.ofNat 32 m) := by
  unfold u32
  rw [BitVec.toNat_ofNat, Nat.mod_eq_of_lt (by simpa using h)]
section
variable {l : Lg} {x : Ltr} {e : Ent} {c : Core} {n : Int} {op a b : Int} {t : ByteArray}
theorem amt_i64 {a : Int} (h : isAmt a = true) : i64ok a := by
  have := isAmt_true h
  unfold i64ok
  omega
theorem next_le (s op : Int) : i64ok (ltrNext s op) := by
  unfold ltrNext
  split
  · unfold i64ok; omega
  · have : ∀ y ∈ ltrRow op, 0 ≤ y ∧ y ≤ 7 := by
      unfold ltrRow
      repeat' split
      all_goals decide
    rw [List.getD_eq_getElem?_getD]
    rcases Nat.lt_or_ge s.toNat (ltrRow op).length with h | h
    · rw [List.getElem?_eq_getElem h, Option.getD_some]
      have := this _ (List.getElem_mem h)
      unfold i64ok; omega
    · rw [List.getElem?_eq_none h, Option.getD_none]
      unfold i64ok; omega
theorem does_wf (h : x.Wf) : (x.does op a b t).1.Wf := by
  unfold Ltr.does
  split
  · exact h
  · split
    · unfold Ltr.apply
      split
      · exact h
      · split
        · exact h
        · split
          · exact h
          · next h1 h2 h3 => exact ⟨show i64ok 0 by unfold i64ok; omega, amt_i64 (by simpa using h2), amt_i64 (by simpa using h3)⟩
    · split
      · unfold Ltr.amend
        split
        · exact h
        · split
          · exact h
          · next h1 h2 =>
            refine ⟨h.state, amt_i64 (amtChange_is _ _), ?_⟩
            show i64ok (if b ≠ 0 then b else x.due)
            split
            · exact amt_i64 (by simpa using (not_or.1 h2).2)
            · exact h.due
      · split
        · exact ⟨h.state, h.amount, h.due⟩
        · split
          · exact ⟨h.state, h.amount, h.due⟩
          · split <;> exact h
theorem step_wf (h : x.Wf) : (x.step op a b t).1.Wf := by
  unfold Ltr.step
  split
  · exact none_wf
  · split
    · exact none_wf
    · split
      · exact none_wf
      · have := does_wf (op := op) (a := a) (b := b) (t := t) h
        exact ⟨next_le _ _, this.amount, this.due⟩
/-- The letter that a step makes. -/
abbrev nextL (x : Ltr) (c : Core) : Ltr := { (x.step c.op c.a c.b c.text).1 with name := c.letter }
theorem stepped_a (h : (x.step c.op c.a c.b c.text).2 ≠ 0) : l.stepped x c = (l, (x.step c.op c.a c.b c.text).2) := if_pos h
theorem stepped_b (h : ¬ (x.step c.op c.a c.b c.text).2 ≠ 0) (h2 : (l.with_ (nextL x c)).2 ≠ 0) : l.stepped x c = (l, (l.with_ (nextL x c)).2) := by
  unfold Lg.stepped
  rw [if_neg h, if_pos h2]
theorem stepped_c (h : ¬ (x.step c.op c.a c.b c.text).2 ≠ 0) (h2 : ¬ (l.with_ (nextL x c)).2 ≠ 0) (h3 : ¬ c.op = 7) : l.stepped x c = ((l.with_ (nextL x c)).1, 0) := by
  unfold Lg.stepped
  rw [if_neg h, if_neg h2, if_pos h3]
theorem stepped_d (h : ¬ (x.step c.op c.a c.b c.text).2 ≠ 0) (h2 : ¬ (l.with_ (nextL x c)).2 ≠ 0) (h3 : c.op = 7) (h4 : (amtAdd l.total (nextL x c).amount).2 ≠ 0) : l.stepped x c = (l, 6) := by
  unfold Lg.stepped
  rw [if_neg h, if_neg h2, if_neg (fun k => k h3), if_pos h4]
theorem stepped_e (h : ¬ (x.step c.op c.a c.b c.text).2 ≠ 0) (h2 : ¬ (l.with_ (nextL x c)).2 ≠ 0) (h3 : c.op = 7) (h4 : ¬ (amtAdd l.total (nextL x c).amount).2 ≠ 0) : l.stepped x c = ({ (l.with_ (nextL x c)).1 with total := (amtAdd l.total (nextL x c).amount).1 }, 0) := by
  unfold Lg.stepped
  rw [if_neg h, if_neg h2, if_neg (fun k => k h3), if_neg h4]
theorem with_ok {y : Ltr} (h : ¬ (l.with_ y).2 ≠ 0) : (l.with_ y).1 = l.putL y ∧ nameB y.name = true ∧ (l.putL y).ls.length ≤ 16 := by
  unfold Lg.with_ at h ⊢
  split at h
  · exact absurd (by decide) h
  · next h1 =>
    split at h
    · exact absurd (by decide) h
    · next h2 =>
      rw [if_neg h1, if_neg h2]
      exact ⟨rfl, by simpa using h1, by omega⟩
theorem with_total {y : Ltr} (h : ¬ (l.with_ y).2 ≠ 0) : (l.with_ y).1.total = l.total := by rw [(with_ok h).1]; rfl
theorem stepped_os : (l.stepped x c).1.os = l.os := by
  unfold Lg.stepped
  split
  · rfl
  · split
    · rfl
    · next h =>
      have h1 := (with_ok h).1
      split
      · (show (l.with_ (nextL x c)).1.os = l.os; rw [h1]; rfl)
      · split
        · rfl
        · (show (l.with_ (nextL x c)).1.os = l.os; rw [h1]; rfl)
theorem stepped_ls : (l.stepped x c).1.ls.length ≤ l.ls.length + 1 := by
  have hw : ∀ y : Ltr, (l.putL y).ls.length ≤ l.ls.length + 1 := fun y => withG_length _
  unfold Lg.stepped
  split
  · exact Nat.le_succ _
  · split
    · exact Nat.le_succ _
    · next h =>
      have h1 := (with_ok h).1
      split
      · rw [h1]; exact hw _
      · split
        · exact Nat.le_succ _
        · show (l.with_ (nextL x c)).1.ls.length ≤ _
          rw [h1]; exact hw _
theorem res_len : (l.res e n).1.ls.length ≤ l.ls.length + 1 ∧ (l.res e n).1.os = l.os := by
  unfold Lg.res
  split
  · exact ⟨Nat.le_succ _, rfl⟩
  · split
    · exact ⟨Nat.le_succ _, rfl⟩
    · exact ⟨stepped_ls, stepped_os⟩
theorem doF_len : (l.doF e n).1.ls.length ≤ l.ls.length + 1 ∧ (l.doF e n).1.os.length ≤ l.os.length + 1 := by
  unfold Lg.doF
  split
  · exact ⟨Nat.le_succ _, Nat.le_succ _⟩
  · split
    · exact ⟨Nat.le_succ _, Nat.le_succ _⟩
    · refine ⟨(res_len (e := e) (n := n)).1, ?_⟩
      show (withG _ _ _ (l.res e n).1.os).length ≤ _
      rw [(res_len (e := e) (n := n)).2]
      exact withG_length _
theorem stepped_seq : (l.stepped x c).1.seq = l.seq := by
  unfold Lg.stepped
  split
  · rfl
  · split
    · rfl
    · next h =>
      have h1 := (with_ok h).1
      split
      · (show (l.with_ (nextL x c)).1.seq = l.seq; rw [h1]; rfl)
      · split
        · rfl
        · (show (l.with_ (nextL x c)).1.seq = l.seq; rw [h1]; rfl)
theorem doF_seq : (l.doF e n).1.seq = l.seq := by
  unfold Lg.doF
  split
  · rfl
  · split
    · rfl
    · show (l.res e n).1.seq = _
      unfold Lg.res
      split
      · rfl
      · split
        · rfl
        · exact stepped_seq
theorem putL_wf {y : Ltr} (h : l.Wf) (hy : y.Wf) : (l.putL y).Wf := ⟨h.seq, h.total, fun z hz => by
  rcases withG_mem hz with rfl | hz
  · exact hy
  · exact h.ls z hz⟩
theorem stepped_wf (h : l.Wf) (hx : x.Wf) : (l.stepped x c).1.Wf := by
  unfold Lg.stepped
  split
  · exact h
  · split
    · exact h
    · next h2 =>
      have h1 := (with_ok h2).1
      have hs := step_wf (op := c.op) (a := c.a) (b := c.b) (t := c.text) hx
      have hw : (l.with_ (nextL x c)).1.Wf := by
        rw [h1]
        exact putL_wf h ⟨hs.state, hs.amount, hs.due⟩
      split
      · exact hw
      · split
        · exact h
        · exact ⟨hw.seq, amt_i64 (amtAdd_is _ _), hw.ls⟩
theorem doF_wf (h : l.Wf) : (l.doF e n).1.Wf := by
  unfold Lg.doF
  split
  · exact h
  · split
    · exact h
    · have : (l.res e n).1.Wf := by
        unfold Lg.res
        split
        · exact h
        · split
          · exact h
          · exact stepped_wf h (Lg.old_wf h _)
      exact ⟨this.seq, this.total, this.ls⟩
/-- The letter ahead of a step. -/
def oldAt (l : Lg) (e : Ent) : Nat → Ltr
  | 0 => Ltr.none
  | _ => l.old e.core.letter
def lgAt (l : Lg) (e : Ent) : Nat → Lg
  | 3 => (l.stepped (l.old e.core.letter) e.core).1
  | _ => l
/-- What a step comes to. -/
def erAt (l : Lg) (e : Ent) (n : Int) : Nat → Int
  | 0 => l.known e.core
  | 1 => endorsedF (l.old e.core.letter) e n
  | _ => (l.stepped (l.old e.core.letter) e.core).2
theorem stepped_same {l : Lg} {x : Ltr} {c : Core} (h : (l.stepped x c).2 ≠ 0) : (l.stepped x c).1 = l := by
  unfold Lg.stepped at h ⊢
  split
  · rfl
  · next h1 =>
    rw [if_neg h1] at h
    split
    · rfl
    · next h2 =>
      rw [if_neg h2] at h
      split
      · next h3 => rw [if_pos h3] at h; exact absurd rfl h
      · next h3 =>
        rw [if_neg h3] at h
        split
        · rfl
        · next h4 => rw [if_neg h4] at h; exact absurd rfl h
theorem res_stop {z : Nat} (hz : z < 3) (h : ∀ j, j < z → erAt l e n j = 0) (h2 : erAt l e n z ≠ 0) : l.res e n = (l, erAt l e n z) := by
  unfold Lg.res
  rcases (by omega : z = 0 ∨ z = 1 ∨ z = 2) with rfl | rfl | rfl
  · rw [if_pos (show l.known e.core ≠ 0 from h2)]; rfl
  · rw [if_neg (fun k : l.known e.core ≠ 0 => k (h 0 (by omega))), if_pos (show endorsedF _ e n ≠ 0 from h2)]; rfl
  · rw [if_neg (fun k : l.known e.core ≠ 0 => k (h 0 (by omega))), if_neg (fun k : endorsedF _ e n ≠ 0 => k (h 1 (by omega)))]
    exact Prod.ext (stepped_same h2) rfl
theorem res_end (h : ∀ j, j < 3 → erAt l e n j = 0) : l.res e n = (lgAt l e 3, 0) := by
  unfold Lg.res
  rw [if_neg (fun k : l.known e.core ≠ 0 => k (h 0 (by omega))), if_neg (fun k : endorsedF _ e n ≠ 0 => k (h 1 (by omega)))]
  exact Prod.ext rfl (h 2 (by omega))
theorem lgAt_stop {z : Nat} (hz : z < 3) (h2 : erAt l e n z ≠ 0) : lgAt l e (z + 1) = l := by
  rcases (by omega : z = 0 ∨ z = 1 ∨ z = 2) with rfl | rfl | rfl
  · rfl
  · rfl
  · exact stepped_same h2
end
end Go.Proofs.YtejcohlpjikjpaaGreatDoor.A
