/-
  Packed out of the texts: FrmS, LedS, A20, A24, LedEq, LedF, TOth, LedO.
-/
import Derived.Test.YtickdhjljpnlpaaGreatDoorR07
import Derived.Lib.AppendZerosOnto
import Derived.Lib.Overlaps
import Derived.Sort.Walk0
import Derived.FnData
set_option maxRecDepth 100000
set_option linter.unusedSimpArgs false
set_option linter.unusedVariables false
namespace Go.Proofs.YtickdhjljpnlpaaGreatDoor.A
open Go.RowKit
section
variable {o a n deep : Int} {ks : List Frm} {s : Wo} {f : Frm}
set_option maxHeartbeats 1000000 in
theorem jg_ (ih : ∀ k ∈ ks, ∀ deep : Int, k.nodes ≤ 1099511627776 → 0 ≤ deep → deep ≤ 1099511627776 - k.nodes → Spec Tryz.prog 140 [.agg k.abs, int deep] [] (fun _ : Unit => []) (fun _ => .tup [int (k.nodes : Nat), int (deep + k.depth - 1)])) (hn : (Frm.mk o a ks).nodes ≤ 1099511627776) (h0 : 0 ≤ deep) (hd : deep ≤ 1099511627776 - (Frm.mk o a ks).nodes) : Spec Tryz.prog 140 [.agg (Frm.mk o a ks).abs, int deep] [] (fun _ : Unit => []) (fun _ => .tup [int ((Frm.mk o a ks).nodes : Nat), int (deep + (Frm.mk o a ks).depth - 1)]) := by
 rw [Frm.abs_mk]
 have hlen := Frm.length_le ks
 rw [Frm.nodes_mk] at hn hd
 refine F_ Tryz.func140 rfl Tryz.ntmps140 rfl fun G w =>d_<|a_<|eb_ (R_ rfl) rfl rfl fun b2=>?_
 refine q_ 2 rfl<|g_<|c_<|d_<|a_<|q_ 3 rfl<|g_<|c_<|d_<|d_<|a_<|q_ 1 rfl<|b_ (i_ tabOk rfl rfl l0_ List.not_mem_nil rfl) rfl rfl<|b_ (B_ rfl Tryz.underlying128 (List.length_map _)) rfl rfl<|q_ 1 rfl<|g_<|c_<|y_<|ae_ (ι := Nat) (fun z => [.blk b2 130 [int o, int a, .sl 3 (ks.map Frm.abs)]]) (fun z => [(1, int deep), (2, ptr b2), (4, int ((1 + Frm.nodess (ks.take z) : Nat) : Int)), (5, int (deep + (Frm.depths (ks.take z) : Nat))), (12, .sl 3 (ks.map Frm.abs)), (13, int (ks.length : Nat)), (14, int (z : Nat))]) (fun z => z ≤ ks.length) (fun z => ks.length - z) (0) (Nat.zero_le _) (by exact ⟨rfl, rfl, rfl, congrArg (fun x : Int => some (int x)) (show deep = deep + ((0 : Nat) : Int) by omega), rfl, rfl, rfl, trivial⟩) sr_ ?_
 intro z hz
 refine d_<|a_<|q_ 1 rfl<|g_<|c_<|d_<|o_ rfl ?_ ?_
 rotate_left
 ·intro hc15
  have hz2 : z = ks.length := by omega
  have htk : ks.take z = ks := by rw [hz2]; exact List.take_of_length_le (Nat.le_refl _)
  refine W_<|h_ nofun<|h_ nofun<|V_<|c_<|d_<|a_<|q_ 4 rfl<|g_<|c_<|m_<|f_ (rs := [.tmp 4, .tmp 5]) rfl (RV.tmp rfl (RV.tmp rfl RV.nil)) (()) sn_ ?_
  rw [htk, Frm.nodes_mk, Frm.depth_mk]
  rw [show deep + ((1 + Frm.depths ks : Nat) : Int) - 1 = deep + (Frm.depths ks : Nat) by omega]
  rfl
 intro hc15
 have hlt : z < ks.length := by omega
 have hkz := Frm.nodes_mem (List.getElem_mem hlt)
 have hdz := Frm.depths_mem (List.getElem_mem hlt)
 have htn := Frm.take_nodes1 hlt
 have htd := Frm.take_depths1 hlt
 have htl := Frm.take_nodes (ks := ks) (z + 1)
 have hdn := Frm.depth_le (ks[z]'hlt)
 refine p_<|c_<|d_<|y_<|d_<|a_<|b_ (J_ tabOk Tryz.underlying128 rfl rfl rfl rfl (aN_ (by omega)) rfl rfl) rfl rfl ?_
 refine b_ (Y_ tabOk rfl rfl rfl (Frm.abs_len _)) rfl rfl<|eb_ (H_ tabOk rfl) rfl rfl fun b7=>?_
 refine e_ (n_ (L' := (ks[z]'hlt).abs) tabOk rfl rfl rfl u0_ (by exact Frm.abs_len _) (Nat.le_of_ble_eq_true rfl) (by exact Frm.abs_ones _) (t_ (by exact Frm.abs_len _))) rfl rfl ?_
 refine g_<|c_<|d_<|a_<|b_ (U_ tabOk rfl rfl rfl l0_ List.not_mem_nil (Frm.abs_len _)) rfl rfl<|q_ 1 rfl<|b_ (C_ rfl rfl (by simp only [InR, lo, hi]; omega)) rfl rfl ?_
 refine s_ (ih (ks[z]'hlt) (List.getElem_mem hlt) (deep + 1) (by omega) (by omega) (by omega)) Casts.refl (by kernel_rfl) rfl rfl rfl ?_
 refine ap_<|fun _=>q_ 5 rfl<|g_<|c_<|a_<|q_ 2 rfl<|b_ (l_ (C := int ((1 + Frm.nodess (ks.take (z + 1)) : Nat) : Int)) (C_ rfl rfl (by simp only [InR, lo, hi]; omega)) (congrArg int (by omega))) rfl rfl ?_
 refine q_ 2 rfl<|b_ (l_ (C := int (deep + (Frm.depths (ks.take (z + 1)) : Nat))) (iY_ rfl rfl) (congrArg int (by omega))) rfl rfl ?_
 refine q_ 2 rfl<|g_<|u_<|c_<|a_<|b_ (C_ rfl rfl (by simp only [InR, lo, hi]; omega)) rfl rfl ?_
 refine q_ 1 rfl<|g_<|G_ (z + 1) (by omega) (by omega) (by exact ⟨rfl, rfl, rfl, rfl, rfl, rfl, rfl, trivial⟩) (sk_ sr_)
theorem shape_s (f : Frm) : ∀ deep : Int, f.nodes ≤ 1099511627776 → 0 ≤ deep → deep ≤ 1099511627776 - f.nodes → Spec Tryz.prog 140 [.agg f.abs, int deep] [] (fun _ : Unit => []) (fun _ => .tup [int (f.nodes : Nat), int (deep + f.depth - 1)]) := Frm.ind (p := fun f => ∀ deep : Int, f.nodes ≤ 1099511627776 → 0 ≤ deep → deep ≤ 1099511627776 - f.nodes → Spec Tryz.prog 140 [.agg f.abs, int deep] [] (fun _ : Unit => []) (fun _ => .tup [int (f.nodes : Nat), int (deep + f.depth - 1)])) (fun o a ks ih => fun deep hn h0 hd => jg_ ih hn h0 hd) f
set_option maxHeartbeats 1000000 in
theorem jS_ (ih : ∀ k ∈ ks, k.nodes ≤ 1099511627776 → Spec Tryz.prog 130 [.agg k.abs] [] (fun _ : Unit => []) (fun _ => .tup [int (k.nodes : Nat), int (k.depth : Nat)])) (hn : (Frm.mk o a ks).nodes ≤ 1099511627776) : Spec Tryz.prog 130 [.agg (Frm.mk o a ks).abs] [] (fun _ : Unit => []) (fun _ => .tup [int ((Frm.mk o a ks).nodes : Nat), int ((Frm.mk o a ks).depth : Nat)]) := by
 rw [Frm.abs_mk]
 have hlen := Frm.length_le ks
 rw [Frm.nodes_mk] at hn
 refine F_ Tryz.func130 rfl Tryz.ntmps130 rfl fun G w =>d_<|a_<|eb_ (R_ rfl) rfl rfl fun b1=>?_
 refine q_ 2 rfl<|g_<|c_<|d_<|a_<|q_ 2 rfl<|g_<|c_<|d_<|d_<|a_<|q_ 1 rfl<|b_ (i_ tabOk rfl rfl l0_ List.not_mem_nil rfl) rfl rfl<|b_ (B_ rfl Tryz.underlying128 (List.length_map _)) rfl rfl<|q_ 1 rfl<|g_<|c_<|y_<|ae_ (ι := Nat) (fun z => [.blk b1 130 [int o, int a, .sl 3 (ks.map Frm.abs)]]) (fun z => [(1, ptr b1), (4, int ((1 + Frm.nodess (ks.take z) : Nat) : Int)), (5, int (Frm.depths (ks.take z) : Nat)), (11, .sl 3 (ks.map Frm.abs)), (12, int (ks.length : Nat)), (13, int (z : Nat))]) (fun z => z ≤ ks.length) (fun z => ks.length - z) (0) (Nat.zero_le _) (by exact ⟨rfl, rfl, rfl, rfl, rfl, rfl, trivial⟩) sr_ ?_
 intro z hz
 refine d_<|a_<|q_ 1 rfl<|g_<|c_<|d_<|o_ rfl ?_ ?_
 rotate_left
 ·intro hc14
  have hz2 : z = ks.length := by omega
  have htk : ks.take z = ks := by rw [hz2]; exact List.take_of_length_le (Nat.le_refl _)
  have hdp := Frm.depth_le (Frm.mk o a ks)
  rw [Frm.depth_mk, Frm.nodes_mk] at hdp
  rw [htk]
  refine W_<|h_ nofun<|h_ nofun<|V_<|c_<|d_<|a_<|q_ 2 rfl<|b_ (C_ rfl rfl (by simp only [InR, lo, hi]; omega)) rfl rfl ?_
  refine q_ 2 rfl<|g_<|c_<|m_<|f_ (rs := [.tmp 2, .tmp 3]) rfl (RV.tmp rfl (RV.tmp rfl RV.nil)) (()) sn_ ?_
  rw [Frm.nodes_mk, Frm.depth_mk]
  rw [show ((1 + Frm.depths ks : Nat) : Int) = (Frm.depths ks : Nat) + 1 by omega]
  rfl
 intro hc14
 have hlt : z < ks.length := by omega
 have hkz := Frm.nodes_mem (List.getElem_mem hlt)
 have hdz := Frm.depths_mem (List.getElem_mem hlt)
 have htn := Frm.take_nodes1 hlt
 have htd := Frm.take_depths1 hlt
 have htl := Frm.take_nodes (ks := ks) (z + 1)
 have hdn := Frm.depth_le (ks[z]'hlt)
 refine p_<|c_<|d_<|y_<|d_<|a_<|b_ (J_ tabOk Tryz.underlying128 rfl rfl rfl rfl (aN_ (by omega)) rfl rfl) rfl rfl ?_
 refine b_ (Y_ tabOk rfl rfl rfl (Frm.abs_len _)) rfl rfl<|eb_ (H_ tabOk rfl) rfl rfl fun b7=>?_
 refine e_ (n_ (L' := (ks[z]'hlt).abs) tabOk rfl rfl rfl u0_ (by exact Frm.abs_len _) (Nat.le_of_ble_eq_true rfl) (by exact Frm.abs_ones _) (t_ (by exact Frm.abs_len _))) rfl rfl ?_
 refine g_<|c_<|d_<|a_<|b_ (U_ tabOk rfl rfl rfl l0_ List.not_mem_nil (Frm.abs_len _)) rfl rfl<|s_ (ih (ks[z]'hlt) (List.getElem_mem hlt) (by omega)) Casts.refl (by kernel_rfl) rfl rfl rfl ?_
 refine ap_<|fun _=>q_ 5 rfl<|g_<|c_<|d_<|a_<|q_ 2 rfl<|b_ (l_ (C := int ((1 + Frm.nodess (ks.take (z + 1)) : Nat) : Int)) (C_ rfl rfl (by simp only [InR, lo, hi]; omega)) (congrArg int (by omega))) rfl rfl ?_
 refine q_ 1 rfl<|g_<|c_<|a_<|q_ 2 rfl<|b_ (l_ (C := int (Frm.depths (ks.take (z + 1)) : Nat)) (iY_ rfl rfl) (congrArg int (by omega))) rfl rfl ?_
 refine q_ 1 rfl<|g_<|u_<|c_<|a_<|b_ (C_ rfl rfl (by simp only [InR, lo, hi]; omega)) rfl rfl ?_
 refine q_ 1 rfl<|g_<|G_ (z + 1) (by omega) (by omega) (by exact ⟨rfl, rfl, rfl, rfl, rfl, rfl, trivial⟩) (sk_ sr_)
theorem size_s (f : Frm) : f.nodes ≤ 1099511627776 → Spec Tryz.prog 130 [.agg f.abs] [] (fun _ : Unit => []) (fun _ => .tup [int (f.nodes : Nat), int (f.depth : Nat)]) := Frm.ind (p := fun f => f.nodes ≤ 1099511627776 → Spec Tryz.prog 130 [.agg f.abs] [] (fun _ : Unit => []) (fun _ => .tup [int (f.nodes : Nat), int (f.depth : Nat)])) (fun o a ks ih => fun hn => jS_ ih hn) f
theorem fA_ {p : Prop} [Decidable p] {b : Bool} (h : b = true ↔ p) : retA [boo (decide p)] = boo b := by
  refine congrArg (fun b => Abs.v (Value.bool b)) ?_
  rw [Bool.eq_iff_iff, decide_eq_true_iff]
  exact h.symm
theorem ha_ {b : Bool} (h : b = false) : retA [boo false] = boo b := by rw [h]; rfl
theorem g9_ {b : Bool} (h : b = true) : retA [boo true] = boo b := by rw [h]; rfl
set_option maxHeartbeats 1000000 in
theorem hz_ (ih : ∀ k ∈ ks, k.nodes ≤ 1099511627776 → Spec Tryz.prog 131 [.agg k.abs, int n] [] (fun _ : Unit => []) (fun _ => boo (k.ranges n))) (hn : (Frm.mk o a ks).nodes ≤ 1099511627776) : Spec Tryz.prog 131 [.agg (Frm.mk o a ks).abs, int n] [] (fun _ : Unit => []) (fun _ => boo ((Frm.mk o a ks).ranges n)) := by
  rw [Frm.abs_mk]
  have hlen := Frm.length_le ks
  rw [Frm.nodes_mk] at hn
  refine F_ Tryz.func131 rfl Tryz.ntmps131 rfl fun G w =>d_<|a_<|eb_ (R_ rfl) rfl rfl fun b2=>?_
  refine q_ 1 rfl<|g_<|c_<|d_<|d_<|a_<|q_ 1 rfl<|b_ (i_ tabOk rfl rfl l0_ List.not_mem_nil rfl) rfl rfl<|b_ (B_ rfl Tryz.underlying128 (List.length_map _)) rfl rfl<|q_ 1 rfl<|g_<|c_<|o_ rfl ?_ ?_
  · intro hc10
    have hk0 : ks = [] := List.eq_nil_of_length_eq_zero (by omega)
    subst hk0
    refine d_<|a_<|q_ 1 rfl<|b_ (i_ tabOk rfl rfl l0_ List.not_mem_nil rfl) rfl rfl<|q_ 2 rfl<|z_ (t := 14) rfl ?_ ?_
    rotate_left
    · intro hc14
      refine q_ 11 rfl<|g_<|c_<|m_<|h_ nofun<|f_ (rs := [.tmp 4]) rfl (RV.tmp rfl RV.nil) (()) sn_ ?_
      (refine ha_ ?_; rw [Frm.ranges_leaf, decide_eq_false_iff_not]; omega)
    intro hc14
    refine q_ 1 rfl<|b_ (i_ tabOk rfl rfl l0_ List.not_mem_nil rfl) rfl rfl<|q_ 4 rfl<|z_ (t := 20) rfl ?_ ?_
    · intro hc20
      refine q_ 1 rfl<|b_ (i_ tabOk rfl rfl l0_ List.not_mem_nil rfl) rfl rfl<|q_ 3 rfl<|g_<|c_<|m_<|h_ nofun<|f_ (rs := [.tmp 4]) rfl (RV.tmp rfl RV.nil) (()) sn_ ?_
      (refine fA_ ?_; rw [Frm.ranges_leaf, decide_eq_true_iff]; omega)
    intro hc20
    refine q_ 5 rfl<|g_<|c_<|m_<|h_ nofun<|f_ (rs := [.tmp 4]) rfl (RV.tmp rfl RV.nil) (()) sn_ ?_
    (refine ha_ ?_; rw [Frm.ranges_leaf, decide_eq_false_iff_not]; omega)
  intro hc10
  have hk0 : ks ≠ [] := by rintro rfl; simp at hc10
  refine p_<|c_<|d_<|d_<|a_<|q_ 1 rfl<|b_ (i_ tabOk rfl rfl l0_ List.not_mem_nil rfl) rfl rfl<|b_ (B_ rfl Tryz.underlying128 (List.length_map _)) rfl rfl<|q_ 1 rfl<|g_<|c_<|y_<|ae_ (ι := Nat) (fun z => [.blk b2 130 [int o, int a, .sl 3 (ks.map Frm.abs)]]) (fun z => [(1, int n), (2, ptr b2), (26, .sl 3 (ks.map Frm.abs)), (27, int (ks.length : Nat)), (28, int (z : Nat))]) (fun z => z ≤ ks.length ∧ ∀ j (h : j < ks.length), j < z → ks[j].ranges n = true) (fun z => ks.length - z) (0) (⟨Nat.zero_le _, fun j h hj => by omega⟩) (by exact ⟨rfl, rfl, rfl, rfl, rfl, trivial⟩) sr_ ?_
  intro z hz
  refine d_<|a_<|q_ 1 rfl<|g_<|c_<|d_<|o_ rfl ?_ ?_
  · intro hc29
    have hlt : z < ks.length := by omega
    have hkz := Frm.nodes_mem (List.getElem_mem hlt)
    have hdz := Frm.depths_mem (List.getElem_mem hlt)
    have htn := Frm.take_nodes1 hlt
    have htd := Frm.take_depths1 hlt
    have htl := Frm.take_nodes (ks := ks) (z + 1)
    have hdn := Frm.depth_le (ks[z]'hlt)
    refine p_<|c_<|d_<|y_<|d_<|a_<|b_ (J_ tabOk Tryz.underlying128 rfl rfl rfl rfl (aN_ (by omega)) rfl rfl) rfl rfl ?_
    refine b_ (Y_ tabOk rfl rfl rfl (Frm.abs_len _)) rfl rfl<|eb_ (H_ tabOk rfl) rfl rfl fun b6=>?_
    refine e_ (n_ (L' := (ks[z]'hlt).abs) tabOk rfl rfl rfl u0_ (by exact Frm.abs_len _) (Nat.le_of_ble_eq_true rfl) (by exact Frm.abs_ones _) (t_ (by exact Frm.abs_len _))) rfl rfl ?_
    refine g_<|c_<|d_<|a_<|b_ (U_ tabOk rfl rfl rfl l0_ List.not_mem_nil (Frm.abs_len _)) rfl rfl<|q_ 1 rfl<|s_ (ih (ks[z]'hlt) (List.getElem_mem hlt) (by omega)) Casts.refl (by kernel_rfl) rfl rfl rfl ?_
    refine ap_<|fun _=>b_ (aj_ rfl) rfl rfl<|g_<|c_<|X_ rfl ?_ ?_
    rotate_left
    · intro hc35
      have hr : (ks[z]'hlt).ranges n = true := by simpa using hc35
      refine p_<|u_<|c_<|a_<|b_ (C_ rfl rfl (by simp only [InR, lo, hi]; omega)) rfl rfl ?_
      refine q_ 1 rfl<|g_<|G_ (z + 1) (by omega) (⟨by omega, fun j h hj => by
            rcases Nat.lt_or_ge j z with h1 | h1
            · exact hz.2 j h h1
            obtain rfl : j = z := by omega
            exact hr⟩) (by exact ⟨rfl, rfl, rfl, rfl, rfl, trivial⟩) (sk_ sr_)
    intro hc35
    have hr : (ks[z]'hlt).ranges n = false := by simpa using hc35
    refine d_<|a_<|q_ 1 rfl<|g_<|c_<|m_<|E_<|h_ nofun<|h_ nofun<|E_<|h_ nofun<|f_ (rs := [.tmp 4]) rfl (RV.tmp rfl RV.nil) (()) sn_<|ha_ ?_
    rw [Frm.ranges_node n o a hk0, Bool.and_eq_false_iff]
    left
    rw [Bool.eq_false_iff]
    intro h
    rw [Frm.rangess_iff] at h
    rw [h _ (List.getElem_mem hlt)] at hr
    cases hr
  intro hc29
  have hz2 : z = ks.length := by omega
  have htk : ks.take z = ks := by rw [hz2]; exact List.take_of_length_le (Nat.le_refl _)
  refine W_<|h_ nofun<|h_ nofun<|V_<|c_<|d_<|a_<|q_ 1 rfl<|b_ (i_ tabOk rfl rfl l0_ List.not_mem_nil rfl) rfl rfl<|q_ 2 rfl<|z_ (t := 40) rfl ?_ ?_
  rotate_left
  · intro hc40
    refine q_ 13 rfl<|g_<|c_<|m_ ?_
    have hall : Frm.rangess n ks = true := by
      rw [Frm.rangess_iff]
      intro k hk
      obtain ⟨j, hj, rfl⟩ := List.getElem_of_mem hk
      exact hz.2 j hj (by omega)
    refine f_ (rs := [.tmp 4]) rfl (RV.tmp rfl RV.nil) (()) sn_ ?_
    (refine ha_ ?_; rw [Frm.ranges_node n o a hk0, hall, Bool.true_and, decide_eq_false_iff_not]; omega)
  intro hc40
  refine q_ 1 rfl<|b_ (i_ tabOk rfl rfl l0_ List.not_mem_nil rfl) rfl rfl<|q_ 1 rfl<|b_ (i_ tabOk rfl rfl l0_ List.not_mem_nil rfl) rfl rfl<|b_ (B_ rfl Tryz.underlying128 (List.length_map _)) rfl rfl<|q_ 3 rfl<|z_ (t := 48) rfl ?_ ?_
  · intro hc48
    refine q_ 1 rfl<|b_ (i_ tabOk rfl rfl l0_ List.not_mem_nil rfl) rfl rfl<|q_ 3 rfl<|g_<|c_<|m_ ?_
    have hall : Frm.rangess n ks = true := by
      rw [Frm.rangess_iff]
      intro k hk
      obtain ⟨j, hj, rfl⟩ := List.getElem_of_mem hk
      exact hz.2 j hj (by omega)
    refine f_ (rs := [.tmp 4]) rfl (RV.tmp rfl RV.nil) (()) sn_ ?_
    (refine fA_ ?_; rw [Frm.ranges_node n o a hk0, hall, Bool.true_and, decide_eq_true_iff]; omega)
  intro hc48
  refine q_ 5 rfl<|g_<|c_<|m_ ?_
  have hall : Frm.rangess n ks = true := by
    rw [Frm.rangess_iff]
    intro k hk
    obtain ⟨j, hj, rfl⟩ := List.getElem_of_mem hk
    exact hz.2 j hj (by omega)
  refine f_ (rs := [.tmp 4]) rfl (RV.tmp rfl RV.nil) (()) sn_ ?_
  (refine ha_ ?_; rw [Frm.ranges_node n o a hk0, hall, Bool.true_and, decide_eq_false_iff_not]; omega)
theorem ranges_s (n : Int) (f : Frm) : f.nodes ≤ 1099511627776 → Spec Tryz.prog 131 [.agg f.abs, int n] [] (fun _ : Unit => []) (fun _ => boo (f.ranges n)) := Frm.ind (p := fun f => f.nodes ≤ 1099511627776 → Spec Tryz.prog 131 [.agg f.abs, int n] [] (fun _ : Unit => []) (fun _ => boo (f.ranges n))) (fun o a ks ih => fun hn => hz_ ih hn) f
theorem f4_ {xs : List Frm} {p : Frm → Bool} {k : Nat} {caps : List Abs} {σ : Blks} (hb : goesIn Tryz.prog k = true) (hr : Rds σ) (hn : xs.length < 9223372036854775807) (h : ∀ x ∈ xs, Spec Tryz.prog k (.agg (Frm.abs x) :: caps) σ (fun _ : Unit => []) (fun _ => boo (p x))) : Spec Tryz.prog 172 [.sl 3 (xs.map Frm.abs), .fn (.func k) [] caps] σ (fun _ : {r : Int // 0 ≤ r ↔ ∃ x ∈ xs, p x = true} => []) (fun z => int z.1) := by
 refine F_ Tryz.func172 rfl Tryz.ntmps172 rfl fun G w =>d_<|a_<|q_ 1 rfl<|g_<|c_<|d_<|d_<|a_<|q_ 1 rfl<|b_ (B_ rfl Tryz.underlying128 (List.length_map _)) rfl rfl<|q_ 1 rfl<|g_<|c_<|y_<|ae_ (ι := Nat) (fun z => σ) (fun z => [(0, .sl 3 (xs.map Frm.abs)), (1, .fn (.func k) [] caps), (7, int (xs.length : Nat)), (8, int (z : Nat))]) (fun z => z ≤ xs.length ∧ ∀ j (hj : j < xs.length), j < z → p xs[j] = false) (fun z => xs.length - z) (0) (⟨Nat.zero_le _, by omega⟩) (by exact ⟨rfl, rfl, rfl, rfl, trivial⟩) sr_ ?_
 intro z hz
 refine d_<|a_<|q_ 1 rfl<|g_<|c_<|d_<|o_ rfl ?_ ?_
 rotate_left
 ·intro hc9
  refine W_<|h_ nofun<|h_ nofun<|V_<|c_<|d_<|a_<|q_ 1 rfl<|g_<|c_<|m_<|f_ (rs := [.tmp 4]) rfl (RV.tmp rfl RV.nil) (⟨-1, ⟨fun h => (by omega), fun ⟨x, hx, hp⟩ => by obtain ⟨j, hj, rfl⟩ := List.getElem_of_mem hx; have := hz.2 j hj (by omega); rw [this] at hp; cases hp⟩⟩) sn_ ?_
  exact rfl
 intro hc9
 have hlt : z < xs.length := by omega
 refine p_<|c_<|d_<|y_<|d_<|a_<|q_ 2 rfl<|g_<|c_<|d_<|a_<|q_ 3 rfl<|b_ (J_ tabOk Tryz.underlying128 rfl rfl rfl rfl (aN_ (by omega)) rfl rfl) rfl rfl ?_
 refine b_ (Y_ tabOk rfl rfl rfl (Frm.abs_len _)) rfl rfl<|bF_ (h _ (List.getElem_mem hlt)) rfl Casts.refl hb rfl rfl rfl<|bv_ (Rds.reads hr (fun x hx => by repeat (first | exact hx | apply List.mem_cons_of_mem))) (fun _ => rfl) ?_
 intro _
 refine g_<|c_<|X_ rfl ?_ ?_
 rotate_left
 ·intro hc16
  refine p_<|u_<|c_<|a_<|b_ (C_ rfl rfl (by simp only [InR, lo, hi]; omega)) rfl rfl ?_
  refine q_ 1 rfl<|g_<|G_ (z + 1) (by omega) (⟨by omega, fun j hj hjz => by rcases Nat.lt_or_ge j z with h1 | h1; exact hz.2 j hj h1; obtain rfl : j = z := (by omega); exact hc16⟩) (by exact ⟨rfl, rfl, rfl, rfl, trivial⟩) sr_
 intro hc16
 refine d_<|a_<|q_ 2 rfl<|g_<|c_<|m_<|E_<|h_ nofun<|h_ nofun<|E_<|h_ nofun<|f_ (rs := [.tmp 4]) rfl (RV.tmp rfl RV.nil) (⟨(z : Nat), ⟨fun _ => ⟨_, List.getElem_mem hlt, hc16⟩, fun _ => (by omega)⟩⟩) sn_ ?_
 exact rfl
theorem d3_ {xs : List Frm} {p : Frm → Bool} {k : Nat} {caps : List Abs} {σ : Blks} (hb : goesIn Tryz.prog k = true) (hr : Rds σ) (hn : xs.length < 9223372036854775807) (h : ∀ x ∈ xs, Spec Tryz.prog k (.agg (Frm.abs x) :: caps) σ (fun _ : Unit => []) (fun _ => boo (p x))) : Spec Tryz.prog 158 [.sl 3 (xs.map Frm.abs), .fn (.func k) [] caps] σ (fun _ : Unit => []) (fun _ => boo (xs.any p)) := by
 refine F_ Tryz.func158 rfl Tryz.ntmps158 rfl fun G w =>d_<|a_<|q_ 1 rfl<|g_<|c_<|d_<|a_<|q_ 2 rfl<|s_ (f4_ hb hr hn h) Casts.refl (by kernel_rfl) rfl rfl rfl ?_
 refine bv_ (Rds.reads hr (fun x hx => by repeat (first | exact hx | apply List.mem_cons_of_mem))) (fun _ => rfl) ?_
 intro r
 refine q_ 2 rfl<|g_<|c_<|m_<|f_ (rs := [.tmp 4]) rfl (RV.tmp rfl RV.nil) (()) sn_<|congrArg (fun b => Abs.v (Value.bool b)) ?_
 rw [Bool.eq_iff_iff, decide_eq_true_iff, r.2, List.any_eq_true]
theorem odd1_s {p : Nat} (h : Spec Tryz.prog 141 [.agg f.abs, int n] [] (fun _ : Unit => []) (fun _ => boo (!f.ranges n))) : Spec Tryz.prog 159 [.agg f.abs, ptr p] [.rd p 3 [int n]] (fun _ : Unit => []) (fun _ => boo (!f.ranges n)) := by
 refine F_ Tryz.func159 rfl Tryz.ntmps159 rfl fun G w =>d_<|a_<|eb_ (R_ (cs := f.abs) rfl) rfl rfl fun b2=>?_
 refine q_ 1 rfl<|g_<|c_<|d_<|a_<|b_ (U_ tabOk rfl rfl rfl l0_ List.not_mem_nil (Frm.abs_len _)) rfl rfl<|b_ (i_ tabOk rfl rfl r1_ List.not_mem_nil rfl) rfl rfl<|s_ (h) Casts.refl (by kernel_rfl) rfl rfl rfl ?_
 exact bv_ Reads.nil (fun _ => rfl)<|fun _=>q_ 1 rfl<|g_<|c_<|m_<|f_ (rs := [.tmp 3]) rfl (RV.tmp rfl RV.nil) (()) sn_<|rfl
set_option maxHeartbeats 1000000 in
theorem odd_step (ih : ∀ k ∈ ks, k.nodes ≤ 1099511627776 → Spec Tryz.prog 141 [.agg k.abs, int n] [] (fun _ : Unit => []) (fun _ => boo (!k.ranges n))) (hn : (Frm.mk o a ks).nodes ≤ 1099511627776) : Spec Tryz.prog 141 [.agg (Frm.mk o a ks).abs, int n] [] (fun _ : Unit => []) (fun _ => boo (!(Frm.mk o a ks).ranges n)) := by
 rw [Frm.abs_mk]
 have hlen := Frm.length_le ks
 rw [Frm.nodes_mk] at hn
 refine F_ Tryz.func141 rfl Tryz.ntmps141 rfl fun G w =>d_<|a_<|eb_ (R_ rfl) rfl rfl fun b2=>?_
 refine eb_ (bG_ rfl rfl) rfl rfl fun b3=>?_
 refine q_ 1 rfl<|g_<|c_<|d_<|d_<|a_<|q_ 1 rfl<|b_ (i_ tabOk rfl rfl l1_ List.not_mem_nil rfl) rfl rfl<|b_ (B_ rfl Tryz.underlying128 (List.length_map _)) rfl rfl<|q_ 1 rfl<|g_<|c_<|o_ rfl ?_ ?_
 ·intro hc8
  have hk0 : ks = [] := List.eq_nil_of_length_eq_zero (by omega)
  subst hk0
  refine d_<|a_<|q_ 1 rfl<|b_ (i_ tabOk rfl rfl l1_ List.not_mem_nil rfl) rfl rfl<|q_ 2 rfl<|z_ (t := 12) rfl ?_ ?_
  ·intro hc12
   refine q_ 11 rfl<|g_<|c_<|m_<|h_ nofun<|f_ (rs := [.tmp 4]) rfl (RV.tmp rfl RV.nil) (()) sn_ ?_
   (refine g9_ ?_; rw [Frm.ranges_leaf, Bool.not_eq_true', decide_eq_false_iff_not]; omega)
  intro hc12
  refine q_ 1 rfl<|b_ (i_ tabOk rfl rfl l1_ List.not_mem_nil rfl) rfl rfl<|q_ 3 rfl<|z_ (t := 17) rfl ?_ ?_
  ·intro hc17
   refine q_ 6 rfl<|g_<|c_<|m_<|h_ nofun<|f_ (rs := [.tmp 4]) rfl (RV.tmp rfl RV.nil) (()) sn_ ?_
   (refine g9_ ?_; rw [Frm.ranges_leaf, Bool.not_eq_true', decide_eq_false_iff_not]; omega)
  intro hc17
  refine q_ 1 rfl<|b_ (i_ tabOk rfl rfl l1_ List.not_mem_nil rfl) rfl rfl<|b_ (i_ tabOk rfl rfl l0_ List.not_mem_nil rfl) rfl rfl<|q_ 3 rfl<|g_<|c_<|m_<|h_ nofun<|f_ (rs := [.tmp 4]) rfl (RV.tmp rfl RV.nil) (()) sn_ ?_
  (refine fA_ ?_; rw [Frm.ranges_leaf, Bool.not_eq_true', decide_eq_false_iff_not]; omega)
 intro hc8
 have hk0 : ks ≠ [] := by rintro rfl; simp at hc8
 refine p_<|c_<|d_<|a_<|q_ 1 rfl<|b_ (i_ tabOk rfl rfl l1_ List.not_mem_nil rfl) rfl rfl<|q_ 2 rfl<|z_ (t := 26) rfl ?_ ?_
 ·intro hc26
  refine q_ 19 rfl<|g_<|c_<|m_<|f_ (rs := [.tmp 4]) rfl (RV.tmp rfl RV.nil) (()) sn_ ?_
  (refine g9_ ?_; rw [Frm.ranges_node n o a hk0, Bool.not_eq_true', Bool.and_eq_false_iff, decide_eq_false_iff_not]; right; omega)
 intro hc26
 refine q_ 1 rfl<|b_ (i_ tabOk rfl rfl l1_ List.not_mem_nil rfl) rfl rfl<|q_ 3 rfl<|z_ (t := 31) rfl ?_ ?_
 ·intro hc31
  refine q_ 14 rfl<|g_<|c_<|m_<|f_ (rs := [.tmp 4]) rfl (RV.tmp rfl RV.nil) (()) sn_ ?_
  (refine g9_ ?_; rw [Frm.ranges_node n o a hk0, Bool.not_eq_true', Bool.and_eq_false_iff, decide_eq_false_iff_not]; right; omega)
 intro hc31
 refine q_ 1 rfl<|b_ (i_ tabOk rfl rfl l1_ List.not_mem_nil rfl) rfl rfl<|q_ 1 rfl<|b_ (i_ tabOk rfl rfl l1_ List.not_mem_nil rfl) rfl rfl<|b_ (B_ rfl Tryz.underlying128 (List.length_map _)) rfl rfl<|q_ 3 rfl<|z_ (t := 39) rfl ?_ ?_
 ·intro hc39
  refine q_ 6 rfl<|g_<|c_<|m_<|f_ (rs := [.tmp 4]) rfl (RV.tmp rfl RV.nil) (()) sn_ ?_
  (refine g9_ ?_; rw [Frm.ranges_node n o a hk0, Bool.not_eq_true', Bool.and_eq_false_iff, decide_eq_false_iff_not]; right; omega)
 intro hc39
 refine q_ 1 rfl<|b_ (i_ tabOk rfl rfl l1_ List.not_mem_nil rfl) rfl rfl<|b_ (aE_ rfl rfl) rfl rfl<|s_ (d3_ (xs := ks) (k := 159) (caps := [ptr b3]) (σ := [.rd b3 3 [int n]]) (p := fun f : Frm => !f.ranges n) (by kernel_rfl) (by intro x hx; simp only [List.mem_cons, List.not_mem_nil, or_false] at hx; rcases hx with rfl; exact .inl ⟨_, _, _, rfl⟩) (by omega) (fun k hk => odd1_s (ih k hk (by have := Frm.nodes_mem hk; omega)))) Casts.refl (by kernel_rfl) rfl rfl rfl ?_
 refine ap_<|fun _=>q_ 2 rfl<|g_<|c_<|m_<|f_ (rs := [.tmp 4]) rfl (RV.tmp rfl RV.nil) (()) sn_ ?_
 (show boo (ks.any fun f => !f.ranges n) = _; refine congrArg (fun b => Abs.v (Value.bool b)) ?_; rw [Frm.ranges_node n o a hk0, show decide (1 ≤ a ∧ a ≤ ((ks.length : Nat) : Int) ∧ o = 0) = true from decide_eq_true (by omega), Bool.and_true, Bool.eq_iff_iff, List.any_eq_true, Bool.not_eq_true', Bool.eq_false_iff, ne_eq, Frm.rangess_iff]; simp)
theorem odd_s (n : Int) (f : Frm) : f.nodes ≤ 1099511627776 → Spec Tryz.prog 141 [.agg f.abs, int n] [] (fun _ : Unit => []) (fun _ => boo (!f.ranges n)) := Frm.ind (p := fun f => f.nodes ≤ 1099511627776 → Spec Tryz.prog 141 [.agg f.abs, int n] [] (fun _ : Unit => []) (fun _ => boo (!f.ranges n))) (fun o a ks ih => fun hn => odd_step ih hn) f
theorem f7_ (hn : f.nodes ≤ 1099511627000) : Spec Tryz.prog 120 [.agg f.abs, int n] [] (fun _ : Unit => []) (fun _ => int (f.check n)) := by
 have hdp := f.depth_le
 refine F_ Tryz.func120 rfl Tryz.ntmps120 rfl fun G w =>d_<|a_<|eb_ (R_ (cs := f.abs) rfl) rfl rfl fun b2=>?_
 refine q_ 1 rfl<|g_<|c_<|d_<|d_<|a_<|q_ 3 rfl<|z_ (t := 9) rfl ?_ ?_
 ·intro hc9
  refine q_ 3 rfl<|g_<|c_<|M_ rfl<|d_<|a_<|q_ 1 rfl<|g_<|c_<|m_<|h_ nofun ?_
  try have hr := hc24
  refine f_ (rs := [.tmp 4]) rfl (RV.tmp rfl RV.nil) (()) sn_ ?_
  (refine congrArg int ?_; unfold Frm.check; rw [if_pos (by omega)])
 intro hc9
 refine q_ 3 rfl<|g_<|c_<|o_ rfl ?_ ?_
 ·intro hc12
  refine d_<|a_<|q_ 1 rfl<|g_<|c_<|m_<|h_ nofun ?_
  try have hr := hc24
  refine f_ (rs := [.tmp 4]) rfl (RV.tmp rfl RV.nil) (()) sn_ ?_
  (refine congrArg int ?_; unfold Frm.check; rw [if_pos (by omega)])
 intro hc12
 refine p_<|c_<|d_<|d_<|a_<|b_ (U_ tabOk rfl rfl rfl l0_ List.not_mem_nil (Frm.abs_len _)) rfl rfl<|s_ (shape_s f 1 (by omega) (by omega) (by omega)) Casts.refl (by kernel_rfl) rfl rfl rfl ?_
 refine ap_<|fun _=>q_ 5 rfl<|g_<|c_<|y_<|d_<|a_<|q_ 3 rfl<|g_<|c_<|o_ rfl ?_ ?_
 ·intro hc18
  refine d_<|a_<|q_ 1 rfl<|g_<|c_<|m_<|E_<|h_ nofun ?_
  try have hr := hc24
  refine f_ (rs := [.tmp 4]) rfl (RV.tmp rfl RV.nil) (()) sn_ ?_
  (refine congrArg int ?_; unfold Frm.check; rw [if_neg (by omega), if_pos (by omega)])
 intro hc18
 refine d_<|a_<|q_ 3 rfl<|g_<|c_<|o_ rfl ?_ ?_
 ·intro hc21
  refine d_<|a_<|q_ 1 rfl<|g_<|c_<|m_<|E_<|h_ nofun ?_
  try have hr := hc24
  refine f_ (rs := [.tmp 4]) rfl (RV.tmp rfl RV.nil) (()) sn_ ?_
  (refine congrArg int ?_; unfold Frm.check; rw [if_neg (by omega), if_neg (by omega), if_pos (by omega)])
 intro hc21
 refine d_<|a_<|b_ (U_ tabOk rfl rfl rfl l0_ List.not_mem_nil (Frm.abs_len _)) rfl rfl<|q_ 1 rfl<|s_ (odd_s n f (by omega)) Casts.refl (by kernel_rfl) rfl rfl rfl ?_
 refine ap_<|fun _=>q_ 1 rfl<|g_<|c_<|X_ rfl ?_ ?_
 ·intro hc24
  refine d_<|a_<|q_ 1 rfl<|g_<|c_<|m_<|E_<|h_ nofun ?_
  try have hr := hc24
  refine f_ (rs := [.tmp 4]) rfl (RV.tmp rfl RV.nil) (()) sn_ ?_
  (refine congrArg int ?_; unfold Frm.check; rw [if_neg (by omega), if_neg (by omega), if_neg (by omega)]; rename_i hr; simp at hr; simp [hr])
 intro hc24
 refine p_<|u_<|c_<|d_<|a_<|q_ 1 rfl<|g_<|c_<|m_ ?_
 try have hr := hc24
 refine f_ (rs := [.tmp 4]) rfl (RV.tmp rfl RV.nil) (()) sn_ ?_
 (refine congrArg int ?_; unfold Frm.check; rw [if_neg (by omega), if_neg (by omega), if_neg (by omega)]; rename_i hr; simp at hr; simp [hr])
theorem j2_ (hn : f.nodes ≤ 1099511627000) : Spec Tryz.prog 109 [.agg f.abs, int n] [] (fun _ : Unit => []) (fun _ => int (f.check n)) := by
 have hdp := f.depth_le
 refine F_ Tryz.func109 rfl Tryz.ntmps109 rfl fun G w =>d_<|a_<|eb_ (R_ (cs := f.abs) rfl) rfl rfl fun b2=>?_
 refine q_ 1 rfl<|g_<|c_<|d_<|a_<|b_ (U_ tabOk rfl rfl rfl l0_ List.not_mem_nil (Frm.abs_len _)) rfl rfl<|s_ (size_s f (by omega)) Casts.refl (by kernel_rfl) rfl rfl rfl ?_
 refine ap_<|fun _=>q_ 5 rfl<|g_<|c_<|d_<|y_<|d_<|a_<|q_ 3 rfl<|z_ (t := 15) rfl ?_ ?_
 ·intro hc15
  refine q_ 4 rfl<|g_<|c_<|M_ rfl<|d_<|a_<|q_ 1 rfl<|g_<|c_<|m_<|E_<|h_ nofun ?_
  try have hr := hc25
  refine f_ (rs := [.tmp 4]) rfl (RV.tmp rfl RV.nil) (()) sn_ ?_
  (refine congrArg int ?_; unfold Frm.check; rw [if_pos (by omega)])
 intro hc15
 refine q_ 4 rfl<|g_<|c_<|o_ rfl ?_ ?_
 ·intro hc12
  refine d_<|a_<|q_ 1 rfl<|g_<|c_<|m_<|E_<|h_ nofun ?_
  try have hr := hc25
  refine f_ (rs := [.tmp 4]) rfl (RV.tmp rfl RV.nil) (()) sn_ ?_
  (refine congrArg int ?_; unfold Frm.check; rw [if_pos (by omega)])
 intro hc12
 refine d_<|a_<|q_ 3 rfl<|g_<|c_<|o_ rfl ?_ ?_
 ·intro hc19
  refine d_<|a_<|q_ 1 rfl<|g_<|c_<|m_<|E_<|h_ nofun ?_
  try have hr := hc25
  refine f_ (rs := [.tmp 4]) rfl (RV.tmp rfl RV.nil) (()) sn_ ?_
  (refine congrArg int ?_; unfold Frm.check; rw [if_neg (by omega), if_pos (by omega)])
 intro hc19
 refine d_<|a_<|q_ 3 rfl<|g_<|c_<|o_ rfl ?_ ?_
 ·intro hc22
  refine d_<|a_<|q_ 1 rfl<|g_<|c_<|m_<|E_<|h_ nofun ?_
  try have hr := hc25
  refine f_ (rs := [.tmp 4]) rfl (RV.tmp rfl RV.nil) (()) sn_ ?_
  (refine congrArg int ?_; unfold Frm.check; rw [if_neg (by omega), if_neg (by omega), if_pos (by omega)])
 intro hc22
 refine d_<|a_<|b_ (U_ tabOk rfl rfl rfl l0_ List.not_mem_nil (Frm.abs_len _)) rfl rfl<|q_ 1 rfl<|s_ (ranges_s n f (by omega)) Casts.refl (by kernel_rfl) rfl rfl rfl ?_
 refine ap_<|fun _=>b_ (aj_ rfl) rfl rfl<|q_ 1 rfl<|g_<|c_<|X_ rfl ?_ ?_
 ·intro hc25
  refine d_<|a_<|q_ 1 rfl<|g_<|c_<|m_<|E_<|h_ nofun ?_
  try have hr := hc25
  refine f_ (rs := [.tmp 4]) rfl (RV.tmp rfl RV.nil) (()) sn_ ?_
  (refine congrArg int ?_; unfold Frm.check; rw [if_neg (by omega), if_neg (by omega), if_neg (by omega)]; rename_i hr; simp at hr; simp [hr])
 intro hc25
 refine p_<|u_<|c_<|d_<|a_<|q_ 1 rfl<|g_<|c_<|m_ ?_
 try have hr := hc25
 refine f_ (rs := [.tmp 4]) rfl (RV.tmp rfl RV.nil) (()) sn_ ?_
 (refine congrArg int ?_; unfold Frm.check; rw [if_neg (by omega), if_neg (by omega), if_neg (by omega)]; rename_i hr; simp at hr; simp [hr])
set_option maxHeartbeats 1000000 in
theorem ju_ (ih : ∀ k ∈ ks, k.nodes ≤ 1099511627776 → k.ranges 7 = true → Spec Tryz.prog 143 [.agg k.abs, u32 s] [] (fun _ : Unit => []) (fun _ => boo (k.holds s))) (hn : (Frm.mk o a ks).nodes ≤ 1099511627776) (hr : (Frm.mk o a ks).ranges 7 = true) : Spec Tryz.prog 143 [.agg (Frm.mk o a ks).abs, u32 s] [] (fun _ : Unit => []) (fun _ => boo ((Frm.mk o a ks).holds s)) := by
 rw [Frm.abs_mk]
 have hlen := Frm.length_le ks
 rw [Frm.nodes_mk] at hn
 have hkr := Frm.kids_range hr
 refine F_ Tryz.func143 rfl Tryz.ntmps143 rfl fun G w =>d_<|a_<|eb_ (R_ rfl) rfl rfl fun b2=>?_
 refine q_ 1 rfl<|g_<|c_<|d_<|d_<|a_<|q_ 1 rfl<|b_ (i_ tabOk rfl rfl l0_ List.not_mem_nil rfl) rfl rfl<|b_ (B_ rfl Tryz.underlying128 (List.length_map _)) rfl rfl<|q_ 1 rfl<|g_<|c_<|o_ rfl ?_ ?_
 ·intro hc11
  have hk0 : ks = [] := List.eq_nil_of_length_eq_zero (by omega)
  subst hk0
  have hro := hr
  rw [Frm.ranges_leaf, decide_eq_true_iff] at hro
  obtain ⟨m, rfl⟩ : ∃ m : Nat, o = (m : Nat) := ⟨o.toNat, by omega⟩
  refine d_<|a_<|q_ 2 rfl<|b_ (i_ tabOk rfl rfl l0_ List.not_mem_nil rfl) rfl rfl<|b_ (l_ (C := .v (.int .u64 (m : Nat))) (ax_ rfl Tryz.underlying91 (by kernel_rfl) (by simp only [InR, lo, hi]; omega)) rfl) rfl rfl ?_
  refine b_ (Val.shrB (m := m) rfl rfl rfl) rfl rfl<|b_ (Val.andW (q := 1#32) rfl rfl) rfl rfl<|q_ 2 rfl<|g_<|c_<|m_<|h_ nofun<|f_ (rs := [.tmp 4]) rfl (RV.tmp rfl RV.nil) (()) sn_<|congrArg (fun b => Abs.v (Value.bool b)) ?_
  rw [Frm.holds_leaf, ← and_bit]
  rw [decide_eq_decide]
  exact Int.ofNat_inj
 intro hc11
 have hk0 : ks ≠ [] := by rintro rfl; simp at hc11
 have hro := hr
 rw [Frm.ranges_node 7 o a hk0, Bool.and_eq_true, decide_eq_true_iff] at hro
 refine p_<|c_<|d_<|a_<|q_ 1 rfl<|b_ (i_ tabOk rfl rfl l0_ List.not_mem_nil rfl) rfl rfl<|q_ 1 rfl<|g_<|c_<|d_<|d_<|a_<|q_ 1 rfl<|b_ (i_ tabOk rfl rfl l0_ List.not_mem_nil rfl) rfl rfl<|b_ (B_ rfl Tryz.underlying128 (List.length_map _)) rfl rfl<|q_ 1 rfl<|g_<|c_<|y_<|ae_ (ι := Nat) (fun z => [.blk b2 130 [int o, int a, .sl 3 (ks.map Frm.abs)]]) (fun z => [(1, u32 s), (2, ptr b2), (5, int (a - (Frm.holdss s (ks.take z) : Nat))), (22, .sl 3 (ks.map Frm.abs)), (23, int (ks.length : Nat)), (24, int (z : Nat))]) (fun z => z ≤ ks.length) (fun z => ks.length - z) (0) (Nat.zero_le _) (by exact ⟨rfl, rfl, congrArg (fun x : Int => some (int x)) (show a = a - ((0 : Nat) : Int) by omega), rfl, rfl, rfl, trivial⟩) sr_ ?_
 intro z hz
 refine d_<|a_<|q_ 1 rfl<|g_<|c_<|d_<|o_ rfl ?_ ?_
 rotate_left
 ·intro hc25
  have hz2 : z = ks.length := by omega
  have htk : ks.take z = ks := by rw [hz2]; exact List.take_of_length_le (Nat.le_refl _)
  refine W_<|h_ nofun<|h_ nofun<|V_<|c_<|d_<|a_<|q_ 3 rfl<|g_<|c_<|m_<|f_ (rs := [.tmp 4]) rfl (RV.tmp rfl RV.nil) (()) sn_<|fA_ ?_
  rw [Frm.holds_node s o a hk0, decide_eq_true_iff, htk]
  omega
 intro hc25
 have hlt : z < ks.length := by omega
 have hkz := Frm.nodes_mem (List.getElem_mem hlt)
 have hdz := Frm.depths_mem (List.getElem_mem hlt)
 have htn := Frm.take_nodes1 hlt
 have htd := Frm.take_depths1 hlt
 have htl := Frm.take_nodes (ks := ks) (z + 1)
 have hdn := Frm.depth_le (ks[z]'hlt)
 have hth := Frm.take_holds1 (s := s) hlt
 refine p_<|c_<|d_<|y_<|d_<|a_<|b_ (J_ tabOk Tryz.underlying128 rfl rfl rfl rfl (aN_ (by omega)) rfl rfl) rfl rfl ?_
 refine b_ (Y_ tabOk rfl rfl rfl (Frm.abs_len _)) rfl rfl<|eb_ (H_ tabOk rfl) rfl rfl fun b7=>?_
 refine e_ (n_ (L' := (ks[z]'hlt).abs) tabOk rfl rfl rfl u0_ (by exact Frm.abs_len _) (Nat.le_of_ble_eq_true rfl) (by exact Frm.abs_ones _) (t_ (by exact Frm.abs_len _))) rfl rfl ?_
 refine g_<|c_<|d_<|a_<|b_ (U_ tabOk rfl rfl rfl l0_ List.not_mem_nil (Frm.abs_len _)) rfl rfl<|q_ 1 rfl<|s_ (ih (ks[z]'hlt) (List.getElem_mem hlt) (by omega) (hkr _ (List.getElem_mem hlt))) Casts.refl (by kernel_rfl) rfl rfl rfl ?_
 refine ap_<|fun _=>g_<|c_<|X_ rfl ?_ ?_
 rotate_left
 ·intro hc30
  rw [if_neg (by rw [hc30]; decide)] at hth
  refine p_<|u_<|c_<|a_<|b_ (C_ rfl rfl (by simp only [InR, lo, hi]; omega)) rfl rfl ?_
  refine q_ 1 rfl<|g_<|G_ (z + 1) (by omega) (by omega) (by exact ⟨rfl, rfl, congrArg (fun x : Int => some (int x)) (show a - (Frm.holdss s (ks.take z) : Nat) = a - (Frm.holdss s (ks.take (z + 1)) : Nat) by omega), rfl, rfl, rfl, trivial⟩) (sk_ sr_)
 intro hc30
 rw [if_pos hc30] at hth
 refine a_<|q_ 1 rfl<|b_ (l_ (C := int (a - (Frm.holdss s (ks.take (z + 1)) : Nat))) (aC_ rfl rfl (by have := Frm.holdss_le s (ks.take z); rw [List.length_take] at this; simp only [InR, lo, hi]; omega)) (congrArg int (by have := Frm.take_holds1 (s := s) hlt; rw [if_pos (by assumption)] at this; omega))) rfl rfl ?_
 refine q_ 1 rfl<|g_<|u_<|c_<|a_<|b_ (C_ rfl rfl (by simp only [InR, lo, hi]; omega)) rfl rfl ?_
 refine q_ 1 rfl<|g_<|G_ (z + 1) (by omega) (by omega) (by exact ⟨rfl, rfl, rfl, rfl, rfl, rfl, trivial⟩) (sk_ sr_)
theorem holds_s (s : Wo) (f : Frm) : f.nodes ≤ 1099511627776 → f.ranges 7 = true → Spec Tryz.prog 143 [.agg f.abs, u32 s] [] (fun _ : Unit => []) (fun _ => boo (f.holds s)) := Frm.ind (p := fun f => f.nodes ≤ 1099511627776 → f.ranges 7 = true → Spec Tryz.prog 143 [.agg f.abs, u32 s] [] (fun _ : Unit => []) (fun _ => boo (f.holds s))) (fun o a ks ih => fun hn hr => ju_ ih hn hr) f
set_option maxHeartbeats 1000000 in
theorem has_s {m : Nat} (hm : m ≤ 1000) : Spec Tryz.prog 110 [u32 s, int (m : Nat)] [] (fun _ : Unit => []) (fun _ => boo (s.getLsbD m)) := by
 refine F_ Tryz.func110 rfl Tryz.ntmps110 rfl fun G w =>d_<|a_<|q_ 1 rfl<|g_<|c_<|d_<|d_<|a_<|q_ 1 rfl<|g_<|c_<|y_<|ae_ (ι := Nat) (fun z => []) (fun z => [(0, u32 (s >>> z)), (1, int (m : Nat)), (5, int (z : Nat))]) (fun z => z ≤ m) (fun z => m - z) (0) (Nat.zero_le _) (by exact ⟨congrArg (fun x : Wo => some (u32 x)) (show s = s >>> 0 by simp), rfl, rfl, trivial⟩) sn_ ?_
 intro z hz
 refine d_<|d_<|a_<|q_ 3 rfl<|g_<|c_<|o_ rfl ?_ ?_
 rotate_left
 ·intro hc8
  have hz2 : z = m := by omega
  refine W_<|h_ nofun<|h_ nofun<|V_<|c_<|d_<|a_<|q_ 1 rfl<|b_ (gi_ rfl rfl (by omega)) rfl rfl ?_
  refine q_ 2 rfl<|g_<|c_<|m_<|f_ (rs := [.tmp 4]) rfl (RV.tmp rfl RV.nil) (()) sn_<|fA_ ?_
  rw [← hz2, ← gU_, decide_eq_true_iff]
  omega
 intro hc8
 refine p_<|c_<|d_<|y_<|a_<|q_ 1 rfl<|b_ (l_ (C := u32 (s >>> (z + 1))) (iX_ rfl rfl (by omega) (by have := (s >>> z).isLt; simp only [InR, lo, hi]; omega)) (congrArg (fun r => Abs.v (.int .u32 r)) (by
   rw [BitVec.toNat_ushiftRight, BitVec.toNat_ushiftRight, Nat.shiftRight_succ]
   omega))) rfl rfl ?_
 refine q_ 1 rfl<|g_<|u_<|c_<|a_<|q_ 1 rfl<|b_ (C_ rfl rfl (by simp only [InR, lo, hi]; omega)) rfl rfl ?_
 refine q_ 1 rfl<|g_<|G_ (z + 1) (by omega) (by omega) (by exact ⟨rfl, rfl, rfl, trivial⟩) sn_
set_option maxHeartbeats 1000000 in
theorem hu_ (ih : ∀ k ∈ ks, k.nodes ≤ 1099511627776 → k.ranges 7 = true → Spec Tryz.prog 89 [.agg k.abs, u32 s] [] (fun _ : Unit => []) (fun _ => boo (k.holds s))) (hn : (Frm.mk o a ks).nodes ≤ 1099511627776) (hr : (Frm.mk o a ks).ranges 7 = true) : Spec Tryz.prog 89 [.agg (Frm.mk o a ks).abs, u32 s] [] (fun _ : Unit => []) (fun _ => boo ((Frm.mk o a ks).holds s)) := by
 rw [Frm.abs_mk]
 have hlen := Frm.length_le ks
 rw [Frm.nodes_mk] at hn
 have hkr := Frm.kids_range hr
 refine F_ Tryz.func89 rfl Tryz.ntmps89 rfl fun G w =>d_<|a_<|eb_ (R_ rfl) rfl rfl fun b2=>?_
 refine q_ 1 rfl<|g_<|c_<|d_<|d_<|a_<|q_ 1 rfl<|b_ (i_ tabOk rfl rfl l0_ List.not_mem_nil rfl) rfl rfl<|b_ (B_ rfl Tryz.underlying128 (List.length_map _)) rfl rfl<|q_ 1 rfl<|g_<|c_<|o_ rfl ?_ ?_
 ·intro hc11
  have hk0 : ks = [] := List.eq_nil_of_length_eq_zero (by omega)
  subst hk0
  have hro := hr
  rw [Frm.ranges_leaf, decide_eq_true_iff] at hro
  obtain ⟨m, rfl⟩ : ∃ m : Nat, o = (m : Nat) := ⟨o.toNat, by omega⟩
  refine d_<|a_<|q_ 2 rfl<|b_ (i_ tabOk rfl rfl l0_ List.not_mem_nil rfl) rfl rfl<|s_ (has_s (s := s) (m := m) (by omega)) Casts.refl (by kernel_rfl) rfl rfl rfl ?_
  refine ap_<|fun _=>q_ 1 rfl<|g_<|c_<|m_<|h_ nofun<|f_ (rs := [.tmp 4]) rfl (RV.tmp rfl RV.nil) (()) sn_<|congrArg (fun b => Abs.v (Value.bool b)) ?_
  rw [Frm.holds_leaf]
  rfl
 intro hc11
 have hk0 : ks ≠ [] := by rintro rfl; simp at hc11
 have hro := hr
 rw [Frm.ranges_node 7 o a hk0, Bool.and_eq_true, decide_eq_true_iff] at hro
 refine p_<|c_<|d_<|a_<|q_ 1 rfl<|g_<|c_<|d_<|d_<|a_<|q_ 1 rfl<|b_ (i_ tabOk rfl rfl l0_ List.not_mem_nil rfl) rfl rfl<|b_ (B_ rfl Tryz.underlying128 (List.length_map _)) rfl rfl<|q_ 1 rfl<|g_<|c_<|y_<|ae_ (ι := Nat) (fun z => [.blk b2 130 [int o, int a, .sl 3 (ks.map Frm.abs)]]) (fun z => [(1, u32 s), (2, ptr b2), (5, int (Frm.holdss s (ks.take z) : Nat)), (17, .sl 3 (ks.map Frm.abs)), (18, int (ks.length : Nat)), (19, int (z : Nat))]) (fun z => z ≤ ks.length) (fun z => ks.length - z) (0) (Nat.zero_le _) (by exact ⟨rfl, rfl, rfl, rfl, rfl, rfl, trivial⟩) sr_ ?_
 intro z hz
 refine d_<|a_<|q_ 1 rfl<|g_<|c_<|d_<|o_ rfl ?_ ?_
 rotate_left
 ·intro hc20
  have hz2 : z = ks.length := by omega
  have htk : ks.take z = ks := by rw [hz2]; exact List.take_of_length_le (Nat.le_refl _)
  refine W_<|h_ nofun<|h_ nofun<|V_<|c_<|d_<|a_<|q_ 2 rfl<|b_ (i_ tabOk rfl rfl l0_ List.not_mem_nil rfl) rfl rfl<|q_ 2 rfl<|g_<|c_<|m_<|f_ (rs := [.tmp 4]) rfl (RV.tmp rfl RV.nil) (()) sn_<|fA_ ?_
  rw [Frm.holds_node s o a hk0, decide_eq_true_iff, htk]
 intro hc20
 have hlt : z < ks.length := by omega
 have hkz := Frm.nodes_mem (List.getElem_mem hlt)
 have hdz := Frm.depths_mem (List.getElem_mem hlt)
 have htn := Frm.take_nodes1 hlt
 have htd := Frm.take_depths1 hlt
 have htl := Frm.take_nodes (ks := ks) (z + 1)
 have hdn := Frm.depth_le (ks[z]'hlt)
 have hth := Frm.take_holds1 (s := s) hlt
 refine p_<|c_<|d_<|y_<|d_<|a_<|b_ (J_ tabOk Tryz.underlying128 rfl rfl rfl rfl (aN_ (by omega)) rfl rfl) rfl rfl ?_
 refine b_ (Y_ tabOk rfl rfl rfl (Frm.abs_len _)) rfl rfl<|eb_ (H_ tabOk rfl) rfl rfl fun b7=>?_
 refine e_ (n_ (L' := (ks[z]'hlt).abs) tabOk rfl rfl rfl u0_ (by exact Frm.abs_len _) (Nat.le_of_ble_eq_true rfl) (by exact Frm.abs_ones _) (t_ (by exact Frm.abs_len _))) rfl rfl ?_
 refine g_<|c_<|d_<|a_<|b_ (U_ tabOk rfl rfl rfl l0_ List.not_mem_nil (Frm.abs_len _)) rfl rfl<|q_ 1 rfl<|s_ (ih (ks[z]'hlt) (List.getElem_mem hlt) (by omega) (hkr _ (List.getElem_mem hlt))) Casts.refl (by kernel_rfl) rfl rfl rfl ?_
 refine ap_<|fun _=>g_<|c_<|X_ rfl ?_ ?_
 rotate_left
 ·intro hc25
  rw [if_neg (by rw [hc25]; decide)] at hth
  refine p_<|u_<|c_<|a_<|b_ (C_ rfl rfl (by simp only [InR, lo, hi]; omega)) rfl rfl ?_
  refine q_ 1 rfl<|g_<|G_ (z + 1) (by omega) (by omega) (by exact ⟨rfl, rfl, congrArg (fun x : Nat => some (int (x : Nat))) (show Frm.holdss s (ks.take z) = Frm.holdss s (ks.take (z + 1)) by omega), rfl, rfl, rfl, trivial⟩) (sk_ sr_)
 intro hc25
 rw [if_pos hc25] at hth
 refine a_<|q_ 1 rfl<|b_ (l_ (C := int (Frm.holdss s (ks.take (z + 1)) : Nat)) (C_ rfl rfl (by have := Frm.holdss_le s (ks.take z); rw [List.length_take] at this; simp only [InR, lo, hi]; omega)) (congrArg int (by have := Frm.take_holds1 (s := s) hlt; rw [if_pos (by assumption)] at this; omega))) rfl rfl ?_
 refine q_ 1 rfl<|g_<|u_<|c_<|a_<|b_ (C_ rfl rfl (by simp only [InR, lo, hi]; omega)) rfl rfl ?_
 refine q_ 1 rfl<|g_<|G_ (z + 1) (by omega) (by omega) (by exact ⟨rfl, rfl, rfl, rfl, rfl, rfl, trivial⟩) (sk_ sr_)
theorem rholds_s (s : Wo) (f : Frm) : f.nodes ≤ 1099511627776 → f.ranges 7 = true → Spec Tryz.prog 89 [.agg f.abs, u32 s] [] (fun _ : Unit => []) (fun _ => boo (f.holds s)) := Frm.ind (p := fun f => f.nodes ≤ 1099511627776 → f.ranges 7 = true → Spec Tryz.prog 89 [.agg f.abs, u32 s] [] (fun _ : Unit => []) (fun _ => boo (f.holds s))) (fun o a ks ih => fun hn hr => hu_ ih hn hr) f
theorem right_s (hn : f.nodes ≤ 1099511627000) : Spec Tryz.prog 142 [.agg f.abs] [] (fun _ : Unit => []) (fun _ => boo (decide (f.check 7 = 0))) := by
 refine F_ Tryz.func142 rfl Tryz.ntmps142 rfl fun G w =>d_<|a_<|eb_ (R_ (cs := f.abs) rfl) rfl rfl fun b1=>?_
 refine q_ 1 rfl<|g_<|c_<|d_<|a_<|b_ (U_ tabOk rfl rfl rfl l0_ List.not_mem_nil (Frm.abs_len _)) rfl rfl<|s_ (f7_ (n := 7) hn) Casts.refl (by kernel_rfl) rfl rfl rfl ?_
 exact ap_<|fun _=>q_ 2 rfl<|g_<|c_<|m_<|f_ (rs := [.tmp 2]) rfl (RV.tmp rfl RV.nil) (()) sn_<|rfl
theorem fholds_s (hn : f.nodes ≤ 1099511627000) : Spec Tryz.prog 121 [.agg f.abs, u32 s] [] (fun _ : Unit => []) (fun _ => boo (decide (f.check 7 = 0) && f.holds s)) := by
 refine F_ Tryz.func121 rfl Tryz.ntmps121 rfl fun G w =>d_<|a_<|eb_ (R_ (cs := f.abs) rfl) rfl rfl fun b2=>?_
 refine q_ 1 rfl<|g_<|c_<|d_<|a_<|b_ (U_ tabOk rfl rfl rfl l0_ List.not_mem_nil (Frm.abs_len _)) rfl rfl<|s_ (right_s hn) Casts.refl (by kernel_rfl) rfl rfl rfl ?_
 refine ap_<|fun _=>q_ 1 rfl<|z_ (t := 7) rfl ?_ ?_
 rotate_left
 ·intro hc7
  refine q_ 5 rfl<|g_<|c_<|m_<|f_ (rs := [.tmp 4]) rfl (RV.tmp rfl RV.nil) (()) sn_ ?_
  (rw [decide_eq_false (by assumption), Bool.false_and]; rfl)
 intro hc7
 refine b_ (U_ tabOk rfl rfl rfl l0_ List.not_mem_nil (Frm.abs_len _)) rfl rfl<|q_ 1 rfl<|s_ (holds_s s f (by omega) (Frm.check_ok.1 (by assumption)).2.2.2) Casts.refl (by kernel_rfl) rfl rfl rfl ?_
 refine ap_<|fun _=>q_ 2 rfl<|g_<|c_<|m_<|f_ (rs := [.tmp 4]) rfl (RV.tmp rfl RV.nil) (()) sn_ ?_
 (rw [decide_eq_true (by assumption), Bool.true_and]; rfl)
theorem enough_s (hn : f.nodes ≤ 1099511627000) : Spec Tryz.prog 101 [.agg f.abs, u32 s, int n] [] (fun _ : Unit => []) (fun _ => boo (decide (f.check n = 0) && f.holds s)) := by
 refine F_ Tryz.func101 rfl Tryz.ntmps101 rfl fun G w =>d_<|a_<|eb_ (R_ (cs := f.abs) rfl) rfl rfl fun b3=>?_
 refine q_ 1 rfl<|g_<|c_<|d_<|a_<|b_ (U_ tabOk rfl rfl rfl l0_ List.not_mem_nil (Frm.abs_len _)) rfl rfl<|q_ 1 rfl<|s_ (f7_ (n := n) hn) Casts.refl (by kernel_rfl) rfl rfl rfl ?_
 refine ap_<|fun _=>q_ 2 rfl<|z_ (t := 11) rfl ?_ ?_
 rotate_left
 ·intro hc11
  refine q_ 5 rfl<|g_<|c_<|m_<|f_ (rs := [.tmp 6]) rfl (RV.tmp rfl RV.nil) (()) sn_ ?_
  (rw [decide_eq_false hc11, Bool.false_and]; rfl)
 intro hc11
 refine b_ (U_ tabOk rfl rfl rfl l0_ List.not_mem_nil (Frm.abs_len _)) rfl rfl<|q_ 1 rfl<|s_ (fholds_s (s := s) hn) Casts.refl (by kernel_rfl) rfl rfl rfl ?_
 refine ap_<|fun _=>q_ 2 rfl<|g_<|c_<|m_<|f_ (rs := [.tmp 6]) rfl (RV.tmp rfl RV.nil) (()) sn_ ?_
 (rw [decide_eq_true hc11, decide_eq_true (Frm.check_ok.2 (by have h9 := Frm.check_ok.1 hc11; exact ⟨by omega, h9.2.1, h9.2.2.1, Frm.ranges_mono h9.1.2 f h9.2.2.2⟩)), Bool.true_and]; rfl)
end
theorem gE_ {t : Txt} {n : Int} (h : (parseF t n).2 = 0) : (parseF t n).1.check n = 0 := by
  unfold parseF at h ⊢
  split at h
  · cases h
  · next h1 =>
    rw [if_neg h1]
    cases hp : polT 10 t with
    | none => rw [hp] at h; cases h
    | some y =>
      obtain ⟨f, r⟩ := y
      rw [hp] at h
      dsimp only at h ⊢
      split at h
      · cases h
      · next h2 =>
        split at h
        · next h3 => exact absurd h h3
        · next h3 =>
          rw [if_neg h2, if_neg h3]
          exact Classical.byContradiction h3
theorem st_tx (s : ByteArray) : st s = .v (.string ⟨(tx s).toArray⟩) := congrArg (fun s => Abs.v (.string s)) (ek_ (fL_ _).symm)
theorem iw_ {m : Nat} (h : m < 4294967296) : Abs.v (.int .u32 (m : Nat)) = u32 (BitVec.ofNat 32 m) := by
  unfold u32
  rw [BitVec.toNat_ofNat, Nat.mod_eq_of_lt (by simpa using h)]
section
variable {l : Lg} {x : Ltr} {e : Ent} {c : Core} {n : Int} {op a b : Int} {t : ByteArray}
theorem bZ_ {a : Int} (h : isAmt a = true) : i64ok a := by
  have := aP_ h
  unfold i64ok
  omega
theorem next_le (s op : Int) : i64ok (ltrNext s op) := by
  unfold ltrNext
  split
  · unfold i64ok; omega
  · have : ∀ y ∈ ltrRow op, 0 ≤ y ∧ y ≤ 7 := by
      unfold ltrRow
      repeat' split
      all_goals decide
    rw [List.getD_eq_getElem?_getD]
    rcases Nat.lt_or_ge s.toNat (ltrRow op).length with h | h
    · rw [List.getElem?_eq_getElem h, Option.getD_some]
      have := this _ (List.getElem_mem h)
      unfold i64ok; omega
    · rw [List.getElem?_eq_none h, Option.getD_none]
      unfold i64ok; omega
theorem kV_ (h : x.Wf) : (x.does op a b t).1.Wf := by
  unfold Ltr.does
  split
  · exact h
  · split
    · unfold Ltr.apply
      split
      · exact h
      · split
        · exact h
        · split
          · exact h
          · next h1 h2 h3 => exact ⟨show i64ok 0 by unfold i64ok; omega, bZ_ (by simpa using h2), bZ_ (by simpa using h3)⟩
    · split
      · unfold Ltr.amend
        split
        · exact h
        · split
          · exact h
          · next h1 h2 =>
            refine ⟨h.state, bZ_ (hf_ _ _), ?_⟩
            show i64ok (if b ≠ 0 then b else x.due)
            split
            · exact bZ_ (by simpa using (not_or.1 h2).2)
            · exact h.due
      · split
        · exact ⟨h.state, h.amount, h.due⟩
        · split
          · exact ⟨h.state, h.amount, h.due⟩
          · split <;> exact h
theorem fM_ (h : x.Wf) : (x.step op a b t).1.Wf := by
  unfold Ltr.step
  split
  · exact eH_
  · split
    · exact eH_
    · split
      · exact eH_
      · have := kV_ (op := op) (a := a) (b := b) (t := t) h
        exact ⟨next_le _ _, this.amount, this.due⟩
abbrev nextL (x : Ltr) (c : Core) : Ltr := { (x.step c.op c.a c.b c.text).1 with name := c.letter }
theorem en_ (h : (x.step c.op c.a c.b c.text).2 ≠ 0) : l.stepped x c = (l, (x.step c.op c.a c.b c.text).2) := if_pos h
theorem cq_ (h : ¬ (x.step c.op c.a c.b c.text).2 ≠ 0) (h2 : (l.with_ (nextL x c)).2 ≠ 0) : l.stepped x c = (l, (l.with_ (nextL x c)).2) := by
  unfold Lg.stepped
  rw [if_neg h, if_pos h2]
theorem cp_ (h : ¬ (x.step c.op c.a c.b c.text).2 ≠ 0) (h2 : ¬ (l.with_ (nextL x c)).2 ≠ 0) (h3 : ¬ c.op = 7) : l.stepped x c = ((l.with_ (nextL x c)).1, 0) := by
  unfold Lg.stepped
  rw [if_neg h, if_neg h2, if_pos h3]
theorem co_ (h : ¬ (x.step c.op c.a c.b c.text).2 ≠ 0) (h2 : ¬ (l.with_ (nextL x c)).2 ≠ 0) (h3 : c.op = 7) (h4 : (amtAdd l.total (nextL x c).amount).2 ≠ 0) : l.stepped x c = (l, 6) := by
  unfold Lg.stepped
  rw [if_neg h, if_neg h2, if_neg (fun k => k h3), if_pos h4]
theorem cn_ (h : ¬ (x.step c.op c.a c.b c.text).2 ≠ 0) (h2 : ¬ (l.with_ (nextL x c)).2 ≠ 0) (h3 : c.op = 7) (h4 : ¬ (amtAdd l.total (nextL x c).amount).2 ≠ 0) : l.stepped x c = ({ (l.with_ (nextL x c)).1 with total := (amtAdd l.total (nextL x c).amount).1 }, 0) := by
  unfold Lg.stepped
  rw [if_neg h, if_neg h2, if_neg (fun k => k h3), if_neg h4]
theorem dF_ {y : Ltr} (h : ¬ (l.with_ y).2 ≠ 0) : (l.with_ y).1 = l.putL y ∧ nameB y.name = true ∧ (l.putL y).ls.length ≤ 16 := by
  unfold Lg.with_ at h ⊢
  split at h
  · exact absurd (by decide) h
  · next h1 =>
    split at h
    · exact absurd (by decide) h
    · next h2 =>
      rw [if_neg h1, if_neg h2]
      exact ⟨rfl, by simpa using h1, by omega⟩
theorem cG_ {y : Ltr} (h : ¬ (l.with_ y).2 ≠ 0) : (l.with_ y).1.total = l.total := by rw [(dF_ h).1]; rfl
theorem jd_ : (l.stepped x c).1.os = l.os := by
  unfold Lg.stepped
  split
  · rfl
  · split
    · rfl
    · next h =>
      have h1 := (dF_ h).1
      split
      · (show (l.with_ (nextL x c)).1.os = l.os; rw [h1]; rfl)
      · split
        · rfl
        · (show (l.with_ (nextL x c)).1.os = l.os; rw [h1]; rfl)
theorem je_ : (l.stepped x c).1.ls.length ≤ l.ls.length + 1 := by
  have hw : ∀ y : Ltr, (l.putL y).ls.length ≤ l.ls.length + 1 := fun y => bU_ _
  unfold Lg.stepped
  split
  · exact Nat.le_succ _
  · split
    · exact Nat.le_succ _
    · next h =>
      have h1 := (dF_ h).1
      split
      · rw [h1]; exact hw _
      · split
        · exact Nat.le_succ _
        · show (l.with_ (nextL x c)).1.ls.length ≤ _
          rw [h1]; exact hw _
theorem fQ_ : (l.res e n).1.ls.length ≤ l.ls.length + 1 ∧ (l.res e n).1.os = l.os := by
  unfold Lg.res
  split
  · exact ⟨Nat.le_succ _, rfl⟩
  · split
    · exact ⟨Nat.le_succ _, rfl⟩
    · exact ⟨je_, jd_⟩
theorem doF_len : (l.doF e n).1.ls.length ≤ l.ls.length + 1 ∧ (l.doF e n).1.os.length ≤ l.os.length + 1 := by
  unfold Lg.doF
  split
  · exact ⟨Nat.le_succ _, Nat.le_succ _⟩
  · split
    · exact ⟨Nat.le_succ _, Nat.le_succ _⟩
    · refine ⟨(fQ_ (e := e) (n := n)).1, ?_⟩
      show (withG _ _ _ (l.res e n).1.os).length ≤ _
      rw [(fQ_ (e := e) (n := n)).2]
      exact bU_ _
theorem hn_ : (l.stepped x c).1.seq = l.seq := by
  unfold Lg.stepped
  split
  · rfl
  · split
    · rfl
    · next h =>
      have h1 := (dF_ h).1
      split
      · (show (l.with_ (nextL x c)).1.seq = l.seq; rw [h1]; rfl)
      · split
        · rfl
        · (show (l.with_ (nextL x c)).1.seq = l.seq; rw [h1]; rfl)
theorem doF_seq : (l.doF e n).1.seq = l.seq := by
  unfold Lg.doF
  split
  · rfl
  · split
    · rfl
    · show (l.res e n).1.seq = _
      unfold Lg.res
      split
      · rfl
      · split
        · rfl
        · exact hn_
theorem putL_wf {y : Ltr} (h : l.Wf) (hy : y.Wf) : (l.putL y).Wf := ⟨h.seq, h.total, fun z hz => by
  rcases ei_ hz with rfl | hz
  · exact hy
  · exact h.ls z hz⟩
theorem jc_ (h : l.Wf) (hx : x.Wf) : (l.stepped x c).1.Wf := by
  unfold Lg.stepped
  split
  · exact h
  · split
    · exact h
    · next h2 =>
      have h1 := (dF_ h2).1
      have hs := fM_ (op := c.op) (a := c.a) (b := c.b) (t := c.text) hx
      have hw : (l.with_ (nextL x c)).1.Wf := by
        rw [h1]
        exact putL_wf h ⟨hs.state, hs.amount, hs.due⟩
      split
      · exact hw
      · split
        · exact h
        · exact ⟨hw.seq, bZ_ (e0_ _ _), hw.ls⟩
theorem doF_wf (h : l.Wf) : (l.doF e n).1.Wf := by
  unfold Lg.doF
  split
  · exact h
  · split
    · exact h
    · have : (l.res e n).1.Wf := by
        unfold Lg.res
        split
        · exact h
        · split
          · exact h
          · exact jc_ h (Lg.old_wf h _)
      exact ⟨this.seq, this.total, this.ls⟩
def oldAt (l : Lg) (e : Ent) : Nat → Ltr
  | 0 => Ltr.none
  | _ => l.old e.core.letter
def lgAt (l : Lg) (e : Ent) : Nat → Lg
  | 3 => (l.stepped (l.old e.core.letter) e.core).1
  | _ => l
def erAt (l : Lg) (e : Ent) (n : Int) : Nat → Int
  | 0 => l.known e.core
  | 1 => endorsedF (l.old e.core.letter) e n
  | _ => (l.stepped (l.old e.core.letter) e.core).2
theorem dV_ {l : Lg} {x : Ltr} {c : Core} (h : (l.stepped x c).2 ≠ 0) : (l.stepped x c).1 = l := by
  unfold Lg.stepped at h ⊢
  split
  · rfl
  · next h1 =>
    rw [if_neg h1] at h
    split
    · rfl
    · next h2 =>
      rw [if_neg h2] at h
      split
      · next h3 => rw [if_pos h3] at h; exact absurd rfl h
      · next h3 =>
        rw [if_neg h3] at h
        split
        · rfl
        · next h4 => rw [if_neg h4] at h; exact absurd rfl h
theorem res_stop {z : Nat} (hz : z < 3) (h : ∀ j, j < z → erAt l e n j = 0) (h2 : erAt l e n z ≠ 0) : l.res e n = (l, erAt l e n z) := by
  unfold Lg.res
  rcases (by omega : z = 0 ∨ z = 1 ∨ z = 2) with rfl | rfl | rfl
  · rw [if_pos (show l.known e.core ≠ 0 from h2)]; rfl
  · rw [if_neg (fun k : l.known e.core ≠ 0 => k (h 0 (by omega))), if_pos (show endorsedF _ e n ≠ 0 from h2)]; rfl
  · rw [if_neg (fun k : l.known e.core ≠ 0 => k (h 0 (by omega))), if_neg (fun k : endorsedF _ e n ≠ 0 => k (h 1 (by omega)))]
    exact Prod.ext (dV_ h2) rfl
theorem res_end (h : ∀ j, j < 3 → erAt l e n j = 0) : l.res e n = (lgAt l e 3, 0) := by
  unfold Lg.res
  rw [if_neg (fun k : l.known e.core ≠ 0 => k (h 0 (by omega))), if_neg (fun k : endorsedF _ e n ≠ 0 => k (h 1 (by omega)))]
  exact Prod.ext rfl (h 2 (by omega))
theorem kt_ {z : Nat} (hz : z < 3) (h2 : erAt l e n z ≠ 0) : lgAt l e (z + 1) = l := by
  rcases (by omega : z = 0 ∨ z = 1 ∨ z = 2) with rfl | rfl | rfl
  · rfl
  · rfl
  · exact dV_ h2
end
def cutS (s : Nat) : Value → Nat → Value
  | .slice (some a) n c, q => .slice (some (if c = q then a else ⟨a.block, a.off + q * s, none⟩)) (n - q) (c - q)
  | .slice none n c, q => .slice none (n - q) (c - q)
  | v, _ => v
def capV : Value → Nat
  | .slice _ _ c => c
  | _ => 0
def chunks (s : Nat) : Nat → List Value → List (List Abs)
  | 0, _ => []
  | m + 1, l => (l.take s).map .v :: chunks s m (l.drop s)
theorem cS_ (s : Nat) : ∀ (m : Nat) (l : List Value), (chunks s m l).length = m
  | 0, _ => rfl
  | m + 1, l => by simp [chunks, cS_ s m]
theorem gA_ {K : List Nat} {w : World} : ∀ l : List Value, reps K w (l.map .v) l
  | [] => rfl
  | u :: l => ⟨u, l, rfl, rfl, gA_ l⟩
theorem ct_ {K : List Nat} {w : World} {s : Nat} : ∀ (m : Nat) (l : List Value), l.length = m * s → repss K w s (chunks s m l) l
  | 0, l, h => by
    rw [Nat.zero_mul] at h
    exact List.length_eq_zero_iff.1 h
  | m + 1, l, h => by
    rw [Nat.succ_mul] at h
    exact ⟨l.take s, l.drop s, (List.take_append_drop s l).symm, by rw [List.length_take]; omega, gA_ _, ct_ m _ (by rw [List.length_drop]; omega)⟩
theorem cs_ {K : List Nat} {w : World} {s : Nat} {xs : List (List Abs)} {us : List Value} (h : repss K w s xs us) (q : Nat) (hq : q ≤ xs.length) : repss K w s (xs.take q) (us.take (q * s)) ∧ repss K w s (xs.drop q) (us.drop (q * s)) := by
  have h1 := h
  rw [← List.take_append_drop q xs] at h1
  obtain ⟨u1, u2, e, h2, h3⟩ := c8_ h1
  have hl := aY_ h2
  rw [List.length_take, Nat.min_eq_left hq] at hl
  subst e
  rw [← hl, List.take_left, List.drop_left]
  exact ⟨h2, h3⟩
theorem ey_ {K : List Nat} {w : World} {s : Nat} : ∀ {ys : List (List Abs)} {news : List Value}, (∀ c ∈ ys, ones c = true) → repss K w s ys news → ∀ u ∈ news, u.oneCell' = true
  | [], news, _, h, u, hu => by
    have : news = [] := h
    subst this
    cases hu
  | c :: ys, _, ho, ⟨u1, u2, h1, _, h3, h4⟩, u, hu => by
    subst h1
    rcases List.mem_append.1 hu with hu | hu
    · exact b7_ h3 (ho c (by simp)) u hu
    · exact ey_ (fun c hc => ho c (by simp [hc])) h4 u hu
theorem jh_ {P : Program} (w : World) (dT sT ty elem : TypeId) (g o dLen dCap : Nat) (a : Addr) (sLen sCap : Nat) (cur : Array Value) (t : TypeId) (cs : List Value) {I : TypeInfo}
    (hu : P.underlying dT = some (.slice elem)) (hq : P.info? elem = some I) (hg : w.heap[g]? = some (.cells cur t (0, 0))) (hn : cs.length = Nat.min sLen dLen * I.size)
    (hsrc : ∀ j v, cs[j]? = some v → w.cell? (a.add j) = some v) (hfit : o + cs.length ≤ cur.size) (h1 : ∀ v ∈ cs, v.oneCell' = true) :
    (Builtin.copy_ #[dT, sT] ty #[.slice (some ⟨g, o, none⟩) dLen dCap, .slice (some a) sLen sCap]).run P w = .ok (goInt (Nat.min sLen dLen)) (w.setRow g (cur.toList.take o ++ cs ++ cur.toList.drop (o + cs.length)).toArray) := by
  have hl := run_loadCells_list (P := P) w a cs hsrc
  have hst := run_storeCells_at P g o t cs 0 cur w hg (by simpa using hfit) h1
  simp [Builtin.copy_, run_underlying hu, Builtin.lenOf, Builtin.firstCells, sizeOf, typeInfo, hq, ← hn, hl, hst]
section
variable {P : Program} {n : Nat} {W : Wd} {σ τ : Blks} {l : Slots} {X : List Nat} {x y : Operand} {d : Option Nat} {ty t t' e e' : TypeId} {pos : String} {aft : Array Edge} {g : Option (Nat × Bool)} {v u : Value} {k : IntKind} {tab : List (Nat × TI)} {xs ys : List (List Abs)} {s q : Nat} {ops : Array Oper} {rest : List Oper} {Q : Exit → Act → World → Prop}
theorem bD_ {w : World} {a : Act} (hs : St n W σ l a w) (hb : own e s v xs ∈ σ) : ∃ us, w.ownsRow 0 e s v xs.length us ∧ repss (mids σ ++ W.G) w s xs us := hs.mem.hold _ hb
theorem fl_ {w : World} {m : Nat} {us : List Value} (h : w.ownsRow 0 e s v m us) : ∃ A c, v = .slice A m c ∧ m ≤ c := by
  rcases h.2 with ⟨rfl, h0⟩ | ⟨gb, cap, cur, rfl, _, _, hn, _⟩
  · exact ⟨none, 0, by rw [h0], by omega⟩
  · exact ⟨_, cap, rfl, hn⟩
theorem aV_ (hT : TabOk P tab) {j : TI} (hu : P.underlying t = some (.slice e)) (hj : ti tab e = some j) (h1 : Nat.beq j.size s = true) (hx : look l x = some (.v v)) (hb : own e' s v xs ∈ σ) {r : Int} (hy : look l y = some (.v (.int k r))) (hr : r = (q : Nat)) (hq : q ≤ xs.length) :
    Val P n W σ l X ⟨d, .slice t x (some y) none none, ty, pos, aft, g⟩ (.v (cutS s v q)) := fun a w hs _ => by
  subst hr
  have h1 := Nat.eq_of_beq_eq_true h1
  obtain ⟨us, hr1, _⟩ := bD_ hs hb
  rcases hr1.2 with ⟨rfl, h0⟩ | ⟨gb, c, cur, rfl, _, _, hn, _⟩
  · have hq0 : q = 0 := by omega
    subst hq0
    refine ⟨_, rfl, fun w' _ => ?_⟩
    have h7 := (hT _ _ hj).sizeOf (w := w')
    have e1 : a.eval x = .slice none 0 0 := hs.plain hx
    have e2 : a.eval y = .int k ((0 : Nat) : Int) := hs.plain hy
    simp [execOp, Instr.sliceAt, Instr.slice, Instr.sliceBounds, Instr.sliceBound, asIntOf, e1, e2, run_underlying hu, Sem.run_bind, Result.andThen, h7, cutS]
  · refine ⟨_, rfl, fun w' _ => ?_⟩
    have h7 := (hT _ _ hj).sizeOf (w := w')
    have e1 : a.eval x = .slice (some ⟨gb, 0, none⟩) xs.length c := hs.plain hx
    have e2 : a.eval y = .int k ((q : Nat) : Int) := hs.plain hy
    by_cases hc : c = q <;> simp [execOp, Instr.sliceAt, Instr.slice, Instr.sliceBounds, Instr.sliceBound, asIntOf, e1, e2, run_underlying hu, Sem.run_bind, Result.andThen, h7, h1, hq, hc, Addr.add, cutS]
    try omega
theorem hk_ (hT : TabOk P tab) {j : TI} (hu : P.underlying t = some (.slice e)) (hj : ti tab e = some j) (hx : look l x = some (.v v)) (hb : own e' s v xs ∈ σ) {r : Int} (hy : look l y = some (.v (.int k r))) (hr : r = (q : Nat)) (hq : q ≤ capV v) :
    Val P n W σ l X ⟨d, .slice t x none (some y) none, ty, pos, aft, g⟩ (.v (cutTo v q)) := fun a w hs _ => by
  subst hr
  obtain ⟨us, hr1, _⟩ := bD_ hs hb
  obtain ⟨A', c, rfl, _⟩ := fl_ hr1
  refine ⟨_, rfl, fun w' _ => ?_⟩
  have h7 := (hT _ _ hj).sizeOf (w := w')
  have e1 : a.eval x = .slice A' xs.length c := hs.plain hx
  have e2 : a.eval y = .int k ((q : Nat) : Int) := hs.plain hy
  have hq' : q ≤ c := hq
  have h8 : ∀ a : Addr, a.spot = none → a.add 0 = a := fun a ha => by obtain ⟨b, o, r⟩ := a; cases ha; rfl
  rcases Nat.eq_zero_or_pos c with hc | hc
  · subst hc
    obtain rfl : q = 0 := by omega
    cases A' <;> simp [execOp, Instr.sliceAt, Instr.slice, Instr.sliceBounds, Instr.sliceBound, asIntOf, e1, e2, run_underlying hu, Sem.run_bind, Result.andThen, h7, cutTo]
  · have hc : ¬ c = 0 := by omega
    cases A' with
    | none => simp [execOp, Instr.sliceAt, Instr.slice, Instr.sliceBounds, Instr.sliceBound, asIntOf, e1, e2, run_underlying hu, Sem.run_bind, Result.andThen, h7, hq', cutTo, hc]
    | some A =>
      have hA : A.spot = none := by
        rcases hr1.2 with ⟨h, _⟩ | ⟨gb, cap, cur, h, _⟩
        · cases h
        · cases h; rfl
      simp [execOp, Instr.sliceAt, Instr.slice, Instr.sliceBounds, Instr.sliceBound, asIntOf, e1, e2, run_underlying hu, Sem.run_bind, Result.andThen, h7, hq', cutTo, hc, h8 A hA]
theorem fH_ (hx : look l x = some (.v v)) (hb : own e' s v xs ∈ σ) (ht : P.underlying t = some (.slice e)) : Val P n W σ l X ⟨d, .call { callee := .builtin .cap, args := #[x], argTypes := #[t] }, ty, pos, aft, g⟩ (.v (.int .i64 (capV v : Nat))) := fun a w hs _ => by
  obtain ⟨us, hr1, _⟩ := bD_ hs hb
  obtain ⟨A', c, rfl, _⟩ := fl_ hr1
  refine ⟨_, rfl, fun w' _ => ?_⟩
  have e1 : a.eval x = .slice A' xs.length c := hs.plain hx
  simp [execOp, resolve, invoke, builtin, Builtin.cap_, e1, run_underlying ht, Sem.run_bind, Result.andThen, goInt, capV]
theorem St.growOwn {a : Act} {w : World} (h : St n W σ l a w) (hb : own e s v xs ∈ σ) (hq : xs.length ≤ q) (hc : q ≤ capV v) : ∃ js : List (List Abs), js.length + xs.length = q ∧ ∀ τ, Upd (own e s v xs) (own e s (cutTo v q) (xs ++ js)) σ τ → St n W τ l a w := by
  obtain ⟨us, hown, hr⟩ := bD_ h hb
  rcases hown.2 with ⟨rfl, h0⟩ | ⟨gb, cap, cur, rfl, hbase, hg, hn, hcap, hsz, htk⟩
  · have hq0 : q = 0 := by simp only [capV] at hc; omega
    refine ⟨[], by simp; omega, fun τ hu => ?_⟩
    have hx0 : xs = [] := List.length_eq_zero_iff.1 h0
    subst hx0 hq0
    have := d4_ (x := own e s (.slice none 0 0) []) hu
    rw [this]
    exact h
  · simp only [capV] at hc
    have hle : q * s ≤ cap * s := Nat.mul_le_mul_right _ hc
    have hle2 : xs.length * s ≤ q * s := Nat.mul_le_mul_right _ hq
    have hjl : ((cur.toList.take (q * s)).drop (xs.length * s)).length = (q - xs.length) * s := by
      rw [List.length_drop, List.length_take, Nat.min_eq_left (by simp; omega), Nat.sub_mul]
    refine ⟨chunks s (q - xs.length) ((cur.toList.take (q * s)).drop (xs.length * s)), by rw [cS_]; omega, fun τ hu => ?_⟩
    have hl : (xs ++ chunks s (q - xs.length) ((cur.toList.take (q * s)).drop (xs.length * s))).length = q := by rw [List.length_append, cS_]; omega
    have hm := h.mem.upd hu (Ext.refl w) bm_ (fun k hk => .inl (by simpa [It.mids, ownPc, hR_] using hk)) rfl fun hca => by
      refine ⟨cur.toList.take (q * s), ⟨?_, .inr ⟨gb, cap, cur, ?_, hbase, hg, by rw [hl]; exact hc, hcap, hsz, by rw [hl]⟩⟩, ?_⟩
      · rw [hl, List.length_take, Nat.min_eq_left (by simp; omega)]
      · rw [hl]; rfl
      · have e1 : cur.toList.take (q * s) = us ++ (cur.toList.take (q * s)).drop (xs.length * s) := by
          rw [← htk]
          have := List.take_append_drop (xs.length * s) (cur.toList.take (q * s))
          rw [List.take_take, Nat.min_eq_left hle2] at this
          exact this.symm
        rw [e1]
        refine bg_ (av_ hca _ _ _ hr) ?_
        rw [← e1]
        exact ct_ _ _ hjl
    exact h.to hm.1 hm.2
theorem fI_ {c : Code} (hb : own e s v xs ∈ σ) (hq : xs.length ≤ q) (hc : q ≤ capV v) (k : ∀ (js : List (List Abs)), js.length + xs.length = q → ∃ τ, Upd (own e s v xs) (own e s (cutTo v q) (xs ++ js)) σ τ ∧ SC P c (St n W τ l) Q) : SC P c (St n W σ l) Q := fun a w h => by
  obtain ⟨js, h1, h2⟩ := h.growOwn hb hq hc
  obtain ⟨τ, h3, h4⟩ := k js h1
  exact h4 a w (h2 τ h3)
theorem cB_ {f : FuncId} {fn : Func} {ats : Array TypeId} {tr : TypeId} {α β : Blks} (hf : P.funcs[f]? = some fn) (h1 : (fn.name == "runtime.NumGoroutine") = false) (h2 : fn.body.isNone = true) (h3 : Extern.findNext fn = none) (h4 : Extern.find fn = some (Extern.SlicesOverlaps.overlaps #[t, t] #[tr]))
    (hT : TabOk P tab) {j : TI} (hu : P.underlying t = some (.slice e)) (hj : ti tab e = some j) (hsz : Nat.beq j.size s = true) (hpos : Nat.blt 0 s = true)
    (hx : look l x = some (.v u)) (hy : look l y = some (.v (cutS s v q))) (hσ : σ = α ++ own e s v xs :: β) (hb : own e s u ys ∈ α ++ β) (hys : 0 < ys.length) (hq : q < xs.length) :
    Val P n W σ l [] ⟨d, .call { callee := .value (.func f), args := #[x, y], argTypes := ats }, ty, pos, aft, g⟩ (.v (.bool false)) := fun a w hs _ => by
  have hsz := Nat.eq_of_beq_eq_true hsz
  have hpos : 0 < s := by simpa [Nat.blt_eq] using hpos
  have hbv : own e s v xs ∈ σ := by rw [hσ]; simp
  have hbu : own e s u ys ∈ σ := by
    rw [hσ]
    rcases List.mem_append.1 hb with h | h
    · simp [h]
    · simp [h]
  obtain ⟨us, hv, _⟩ := bD_ hs hbv
  obtain ⟨us2, hu2, _⟩ := bD_ hs hbu
  rcases hv.2 with ⟨_, h0⟩ | ⟨gb, cap, cur, rfl, _, hg, hn, _, hcs, _⟩
  · omega
  rcases hu2.2 with ⟨_, h0⟩ | ⟨gb2, cap2, cur2, rfl, _, hg2, hn2, _, hcs2, _⟩
  · omega
  have hne : gb2 ≠ gb := fun he => by
    have hnd := hs.mem.nodup
    rw [hσ, ak_, aB_, List.nodup_append, List.nodup_append] at hnd
    subst he
    have hk : gb2 ∈ (own e s (.slice (some ⟨gb2, 0, none⟩) xs.length cap) xs).mids := by simp [It.mids, ownPc, Value.ownBlock]
    have hk2 : gb2 ∈ (own e s (.slice (some ⟨gb2, 0, none⟩) ys.length cap2) ys).mids := by simp [It.mids, ownPc, Value.ownBlock]
    rcases List.mem_append.1 hb with h | h
    · exact hnd.2.2 gb2 (a2_.2 ⟨_, h, hk2⟩) gb2 (List.mem_append_left _ hk) rfl
    · exact hnd.2.1.2.2 gb2 hk gb2 (a2_.2 ⟨_, h, hk2⟩) rfl
  refine ⟨_, rfl, fun w' hw' => ?_⟩
  have hg' : w'.heap[gb]? = some (.cells cur e (0, 0)) := (hw'.block gb (bY_ hg) (by simp)).trans hg
  have hg2' : w'.heap[gb2]? = some (.cells cur2 e (0, 0)) := (hw'.block gb2 (bY_ hg2) (by simp)).trans hg2
  have hcq : ¬ cap = q := by omega
  have e1 : a.eval x = .slice (some ⟨gb2, 0, none⟩) ys.length cap2 := hs.plain hx
  have e2 : a.eval y = .slice (some ⟨gb, 0 + q * s, none⟩) (xs.length - q) (cap - q) := by
    have := hs.plain hy
    simp only [cutS, hcq, if_false] at this
    exact this
  have hpos2 : 0 < cur.size := by
    rw [hcs]
    exact Nat.mul_pos (by omega) hpos
  have hrun := Lib.run_overlaps_apart (P := P) w' t tr e hu j.size (fun w => (hT _ _ hj).sizeOf (w := w)) ⟨gb2, 0, none⟩ ⟨gb, 0 + q * s, none⟩ ys.length cap2 (xs.length - q) (cap - q) hne e e cur2.size cur.size
    (by simp [World.shape?, hg2']) (by simp [World.shape?, hg']) (by omega) (by simp [World.frozen?, hg2']) (by simp [World.frozen?, hg2'])
  have hcf := run_callFunc_extern hf h1 h2 h3 h4 #[a.eval x, a.eval y] w'
  rw [e1, e2, hrun] at hcf
  have hfn : a.eval (.func f) = .func (.func f) #[] #[] := rfl
  simp only [Result.andThen, Nat.zero_add] at hcf
  simp [execOp, resolve, hfn, Deferred.ofValue, invoke, e1, e2, hcf, Sem.run_bind, Result.andThen]
def Src (n : Nat) (W : Wd) (σ : Blks) (l : Slots) (y : Operand) (s m : Nat) (ys : List (List Abs)) : Prop := ∀ a w, St n W σ l a w → ∃ A M c news, a.eval y = .slice (some A) M c ∧ min M m = ys.length ∧ repss (mids σ ++ W.G) w s ys news ∧ ∀ j u, news[j]? = some u → w.cell? (A.add j) = some u
theorem Src.ofOwn {m : Nat} (hy : look l y = some (.v (cutS s v q))) (hb : own e s v xs ∈ σ) (hq : q < xs.length) (hm : min (xs.length - q) m = ys.length) (he : (xs.drop q).take ys.length = ys) : Src n W σ l y s m ys := fun a w hs => by
  obtain ⟨us, hv, hr⟩ := bD_ hs hb
  rcases hv.2 with ⟨_, h0⟩ | ⟨gb, cap, cur, rfl, _, hg, hn, _, hcs, htk⟩
  · omega
  have hcq : ¬ cap = q := by omega
  have e2 : a.eval y = .slice (some ⟨gb, 0 + q * s, none⟩) (xs.length - q) (cap - q) := by
    have := hs.plain hy
    simp only [cutS, hcq, if_false] at this
    exact this
  have hr2 := (cs_ (cs_ hr q (by omega)).2 ys.length (by rw [List.length_drop, ← hm]; exact Nat.min_le_left _ _)).1
  rw [he] at hr2
  refine ⟨_, _, _, _, e2, hm, hr2, fun j u hj => ?_⟩
  rw [List.getElem?_take] at hj
  split at hj
  · rw [List.getElem?_drop] at hj
    rw [Addr.add_none, ← htk, List.getElem?_take] at *
    split at hj
    · simp only [World.cell?, hg]
      simpa [Nat.zero_add] using hj
    · cases hj
  · cases hj
theorem Src.ofAll {m : Nat} (hy : look l y = some (.v v)) (hb : own e s v xs ∈ σ) (hq : 0 < xs.length) (hm : min xs.length m = xs.length) : Src n W σ l y s m xs := fun a w hs => by
  obtain ⟨us, hv, hr⟩ := bD_ hs hb
  rcases hv.2 with ⟨_, h0⟩ | ⟨gb, cap, cur, rfl, _, hg, hn, _, hcs, htk⟩
  · omega
  refine ⟨_, _, _, _, hs.plain hy, hm, hr, fun j u hj => ?_⟩
  rw [Addr.add_none, ← htk, List.getElem?_take] at *
  split at hj
  · simp only [World.cell?, hg]
    simpa using hj
  · cases hj
theorem bj_ (hT : TabOk P tab) {j : TI} {zs : List (List Abs)} (hu : P.underlying t = some (.slice e)) (hj : ti tab e = some j) (hsz : Nat.beq j.size s = true) (hx : look l x = some (.v (cutS s v q))) (hq : q < xs.length) (hsrc : Src n W σ l y s (xs.length - q) ys) (h1 : ∀ c ∈ ys, ones c = true) (hz : xs.take q ++ ys ++ xs.drop (q + ys.length) = zs) (hup : Upd (own e s v xs) (own e s v zs) σ τ) :
    Eff P n W σ l v.ownBlock.toList ⟨d, .call { callee := .builtin .copy, args := #[x, y], argTypes := #[t, t'] }, ty, pos, aft, g⟩ fun r τ' => r = .v (.int .i64 (ys.length : Nat)) ∧ τ' = τ := fun a w hs => by
  have hsz := Nat.eq_of_beq_eq_true hsz
  obtain ⟨us, hown, hr⟩ := bD_ hs hup.mem
  obtain ⟨A, M, c, news, e2, hm, hr2, hc2⟩ := hsrc a w hs
  have hm : Nat.min M (xs.length - q) = ys.length := hm
  have hlen2 := aY_ hr2
  have hone := ey_ h1 hr2
  have hfit : q + ys.length ≤ xs.length := by
    have : Nat.min M (xs.length - q) ≤ xs.length - q := Nat.min_le_right _ _
    omega
  obtain ⟨I, hI, hIs, _⟩ := (hT e j hj).info
  rcases hown.2 with ⟨_, h0⟩ | ⟨gb, cap, cur, rfl, hbase, hg, hn, hcap, hcs, htk⟩
  · omega
  have hcq : ¬ cap = q := by omega
  have e1 : a.eval x = .slice (some ⟨gb, 0 + q * s, none⟩) (xs.length - q) (cap - q) := by
    have := hs.plain hx
    simp only [cutS, hcq, if_false] at this
    exact this
  have hb1 : q * s + ys.length * s ≤ xs.length * s := by rw [← Nat.add_mul]; exact Nat.mul_le_mul_right _ hfit
  have hb2 : xs.length * s ≤ cap * s := Nat.mul_le_mul_right _ hn
  have hrun := jh_ (P := P) w t t' ty e gb (0 + q * s) (xs.length - q) (cap - q) A M c cur e news hu hI hg (by rw [hm, hIs, hsz, hlen2]) hc2 (by omega) hone
  rw [hm] at hrun
  have hxx : Ext (Value.ownBlock (.slice (some ⟨gb, 0, none⟩) xs.length cap)).toList w (w.setRow gb (cur.toList.take (0 + q * s) ++ news ++ cur.toList.drop (0 + q * s + news.length)).toArray) := (Ext.refl w).setRow (.inl (by simp [Value.ownBlock])) _
  have hzl : zs.length = xs.length := by
    rw [← hz]
    simp only [List.length_append, List.length_take, List.length_drop]
    omega
  have hnew : (cur.toList.take (0 + q * s) ++ news ++ cur.toList.drop (0 + q * s + news.length)).take (xs.length * s) = us.take (q * s) ++ news ++ us.drop ((q + ys.length) * s) := by
    have hcl : cur.toList.length = cap * s := by simp [hcs]
    rw [← htk, Nat.zero_add, Nat.add_mul]
    rw [← hlen2] at hb1 ⊢
    generalize q * s = q' at *
    generalize xs.length * s = n' at *
    generalize cap * s = c' at *
    apply List.ext_getElem?
    intro j
    simp only [List.getElem?_take, List.getElem?_append, List.length_append, List.length_take, List.getElem?_drop]
    grind
  have hm2 := hs.mem.upd hup hxx bm_ (fun k hk => .inl (by simpa [It.mids, ownPc, Value.ownBlock] using hk)) rfl fun hca => by
    refine ⟨us.take (q * s) ++ news ++ us.drop ((q + ys.length) * s), ⟨?_, .inr ⟨gb, cap, _, by rw [hzl], hbase, setRow_heap w gb cur _ e (0, 0) hg, by rw [hzl]; exact hn, hcap, ?_, ?_⟩⟩, ?_⟩
    · rw [hzl, ← hnew, List.length_take]
      simp only [List.length_append, List.length_take, List.length_drop, Array.length_toList]
      omega
    · simp only [List.size_toArray, List.length_append, List.length_take, List.length_drop, Array.length_toList]
      omega
    · rw [hzl]
      simpa using hnew
    · rw [← hz]
      refine bg_ (bg_ ?_ (av_ hca _ _ _ hr2)) ?_
      · exact av_ hca _ _ _ (cs_ hr q (by omega)).1
      · exact av_ hca _ _ _ (cs_ hr (q + ys.length) (by omega)).2
  refine ⟨_, _, _, _, ⟨rfl, rfl⟩, hxx, rfl, hm2.1, hm2.2, .inl ?_⟩
  simp only [Nat.zero_add, List.append_assoc] at hrun e1 ⊢
  simp [execOp, resolve, invoke, builtin, e1, e2, hrun, Result.andThen, goInt]
theorem cF_ (hT : TabOk P tab) {j : TI} {m : Nat} {r : Int} {tn : TypeId} {kn : IntKind} (hu : P.underlying t = some (.slice e)) (htn : P.underlying tn = some (.int kn)) (hj : ti tab e = some j) (hsz : Nat.beq j.size s = true) (hpos : Nat.blt 0 s = true) (hx : look l x = some (.v (cutTo v q))) (hb : own e s v xs ∈ σ) (hy : look l y = some (.v (.int k r))) (hr : r = (m : Nat)) (hq : q < xs.length) (hm : 0 < m) (hroom : capV v < q + m) (hml : q + m ≤ maxLen) (hby : (q + m) * P.bytesOf e ≤ 140737488355328) :
    Eff P n W σ l [] ⟨d, .call { callee := .builtin .append, args := #[x, y], argTypes := #[t, tn] }, ty, pos, aft, g⟩ fun u τ => ∃ v' js, u = .v v' ∧ js.length = m ∧ τ = own e s v' (xs.take q ++ js) :: σ := fun a w hs => by
  subst hr
  have hsz := Nat.eq_of_beq_eq_true hsz
  have hpos : 0 < s := by simpa [Nat.blt_eq] using hpos
  obtain ⟨us, hown, hr⟩ := bD_ hs hb
  obtain ⟨I, hI, hIs, z, hz, hzc⟩ := (hT e j hj).info
  have hzl := (hT e j hj).len
  have hbi := gd_ hI
  rcases hown.2 with ⟨_, h0⟩ | ⟨gb, cap, cur, rfl, hbase, hg, hn, hcap, hcs, htk⟩
  · omega
  simp only [capV] at hroom
  have hqs : q * s ≤ xs.length * s := Nat.mul_le_mul_right _ (by omega)
  have hnc : xs.length * s ≤ cap * s := Nat.mul_le_mul_right _ hn
  have hul := hown.1
  have hold : (Builtin.firstCells I.size q (.slice (some ⟨gb, 0, none⟩) q cap)).run P w.drew = .ok (us.take (q * s)).toArray w.drew := by
    rw [hIs, hsz]
    refine run_firstCells_some (P := P) w.drew s q ⟨gb, 0, none⟩ q cap (us.take (q * s)) (by rw [List.length_take]; omega) fun i u hi => ?_
    rw [List.getElem?_take] at hi
    split at hi
    · rw [Addr.add_none]
      rw [← htk, List.getElem?_take] at hi
      split at hi
      · show w.cell? _ = _
        simp only [World.cell?, hg]
        simpa using hi
      · cases hi
    · cases hi
  have hrun := Lib.run_append_grow_zeros (P := P) w t tn ty e I z k kn hu htn hI hz (some ⟨gb, 0, none⟩) q cap (us.take (q * s)) hold m hm (by rw [hIs, hsz]; exact hpos) hroom (by unfold maxLen at hml; omega)
    (by rw [← hbi]; have : m * P.bytesOf e ≤ (q + m) * P.bytesOf e := Nat.mul_le_mul_right _ (by omega); omega) (growslice_fits hroom (by rw [← hbi]; exact hby))
  obtain ⟨G, hG⟩ : ∃ G, grownCap w (q + m) cap e = G := ⟨_, rfl⟩
  have hG1 : q + m ≤ G := hG ▸ grownCap_ge w _ _ _
  have hG2 : G ≤ maxLen := hG ▸ grownCap_le_maxLen w _ _ _ hml
  rw [hG] at hrun
  obtain ⟨ROW, hROW⟩ : ∃ ROW, (us.take (q * s)).toArray ++ Builtin.zeroCells z.cells m ++ Builtin.zeroCells z.cells (G - (q + m)) = ROW := ⟨_, rfl⟩
  rw [hROW] at hrun
  have hzs : z.cells.size = s := by rw [hzc, List.size_toArray, hzl, hsz]
  have hz1 : ∀ m, (Builtin.zeroCells z.cells m).size = m * s := fun m => by simp [Builtin.zeroCells, hzs]
  have hz2 : ∀ m, (Builtin.zeroCells z.cells m).toList.length = m * s := fun m => by rw [Array.length_toList, hz1]
  obtain ⟨js, hjs⟩ : ∃ js, chunks s m (Builtin.zeroCells z.cells m).toList = js := ⟨_, rfl⟩
  have hjl : js.length = m := by rw [← hjs, cS_]
  have hx0 : Ext [] w (w.drew.alloc (.cells ROW e)) := ((Ext.refl w).drew).alloc _
  have hrs : ROW.size = G * s := by
    rw [← hROW]
    simp only [Array.size_append, hz1, List.size_toArray, List.length_take]
    rw [Nat.min_eq_left (by omega), ← Nat.add_mul, ← Nat.add_mul]
    congr 1
    omega
  have hlen : (xs.take q ++ js).length = q + m := by
    rw [List.length_append, List.length_take, hjl]
    omega
  have hm2 := hs.mem.new (y := own e s (.slice (some ⟨w.heap.size, 0, none⟩) (q + m) G) (xs.take q ++ js)) hx0 bm_ (by simp [It.mids, ownPc, Value.ownBlock]) rfl fun hca => by
    refine ⟨us.take (q * s) ++ (Builtin.zeroCells z.cells m).toList, ⟨?_, .inr ⟨w.heap.size, G, ROW, by rw [hlen], by omega, ?_, by rw [hlen]; exact hG1, hG2, hrs, ?_⟩⟩, bg_ (av_ hca _ _ _ (cs_ hr q (by omega)).1) (hjs ▸ ct_ m _ (by rw [Array.length_toList, hz1]))⟩
    · rw [hlen, List.length_append, List.length_take, hz2, Nat.add_mul]
      omega
    · exact heap_alloc_new w.drew _
    · rw [hlen, ← hROW]
      simp only [Array.toList_append, List.append_assoc]
      rw [← List.append_assoc, List.take_append_of_le_length (by rw [List.length_append, List.length_take, hz2, Nat.add_mul]; omega), List.take_of_length_le (by rw [List.length_append, List.length_take, hz2, Nat.add_mul]; omega)]
  refine ⟨_, _, _, _, ⟨_, js, rfl, hjl, rfl⟩, hx0, rfl, hm2.1, hm2.2, .inl ?_⟩
  have e1 : a.eval x = .slice (some ⟨gb, 0, none⟩) q cap := hs.plain hx
  have e2 : a.eval y = .int k ((m : Nat) : Int) := hs.plain hy
  simp [execOp, resolve, invoke, builtin, e1, e2, hrun, Result.andThen]
end
theorem Casts.of_eq {xs ys : List Abs} (h : xs = ys) : Casts xs ys := h ▸ Casts.refl
section
variable {xs js : List (List Abs)} {y : List Abs} {i : Nat}
theorem ins_a (hi : i < xs.length) (hj : js.length = xs.length + 1 - i) : (xs.take i ++ js).take i ++ [y] ++ (xs.take i ++ js).drop (i + [y].length) = xs.take i ++ y :: js.drop 1 := by
  rw [List.take_append_of_le_length (by rw [List.length_take]; omega), List.take_take, Nat.min_self, List.drop_append, List.drop_of_length_le (by rw [List.length_take]; simp; omega), List.length_take, Nat.min_eq_left (by omega)]
  simp
theorem ins_b (hi : i < xs.length) (hj : js.length = xs.length + 1 - i) : (xs.take i ++ y :: js.drop 1).take (i + 1) ++ xs.drop i ++ (xs.take i ++ y :: js.drop 1).drop (i + 1 + (xs.drop i).length) = xs.take i ++ y :: xs.drop i := by
  have h1 : (xs.take i ++ y :: js.drop 1).drop (i + 1 + (xs.drop i).length) = [] := List.drop_of_length_le (by simp; omega)
  rw [h1, List.append_nil, List.take_append, List.length_take, Nat.min_eq_left (by omega), List.take_take, Nat.min_eq_right (by omega), Nat.add_sub_cancel_left, List.append_assoc]
  rfl
theorem ins_c (hi : i < xs.length) (hj : js.length + xs.length = xs.length + 1) : (xs ++ js).take (i + 1) ++ xs.drop i ++ (xs ++ js).drop (i + 1 + (xs.drop i).length) = (xs ++ js).take (i + 1) ++ xs.drop i := by
  have h1 : (xs ++ js).drop (i + 1 + (xs.drop i).length) = [] := List.drop_of_length_le (by simp; omega)
  rw [h1, List.append_nil]
theorem ins_d (hi : i < xs.length) (hj : js.length + xs.length = xs.length + 1) : ((xs ++ js).take (i + 1) ++ xs.drop i).take i ++ [y] ++ ((xs ++ js).take (i + 1) ++ xs.drop i).drop (i + [y].length) = xs.take i ++ y :: xs.drop i := by
  have h1 : ((xs ++ js).take (i + 1)).length = i + 1 := by rw [List.length_take, List.length_append]; omega
  rw [List.take_append_of_le_length (by omega), List.take_take, Nat.min_eq_left (by omega), List.take_append_of_le_length (by omega), List.drop_append, List.drop_of_length_le (by simp; omega), h1]
  simp
theorem kC_ (hi : i < xs.length) (hj : js.length + xs.length = xs.length + 1) : ((xs ++ js).take (i + 1) ++ xs.drop i).length = xs.length + 1 := by
  simp only [List.length_append, List.length_take, List.length_drop]
  omega
theorem kB_ (hi : i < xs.length) : ((xs ++ js).drop i).take (xs.drop i).length = xs.drop i := by
  rw [List.drop_append_of_le_length (by omega), List.take_left]
theorem kD_ (hi : i = xs.length) : xs ++ [y] = xs.take i ++ y :: xs.drop i := by
  subst hi
  simp
theorem d9_ (h1 : ∀ c ∈ xs, ones c = true) (q : Nat) : ∀ c ∈ xs.drop q, ones c = true := fun c hc => h1 c (List.mem_of_mem_drop hc)
end
section
variable {P : Program} {n : Nat} {W : Wd} {σ τ : Blks} {l : Slots} {X : List Nat} {x y : Operand} {d : Option Nat} {ty t e : TypeId} {pos : String} {aft : Array Edge} {g : Option (Nat × Bool)} {tab : List (Nat × TI)} {k k' : IntKind} {r : Int} {m : Nat} {z : Value}
theorem ib_ (hT : TabOk P tab) {j : TI} (hu : P.underlying t = some (.slice e)) (hj : ti tab e = some j) (hsz : Nat.beq j.size 1 = true) (hz : j.zero = [z]) (hx : look l x = some (.v (.int k r))) (hy : look l y = some (.v (.int k' r))) (hr : r = (m : Nat)) (hm : m ≤ maxLen) (hby : P.bytesOf e * m ≤ 281474976710656) :
    Eff P n W σ l [] ⟨d, .makeSlice t x y, ty, pos, aft, g⟩ fun u τ => ∃ v, u = .v v ∧ τ = own e 1 v (List.replicate m [.v z]) :: σ := fun a w hs => by
  subst hr
  have hsz := Nat.eq_of_beq_eq_true hsz
  obtain ⟨I, hI, hIs, zv, hzv, hzc⟩ := (hT e j hj).info
  have hbi := gd_ hI
  obtain ⟨w', hrun, h1, h2⟩ := run_make_full (P := P) w 0 t e I zv 1 hu hI hzv (by rw [hIs, hsz]) k k' m (by rw [← hbi]; exact hby) hm (Nat.zero_le _)
  have hxx : Ext [] w w' := gZ_ h2 (by simp)
  have hcs : (madeCells zv.cells (m * 1)).toList = List.replicate m z := by
    rw [hzc, hz, Nat.mul_one]
    apply List.ext_getElem
    · simp [size_madeCells]
    · intro i h3 h4
      simp [madeCells, Nat.mod_one]
  rw [hcs] at h1
  have hnew := hs.mem.new (y := own e 1 (.slice (some ⟨w.heap.size, 0, none⟩) m m) (List.replicate m [.v z])) hxx bm_ (by simp [It.mids, ownPc, Value.ownBlock]) rfl fun hc => ⟨List.replicate m z, by rw [List.length_replicate]; exact h1, gz_ m⟩
  refine ⟨_, w', _, _, ⟨_, rfl, rfl⟩, hxx, rfl, hnew.1, hnew.2, .inl ?_⟩
  simp [execOp, hs.plain hx, hs.plain hy, hrun, Result.andThen]
end
section
variable {P : Program} {n : Nat} {W : Wd} {σ : Blks} {l : Slots} {X : List Nat} {x y : Operand} {d : Option Nat} {ty t t' : TypeId} {pos : String} {aft : Array Edge} {g : Option (Nat × Bool)} {s r : ByteArray}
theorem Val.geS (hx : look l x = some (.v (.string s))) (hy : look l y = some (.v (.string r))) : Val P n W σ l X ⟨d, .binOp .geq t x y t', ty, pos, aft, g⟩ (.v (.bool (decide (¬ ltB s r)))) := fun a w hs _ => by
  refine ⟨_, rfl, fun w' _ => ?_⟩
  have key : decide (s.data < r.data) = !decide (r.data ≤ s.data) := by
    rw [Bool.eq_iff_iff]
    simp only [decide_eq_true_eq, Bool.not_eq_true', decide_eq_false_iff_not]
    exact ⟨fun h k => k h, fun h => Classical.byContradiction fun k => h k⟩
  simp [execOp, hs.plain hx, hs.plain hy, eqGuard, binOp, Op.stringOp, Proofs.bytesLess_eq, Lib.toList_data, ltB, key]
end
theorem wfI {a : Int} (h : i64ok a) : (Lit.int .i64 a).wf = true := by
  obtain ⟨h0, h1⟩ := h
  simp [Lit.wf, IntKind.min, IntKind.max, IntKind.signed, IntKind.bits]; omega
/-! ### Letters -/
structure LtIns (x : Ltr) : Prop extends x.Wf where
  name : x.name.size ≤ maxLen
  policy : x.policy.size ≤ maxLen
  papers : x.papers.size ≤ maxLen
def ltrLits (x : Ltr) : List Lit := [.string x.name.data.toList, .int .i64 x.state, .int .i64 x.amount, .int .i64 x.due, .string x.policy.data.toList, .string x.papers.data.toList]
theorem iz_ {x : Ltr} (h : LtIns x) : Tryz.prog.keyLits 4 81 x.cells.toList = some (ltrLits x) := by
  have h1 := wfI h.state
  have h2 := wfI h.amount
  have h3 := wfI h.due
  have h4 := h.name
  have h5 := h.policy
  have h6 := h.papers
  have c2 : Tryz.prog.cellsOf 81 = 6 := by kernel_rfl
  have c3 : Tryz.prog.cellsOf 9 = 1 := by kernel_rfl
  have c4 : Tryz.prog.cellsOf 3 = 1 := by kernel_rfl
  have c5 : Tryz.prog.cellsOf 2 = 1 := by kernel_rfl
  simp [Program.keyLits, Tryz.underlying81, Tryz.underlying9, Tryz.underlying3, Tryz.underlying2, c2, c3, c4, c5, Ltr.cells, ltrLits, h1, h2, h3, h4, h5, h6]
theorem fo_ (x : Ltr) : (Value.agg x.cells).formed Tryz.prog 81 = true := by kernel_rfl
theorem eY_ {a b : ByteArray} (h : a.data.toList = b.data.toList) : a = b := ek_ h
theorem hE_ {x y : Ltr} (h : ltrLits x = ltrLits y) : x = y := by
  simp only [ltrLits, List.cons.injEq, Lit.string.injEq, Lit.int.injEq, true_and, and_true] at h
  obtain ⟨h1, h2, h3, h4, h5, h6⟩ := h
  obtain ⟨a1, a2, a3, a4, a5, a6⟩ := x
  obtain ⟨b1, b2, b3, b4, b5, b6⟩ := y
  simp only [Ltr.mk.injEq]
  exact ⟨eY_ h1, h2, h3, h4, eY_ h5, eY_ h6⟩
noncomputable instance : DecidableEq Ltr := fun _ _ => Classical.propDecidable _
noncomputable instance : DecidableEq Oc := fun _ _ => Classical.propDecidable _
noncomputable instance : DecidableEq Lg := fun _ _ => Classical.propDecidable _
theorem neqLtr {x y : Ltr} (hx : LtIns x) (hy : LtIns y) (w : World) : (binOp .neq 81 (.agg x.cells.toList.toArray) (.agg y.cells.toList.toArray)).run Tryz.prog w = .ok (.bool (decide (x ≠ y))) w :=
  cr_ (m := 10) (by decide) (by kernel_rfl) (by simpa using fo_ x) (by simpa using fo_ y) (by simpa using iz_ hx) (by simpa using iz_ hy) _ (by
    rw [decide_eq_true_eq]
    exact ⟨fun h h2 => h (hE_ h2), fun h h2 => h (by rw [h2])⟩) w
theorem fn_ (x : Ltr) : plains (ltrA x) = some x.cells.toList := rfl
/-! ### Outcomes -/
structure OcIns (o : Oc) : Prop where
  client : i64ok o.client
  stamp : i64ok o.stamp
  result : i64ok o.result
def ocCells (o : Oc) : List Value := [.int .i64 o.client, .int .i64 o.stamp, .int .i64 o.result]
def ocLits (o : Oc) : List Lit := [.int .i64 o.client, .int .i64 o.stamp, .int .i64 o.result]
theorem kl_ {o : Oc} (h : OcIns o) : Tryz.prog.keyLits 4 40 (ocCells o) = some (ocLits o) := by
  have h1 := wfI h.client
  have h2 := wfI h.stamp
  have h3 := wfI h.result
  have c2 : Tryz.prog.cellsOf 40 = 3 := by kernel_rfl
  have c4 : Tryz.prog.cellsOf 3 = 1 := by kernel_rfl
  have c5 : Tryz.prog.cellsOf 2 = 1 := by kernel_rfl
  have c6 : Tryz.prog.cellsOf 35 = 1 := by kernel_rfl
  simp [Program.keyLits, Tryz.underlying40, Tryz.underlying3, Tryz.underlying2, Tryz.underlying35, c2, c4, c5, c6, ocCells, ocLits, h1, h2, h3]
theorem gI_ (o : Oc) : (Value.agg (ocCells o).toArray).formed Tryz.prog 40 = true := by kernel_rfl
theorem jp_ {x y : Oc} (h : ocLits x = ocLits y) : x = y := by
  simp only [ocLits, List.cons.injEq, Lit.int.injEq, true_and, and_true] at h
  obtain ⟨h1, h2, h3⟩ := h
  obtain ⟨a1, a2, a3⟩ := x
  obtain ⟨b1, b2, b3⟩ := y
  simp only [Oc.mk.injEq]
  exact ⟨h1, h2, h3⟩
theorem neqOc {x y : Oc} (hx : OcIns x) (hy : OcIns y) (w : World) : (binOp .neq 40 (.agg (ocCells x).toArray) (.agg (ocCells y).toArray)).run Tryz.prog w = .ok (.bool (decide (x ≠ y))) w :=
  cr_ (m := 10) (by decide) (by kernel_rfl) (gI_ x) (gI_ y) (by simpa using kl_ hx) (by simpa using kl_ hy) _ (by
    rw [decide_eq_true_eq]
    exact ⟨fun h h2 => h (jp_ h2), fun h h2 => h (by rw [h2])⟩) w
theorem b8_ (o : Oc) : plains o.abs = some (ocCells o) := rfl
/-! ### Ledgers as they come in -/
structure Lg.Ins (l : Lg) : Prop where
  seq : i64ok l.seq
  total : i64ok l.total
  ls : ∀ x ∈ l.ls, LtIns x
  os : ∀ o ∈ l.os, OcIns o
theorem Lg.Ins.wf {l : Lg} (h : l.Ins) : l.Wf := ⟨h.seq, h.total, fun x hx => (h.ls x hx).toWf⟩
structure EnIns (e : Ent) : Prop where
  client : i64ok e.core.client
  stamp : i64ok e.core.stamp
  op : i64ok e.core.op
  a : i64ok e.core.a
  b : i64ok e.core.b
  letter : e.core.letter.size ≤ maxLen
  text : e.core.text.size ≤ maxLen
  mask : e.mask < 4294967296
theorem none_ins : LtIns Ltr.none := ⟨eH_, Nat.zero_le _, Nat.zero_le _, Nat.zero_le _⟩
theorem Lg.zero_ins : Lg.zero.Ins := ⟨by show i64ok 0; unfold i64ok; omega, by show i64ok 0; unfold i64ok; omega, fun x hx => (by cases hx), fun x hx => (by cases hx)⟩
section
variable {l : Lg} {x : Ltr} {e : Ent} {c : Core} {n : Int} {op a b : Int} {t : ByteArray}
theorem does_ins (h : LtIns x) (ht : t.size ≤ maxLen) : LtIns (x.does op a b t).1 := by
  refine ⟨kV_ h.toWf, ?_, ?_, ?_⟩
  all_goals
    unfold Ltr.does Ltr.apply Ltr.amend
    repeat' split
    all_goals first | exact h.name | exact h.policy | exact h.papers | exact ht | exact Nat.zero_le _
theorem step_ins (h : LtIns x) (ht : t.size ≤ maxLen) : LtIns (x.step op a b t).1 := by
  have h1 := does_ins (op := op) (a := a) (b := b) h ht
  refine ⟨fM_ h.toWf, ?_, ?_, ?_⟩
  all_goals
    unfold Ltr.step
    repeat' split
    all_goals first | exact h1.name | exact h1.policy | exact h1.papers | exact Nat.zero_le _
theorem Lg.old_ins (h : l.Ins) (s : ByteArray) : LtIns (l.old s) := by
  unfold Lg.old Lg.find
  cases hf : l.ls.find? (eqL s) with
  | none => exact none_ins
  | some x => exact h.ls x (gX_ hf).1
theorem ho_ (h : l.Ins) (hx : LtIns x) (hc : c.letter.size ≤ maxLen) (ht : c.text.size ≤ maxLen) : (l.stepped x c).1.Ins := by
  unfold Lg.stepped
  split
  · exact h
  · split
    · exact h
    · next h2 =>
      have h1 := (dF_ h2).1
      have hs := step_ins (op := c.op) (a := c.a) (b := c.b) (t := c.text) hx ht
      have hw : (l.with_ (nextL x c)).1.Ins := by
        rw [h1]
        refine ⟨h.seq, h.total, fun y hy => ?_, h.os⟩
        rcases ei_ hy with rfl | hy
        · exact ⟨⟨hs.state, hs.amount, hs.due⟩, hc, hs.policy, hs.papers⟩
        · exact h.ls y hy
      split
      · exact hw
      · split
        · exact h
        · exact ⟨hw.seq, bZ_ (e0_ _ _), hw.ls, hw.os⟩
theorem gq_ {a : Int} (h : 0 ≤ a ∧ a ≤ 99) : i64ok a := by unfold i64ok; omega
theorem jE_ (a b : Int) : 0 ≤ (amtAdd a b).2 ∧ (amtAdd a b).2 ≤ 99 := by
  unfold amtAdd
  split
  · decide
  · split <;> (constructor <;> (dsimp only; omega))
theorem jD_ (a b : Int) : 0 ≤ (amtSub a b).2 ∧ (amtSub a b).2 ≤ 99 := by
  unfold amtSub
  split
  · decide
  · split <;> (constructor <;> (dsimp only; omega))
theorem step_err : 0 ≤ (x.step op a b t).2 ∧ (x.step op a b t).2 ≤ 99 := by
  unfold Ltr.step
  split
  · (constructor <;> (dsimp only; omega))
  · split
    · (constructor <;> (dsimp only; omega))
    · split
      · show 0 ≤ (x.does op a b t).2 ∧ (x.does op a b t).2 ≤ 99
        unfold Ltr.does Ltr.apply Ltr.amend Ltr.expire amtChange
        have h1 := jE_ x.amount a
        have h2 := jD_ x.amount (-a)
        repeat' split
        all_goals first | exact h1 | exact h2 | (constructor <;> (dsimp only; omega))
      · (constructor <;> (dsimp only; omega))
theorem with_err {y : Ltr} : 0 ≤ (l.with_ y).2 ∧ (l.with_ y).2 ≤ 99 := by
  unfold Lg.with_
  split
  · (constructor <;> (dsimp only; omega))
  · split
    · (constructor <;> (dsimp only; omega))
    · (constructor <;> (dsimp only; omega))
theorem j4_ : 0 ≤ (l.res e n).2 ∧ (l.res e n).2 ≤ 99 := by
  unfold Lg.res Lg.known endorsedF Lg.stepped
  repeat' split
  all_goals first | exact step_err | exact with_err | (constructor <;> (dsimp only; omega))
theorem res_ins (h : l.Ins) (he : EnIns e) : (l.res e n).1.Ins := by
  unfold Lg.res
  split
  · exact h
  · split
    · exact h
    · exact ho_ h (Lg.old_ins h _) he.letter he.text
theorem doF_ins (h : l.Ins) (he : EnIns e) : (l.doF e n).1.Ins := by
  unfold Lg.doF
  split
  · exact h
  · split
    · exact h
    · have h1 := res_ins (n := n) h he
      refine ⟨h1.seq, h1.total, h1.ls, fun o ho => ?_⟩
      rcases ei_ ho with rfl | ho
      · exact ⟨he.client, he.stamp, gq_ j4_⟩
      · exact h1.os o ho
end
/-! ### What may be -/
structure LtR (x : Ltr) : Prop where
  name : nameB x.name = true
  state : 1 ≤ x.state ∧ x.state ≤ 7
  amount : 1 ≤ x.amount ∧ x.amount ≤ 1099511627776
  due : isAmt x.due = true
  policy : x.policy.size ≤ 200
  papers : x.papers.size ≤ 200
structure OcR (o : Oc) : Prop where
  client : 0 ≤ o.client ∧ o.client ≤ 63
  stamp : 1 ≤ o.stamp ∧ o.stamp ≤ 1099511627776
  result : 0 ≤ o.result ∧ o.result ≤ 99
structure LtsR (ls : List Ltr) : Prop where
  each : ∀ j (h : j < ls.length), LtR ls[j]
  rise : ∀ j (h : j < ls.length), 0 < j → ltB (ls[j - 1]'(by omega)).name ls[j].name
structure OcsR (os : List Oc) : Prop where
  each : ∀ j (h : j < os.length), OcR os[j]
  rise : ∀ j (h : j < os.length), 0 < j → (os[j - 1]'(by omega)).client < os[j].client
structure Lg.Right (l : Lg) : Prop where
  os : OcsR l.os
  seq : 0 ≤ l.seq ∧ l.seq ≤ 1048576
  total : isAmt l.total = true
  few : l.os.length ≤ 4
  ls : LtsR l.ls
  lsFew : l.ls.length ≤ 16
noncomputable instance (ls : List Ltr) : Decidable (LtsR ls) := Classical.propDecidable _
noncomputable instance (os : List Oc) : Decidable (OcsR os) := Classical.propDecidable _
noncomputable instance (l : Lg) : Decidable l.Right := Classical.propDecidable _
theorem iH_ (n : Int) : ∀ (l : Lg) (xs ys : List Ent), Lg.goes n l (xs ++ ys) = ((Lg.goes n (Lg.goes n l xs).1 ys).1, (Lg.goes n l xs).2 ++ (Lg.goes n (Lg.goes n l xs).1 ys).2)
  | l, [], ys => rfl
  | l, e :: xs, ys => by
    rw [List.cons_append, Lg.goes, iH_ n _ xs ys, Lg.goes]
    rfl
theorem eO_ {n : Int} {l : Lg} {es : List Ent} {z : Nat} (h : z < es.length) : Lg.goes n l (es.take (z + 1)) = (((Lg.goes n l (es.take z)).1.doF es[z] n).1, (Lg.goes n l (es.take z)).2 ++ [((Lg.goes n l (es.take z)).1.doF es[z] n).2]) := by
  rw [List.take_succ_eq_append_getElem h, iH_]
  rfl
theorem cM_ (n : Int) : ∀ (l : Lg) (es : List Ent), (Lg.goes n l es).2.length = es.length
  | l, [] => rfl
  | l, e :: es => by rw [Lg.goes, List.length_cons, cM_ n _ es, List.length_cons]
theorem ea_ (n : Int) : ∀ (l : Lg) (es : List Ent), (Lg.goes n l es).1.ls.length ≤ l.ls.length + es.length ∧ (Lg.goes n l es).1.os.length ≤ l.os.length + es.length
  | l, [] => ⟨Nat.le_refl _, Nat.le_refl _⟩
  | l, e :: es => by
    have h1 := ea_ n (l.doF e n).1 es
    have h2 := doF_len (l := l) (e := e) (n := n)
    rw [Lg.goes, List.length_cons]
    dsimp only
    omega
theorem hM_ (n : Int) : ∀ {l : Lg} {es : List Ent}, l.Wf → (Lg.goes n l es).1.Wf
  | l, [], h => h
  | l, e :: es, h => hM_ n (es := es) (doF_wf (e := e) (n := n) h)
theorem iF_ (n : Int) : ∀ {l : Lg} {es : List Ent}, l.Ins → (∀ e ∈ es, EnIns e) → (Lg.goes n l es).1.Ins
  | l, [], h, _ => h
  | l, e :: es, h, he => iF_ n (es := es) (doF_ins (n := n) h (he e List.mem_cons_self)) fun x hx => he x (List.mem_cons_of_mem _ hx)
theorem dt_ (n : Int) : ∀ (l : Lg) (es : List Ent), (Lg.goes n l es).1.seq = l.seq
  | l, [] => rfl
  | l, e :: es => (dt_ n _ es).trans doF_seq
def errsA (n : Int) (l : Lg) (es : List Ent) (z : Nat) : List (List Abs) := (Lg.goes n l (es.take z)).2.map (fun x => [int x]) ++ List.replicate (es.length - z) [int 0]
theorem iM_ {n : Int} {l : Lg} {es : List Ent} {z : Nat} (h : z ≤ es.length) : (errsA n l es z).length = es.length := by
  unfold errsA
  rw [List.length_append, List.length_map, cM_, List.length_take, List.length_replicate]
  omega
theorem errs_set {n : Int} {l : Lg} {es : List Ent} {z : Nat} (h : z < es.length) : (errsA n l es z).set z [int ((Lg.goes n l (es.take z)).1.doF es[z] n).2] = errsA n l es (z + 1) := by
  unfold errsA
  rw [eO_ h]
  have hl : ((Lg.goes n l (es.take z)).2.map (fun x => [int x])).length = z := by rw [List.length_map, cM_, List.length_take]; omega
  obtain ⟨m, hm⟩ : ∃ m, es.length - z = m + 1 := ⟨es.length - z - 1, by omega⟩
  rw [List.set_append_right _ _ (by omega), hl, Nat.sub_self, hm, List.replicate_succ, List.set_cons_zero, show es.length - (z + 1) = m by omega]
  simp
theorem kQ_ {n : Int} {l : Lg} {es : List Ent} : errsA n l es es.length = (l.foldF es n).2.map fun x => [int x] := by
  unfold errsA Lg.foldF
  rw [List.take_length, Nat.sub_self, List.replicate_zero, List.append_nil]
structure FewC (l : Lg) (es : List Ent) : Prop where
  ls : ∀ j (h : j < l.ls.length), l.ls[j].name.size ≤ 100 ∧ l.ls[j].policy.size ≤ 300 ∧ l.ls[j].papers.size ≤ 300
  en : ∀ j (h : j < es.length), es[j].core.letter.size ≤ 100 ∧ es[j].core.text.size ≤ 300
  nl : l.ls.length ≤ 64
  no : l.os.length ≤ 64
  ne : es.length ≤ 40
noncomputable instance (l : Lg) (es : List Ent) : Decidable (FewC l es) := Classical.propDecidable _
abbrev entsR (es : List Ent) : Abs := .sl 8 (es.map entA)
abbrev errsR (l : List Int) : Abs := .sl 1 (l.map fun x => [int x])
def Other (k : IntKind) (G : List Nat) (w : World) : Prop := ∀ g ∈ G, ∀ (off : Nat) (i : Int), w.cell? ⟨g, off, none⟩ ≠ some (.int k i)
section
variable {G : List Nat} {w : World} {k : IntKind}
theorem _root_.Go.Proofs.YtickdhjljpnlpaaGreatDoor.IsRow.into {v : Value} {n : Nat} {cs : List Value} (h : IsRow [] w v n cs) (hG : Other k G w) (h0 : cs ≠ [] → ∃ i, cs[0]? = some (.int k i)) : IsRow G w v n cs := by
  refine ⟨h.shape, fun hn => ?_⟩
  obtain ⟨b, off, n', c, hv, _, hc⟩ := h.cells hn
  obtain ⟨i, hi⟩ := h0 hn
  exact ⟨b, off, n', c, hv, fun hb => hG b hb (off + 0) i (hc 0 _ hi), hc⟩
theorem _root_.Go.Proofs.YtickdhjljpnlpaaGreatDoor.IsRow.intoJ {v : Value} {n j : Nat} {cs : List Value} (h : IsRow [] w v n cs) (hG : Other k G w) (h0 : cs ≠ [] → ∃ i, cs[j]? = some (.int k i)) : IsRow G w v n cs := by
  refine ⟨h.shape, fun hn => ?_⟩
  obtain ⟨b, off, n', c, hv, _, hc⟩ := h.cells hn
  obtain ⟨i, hi⟩ := h0 hn
  exact ⟨b, off, n', c, hv, fun hb => hG b hb (off + j) i (hc j _ hi), hc⟩
theorem eQ_ {α : Type} {c : α → List Value} {s j : Nat} (hs : ∀ a, (c a).length = s) (hj : ∀ a, ∃ i, (c a)[j]? = some (.int k i)) (hG : Other k G w) {xs : List α} {v : Value} (h : rep [] w (flat s c xs) v) : rep G w (flat s c xs) v :=
  (cI_ hs).2 (((cI_ hs).1 h).intoJ (j := j) hG fun hn => by
    cases xs with
    | nil => exact absurd rfl hn
    | cons a xs =>
      obtain ⟨i, hi⟩ := hj a
      refine ⟨i, ?_⟩
      rw [List.flatMap_cons, List.getElem?_append_left (List.getElem?_eq_some_iff.1 hi).1]
      exact hi)
theorem eE_ {n : String} {cs : Array Value} (h : w.var? Tryz.prog n = some cs) (hc : ∀ (i : Nat) v, cs[i]? = some v → ∀ z, v ≠ .int k z) (off : Nat) (i : Int) : w.cell? ⟨(Tryz.prog.globalNamed n).getD 0, off, none⟩ ≠ some (.int k i) := by
  intro h2
  cases hg : Tryz.prog.globalNamed n with
  | none => unfold World.var? at h; rw [hg] at h; cases h
  | some g =>
    rw [hg] at h2
    have h3 := World.var?_cell hg h off
    have h4 : w.cell? ⟨g, off, none⟩ = some (.int k i) := h2
    rw [h4] at h3
    exact hc off _ h3.symm i rfl
theorem gG_ {e : Value} (he : isIf e) (i : Nat) (v : Value) (h : (#[e] : Array Value)[i]? = some v) (z : Int) : v ≠ .int k z := by
  obtain ⟨t, u, rfl⟩ := he
  rintro rfl
  cases i with
  | zero => simp at h
  | succ i => simp at h
theorem other_globs (hk : k ≠ .u64) {es er : Value} (he : isIf es) (hr : isIf er) (h1 : w.var? Tryz.prog "strconv.ErrSyntax" = some #[es]) (h2 : w.var? Tryz.prog "strconv.ErrRange" = some #[er]) (h3 : w.var? Tryz.prog "internal/strconv.uint64pow10" = some pow10C) :
    Other k (mids (globs es er) ++ [(Tryz.prog.globalNamed "strconv.ErrSyntax").getD 0, (Tryz.prog.globalNamed "strconv.ErrRange").getD 0, (Tryz.prog.globalNamed "internal/strconv.uint64pow10").getD 0]) w := by
  intro g hg off i
  have hg : g ∈ [(Tryz.prog.globalNamed "strconv.ErrSyntax").getD 0, (Tryz.prog.globalNamed "strconv.ErrRange").getD 0, (Tryz.prog.globalNamed "internal/strconv.uint64pow10").getD 0] := hg
  simp only [List.mem_cons, List.not_mem_nil, or_false] at hg
  rcases hg with rfl | rfl | rfl
  · exact eE_ h1 (fun i v h => gG_ he i v h) off i
  · exact eE_ h2 (fun i v h => gG_ hr i v h) off i
  · refine eE_ h3 (fun i v h z => ?_) off i
    rintro rfl
    unfold pow10C at h
    rw [List.getElem?_toArray, List.getElem?_map] at h
    cases hq : Lib.pow10Tab[i]? with
    | none => rw [hq] at h; cases h
    | some x =>
      rw [hq] at h
      simp only [Option.map_some, Option.some.injEq] at h
      injection h with h4
      exact hk h4.symm
end
end Go.Proofs.YtickdhjljpnlpaaGreatDoor.A
namespace Go.Proofs.YtickdhjljpnlpaaGreatDoor.A
open Go.RowKit Go.ChangeShapes Go.WideShapes Go.ChangeAt
section
variable {H : Type} {enc : TypeId × Value → H} {w : World} {base : Nat} {spare : Nat → Bool} {held : Bool}
theorem wfOk {a : Int} (h : (Lit.int .i64 a).wf = true) : i64ok a := by
  have := bounds_i64 h
  unfold i64ok
  omega
theorem km_ : leaves Tryz.prog 4 40 = some [3, 2, 35] := by kernel_rfl
theorem open_ocO (cs : List Value) (hl : cs.length = Tryz.prog.cellsOf 40) (h : ∃ m y, DataW.trod enc Tryz.prog w base spare held m 40 cs = some y) : ∃ o : Oc, reps [] w o.abs cs ∧ OcIns o := by
  obtain ⟨fuel, x, h⟩ := h
  rw [show Tryz.prog.cellsOf 40 = 3 by kernel_rfl] at hl
  have hh := bQ_ 4 _ _ _ _ _ km_ (by simpa using hl.symm) h
  match cs, hl with
  | [v0, v1, v2], _ =>
    obtain ⟨n0, rfl, b0⟩ := (hh 0 v0 _ rfl rfl).int Tryz.underlying3
    obtain ⟨n1, rfl, b1⟩ := (hh 1 v1 _ rfl rfl).int Tryz.underlying2
    obtain ⟨n2, rfl, b2⟩ := (hh 2 v2 _ rfl rfl).int Tryz.underlying35
    exact ⟨⟨n0, n1, n2⟩, (aD_ (us := [.int .i64 n0, .int .i64 n1, .int .i64 n2])).2 rfl, ⟨wfOk b0, wfOk b1, wfOk b2⟩⟩
theorem jr_ : leaves Tryz.prog 4 81 = some [9, 3, 2, 2, 9, 9] := by kernel_rfl
theorem open_ltr (cs : List Value) (hl : cs.length = Tryz.prog.cellsOf 81) (h : ∃ m y, DataW.trod enc Tryz.prog w base spare held m 81 cs = some y) : ∃ x : Ltr, reps [] w (ltrA x) cs ∧ LtIns x := by
  obtain ⟨fuel, x, h⟩ := h
  rw [show Tryz.prog.cellsOf 81 = 6 by kernel_rfl] at hl
  have hh := bQ_ 4 _ _ _ _ _ jr_ (by simpa using hl.symm) h
  match cs, hl with
  | [v0, v1, v2, v3, v4, v5], _ =>
    obtain ⟨s0, rfl, b0⟩ := (hh 0 v0 _ rfl rfl).string Tryz.underlying9
    obtain ⟨n1, rfl, b1⟩ := (hh 1 v1 _ rfl rfl).int Tryz.underlying3
    obtain ⟨n2, rfl, b2⟩ := (hh 2 v2 _ rfl rfl).int Tryz.underlying2
    obtain ⟨n3, rfl, b3⟩ := (hh 3 v3 _ rfl rfl).int Tryz.underlying2
    obtain ⟨s4, rfl, b4⟩ := (hh 4 v4 _ rfl rfl).string Tryz.underlying9
    obtain ⟨s5, rfl, b5⟩ := (hh 5 v5 _ rfl rfl).string Tryz.underlying9
    exact ⟨⟨s0, n1, n2, n3, s4, s5⟩, (aD_ (us := [.string s0, .int .i64 n1, .int .i64 n2, .int .i64 n3, .string s4, .string s5])).2 rfl, ⟨⟨wfOk b1, wfOk b2, wfOk b3⟩, b0, b4, b5⟩⟩
theorem kS_ : leaves Tryz.prog 4 66 = some [3, 2, 3, 9, 2, 2, 9, 64] := by kernel_rfl
theorem open_enO (cs : List Value) (hl : cs.length = Tryz.prog.cellsOf 66) (h : ∃ m y, DataW.trod enc Tryz.prog w base spare held m 66 cs = some y) : ∃ e : Ent, reps [] w (entA e) cs ∧ EnIns e := by
  obtain ⟨fuel, x, h⟩ := h
  rw [show Tryz.prog.cellsOf 66 = 8 by kernel_rfl] at hl
  have hh := bQ_ 4 _ _ _ _ _ kS_ (by simpa using hl.symm) h
  match cs, hl with
  | [v0, v1, v2, v3, v4, v5, v6, v7], _ =>
    obtain ⟨n0, rfl, b0⟩ := (hh 0 v0 _ rfl rfl).int Tryz.underlying3
    obtain ⟨n1, rfl, b1⟩ := (hh 1 v1 _ rfl rfl).int Tryz.underlying2
    obtain ⟨n2, rfl, b2⟩ := (hh 2 v2 _ rfl rfl).int Tryz.underlying3
    obtain ⟨s3, rfl, b3⟩ := (hh 3 v3 _ rfl rfl).string Tryz.underlying9
    obtain ⟨n4, rfl, b4⟩ := (hh 4 v4 _ rfl rfl).int Tryz.underlying2
    obtain ⟨n5, rfl, b5⟩ := (hh 5 v5 _ rfl rfl).int Tryz.underlying2
    obtain ⟨s6, rfl, b6⟩ := (hh 6 v6 _ rfl rfl).string Tryz.underlying9
    obtain ⟨n7, rfl, b7⟩ := (hh 7 v7 _ rfl rfl).int Tryz.underlying64
    simp only [Lit.wf, Bool.and_eq_true, decide_eq_true_eq] at b7
    have c0 : (0 : Int) ≤ n7 := b7.1
    have c1 : n7 ≤ (4294967295 : Int) := b7.2
    obtain ⟨m, rfl⟩ : ∃ m : Nat, n7 = m := ⟨n7.toNat, by omega⟩
    exact ⟨⟨⟨n0, n1, n2, s3, n4, n5, s6⟩, m⟩, aD_.2 rfl, ⟨wfOk b0, wfOk b1, wfOk b2, wfOk b4, wfOk b5, b3, b6, by show m < 4294967296; omega⟩⟩
theorem ki_ {v : Value} (h : LeafAt enc Tryz.prog w base spare held 26 v) : ∃ es : List Ent, rep [] w (entsR es) v ∧ ∀ e ∈ es, EnIns e :=
  dm_ (abs := entA) (Ok := EnIns) (s := 8) Tryz.underlying26 (by kernel_rfl) h open_enO
end
section
variable {G : List Nat} {w : World}
theorem ens_keep (hG : Other .i64 G w) {es : List Ent} {v : Value} (h : rep [] w (entsR es) v) : rep G w (entsR es) v := eQ_ (c := Ent.cells) (s := 8) (j := 0) (fun _ => rfl) (fun e => ⟨e.core.client, rfl⟩) hG h
end
end Go.Proofs.YtickdhjljpnlpaaGreatDoor.A
