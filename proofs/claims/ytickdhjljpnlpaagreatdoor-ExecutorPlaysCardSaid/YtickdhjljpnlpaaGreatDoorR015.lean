/-
  Packed out of the texts: EX11.
-/
import Derived.Test.YtickdhjljpnlpaaGreatDoorR014
set_option maxRecDepth 100000
set_option linter.unusedSimpArgs false
set_option linter.unusedVariables false
namespace Go.Proofs.YtickdhjljpnlpaaGreatDoor.A
open Go.RowKit
theorem gL_ {α β : Blks} {b : Nat} {t : TypeId} {cs : List Abs} {x : It} (h : (mids (α ++ It.blk b t cs :: β)).Nodup) (hx : x ∈ β) : b ∉ x.mids := by
  rw [ak_, List.nodup_append] at h
  exact nod_head h.2.1 hx
theorem tmod3 (a : Int) : -2 ≤ a.tmod 3 ∧ a.tmod 3 ≤ 2 := by
  have h1 : a.tmod 3 < 3 := Int.tmod_lt_of_pos a (by omega)
  have h2 : -3 < a.tmod 3 := by
    have h3 : (-a).tmod 3 < 3 := Int.tmod_lt_of_pos (-a) (by omega)
    rw [Int.neg_tmod] at h3
    omega
  omega
theorem last_ins {l : Lg} (h : l.Ins) (k : Int) : OcIns ((l.last k).getD Oc.zero) := by
  unfold Lg.last
  cases hq : l.os.find? (eqO k) with
  | none => exact ⟨by show i64ok 0; unfold i64ok; omega, by show i64ok 0; unfold i64ok; omega, by show i64ok 0; unfold i64ok; omega⟩
  | some o => exact h.os o (List.mem_of_find?_eq_some hq)
section
variable {l : List XAct} {n : Int} {e1 e2 : Value}
set_option maxHeartbeats 2000000 in
theorem jK_ (he : isIf e1) (hr : isIf e2) (hn : n < 1 ∨ 7 < n) : Spec Tryz.prog 5 [int n, actsX l] (globs e1 e2) (fun _ : Unit => []) (fun _ => boo true) := by
 refine F_ Tryz.func5 rfl Tryz.ntmps5 rfl fun G w =>d_<|a_<|q_ 1 rfl<|g_<|c_<|d_<|d_<|a_<|s_ (gW_ he hr) Casts.refl (by kernel_rfl) rfl rfl rfl ?_
 refine ap_<|fun _=>b_ (bn_ rfl) rfl rfl<|g_<|c_<|ad_ rfl<|p_<|c_<|d_<|d_<|a_<|q_ 1 rfl<|b_ (B_ rfl Tryz.underlying22 (List.length_map _)) rfl rfl<|q_ 1 rfl<|g_<|c_<|o_ rfl ?_ ?_
 ·intro hc31
  exact d_<|a_<|q_ 1 rfl<|g_<|c_<|m_<|h_ nofun<|f_ (rs := [.tmp 4]) rfl (RV.tmp rfl RV.nil) (()) sn_<|rfl
 intro hc31
 refine p_<|c_<|d_<|a_<|q_ 1 rfl<|s_ (exnew_no (n := n) hn) Casts.refl (by kernel_rfl) rfl rfl rfl ?_
 refine ap_<|fun _=>q_ 1 rfl<|g_<|c_<|d_<|d_<|a_<|q_ 3 rfl<|z_ (t := 36) rfl ?_ ?_
 ·intro hc36
  refine q_ 3 rfl<|g_<|c_<|M_ rfl<|d_<|a_<|q_ 1 rfl<|s_ (kN_ (seq := 1) (es := [])) (Casts.keep (Casts.keep (Casts.nils (s := 8) Casts.refl))) (by kernel_rfl) rfl rfl rfl ?_
  refine ap_<|fun _=>q_ 2 rfl<|b_ (l_ (C := int 1) (az_ rfl rfl) rfl) rfl rfl<|q_ 2 rfl<|g_<|c_<|d_<|a_<|q_ 1 rfl<|s_ (g0_ (k := 4)) Casts.refl (by kernel_rfl) rfl rfl rfl ?_
  refine ap_<|fun _=>q_ 1 rfl<|b_ (l_ (C := .agg Oc.zero.abs) (az_ rfl rfl) rfl) rfl rfl<|b_ (l_ (C := boo false) (az_ rfl rfl) rfl) rfl rfl<|eb_ (H_ tabOk rfl) rfl rfl fun b8=>?_
  refine e_ (n_ (L' := Oc.zero.abs) tabOk rfl rfl rfl u0_ rfl (Nat.le_of_ble_eq_true rfl) rfl (by exact t_ rfl)) rfl rfl ?_
  refine q_ 1 rfl<|g_<|c_<|d_<|a_<|q_ 1 rfl<|b_ (bc_ rfl rfl (by kernel_rfl)) rfl rfl ?_
  refine q_ 2 rfl<|b_ (l_ (C := boo true) (al_ rfl rfl) (congrArg (fun b => Abs.v (Value.bool b)) (decide_eq_true (rfl)))) rfl rfl<|q_ 3 rfl<|b_ (cl_ rfl) rfl rfl<|q_ 3 rfl<|s_ (kO_ (m := [])) (Casts.keep (Casts.nils (s := 1) Casts.refl)) (by kernel_rfl) rfl rfl rfl ?_
  refine ap_<|fun _=>b_ (l_ (C := boo true) (al_ rfl rfl) (congrArg (fun b => Abs.v (Value.bool b)) (decide_eq_true (rfl)))) rfl rfl<|q_ 3 rfl<|s_ (iK_) Casts.refl (by kernel_rfl) rfl rfl rfl ?_
  refine ap_<|fun _=>b_ (l_ (C := boo true) (al_ rfl rfl) (congrArg (fun b => Abs.v (Value.bool b)) (decide_eq_true (rfl)))) rfl rfl<|q_ 3 rfl<|s_ (fu_) Casts.refl (by kernel_rfl) rfl rfl rfl ?_
  refine ap_<|fun _=>b_ (l_ (C := int ((0 : Nat) : Int)) (B_ (m := 0) rfl Tryz.underlying46 rfl) rfl) rfl rfl<|q_ 1 rfl<|s_ (fv_) Casts.refl (by kernel_rfl) rfl rfl rfl ?_
  refine ap_<|fun _=>b_ (l_ (C := int ((0 : Nat) : Int)) (B_ (m := 0) rfl Tryz.underlying31 rfl) rfl) rfl rfl<|b_ (l_ (C := int 0) (C_ rfl rfl (by simp only [InR, lo, hi]; omega)) rfl) rfl rfl ?_
  refine b_ (l_ (C := boo true) (al_ rfl rfl) (congrArg (fun b => Abs.v (Value.bool b)) (decide_eq_true (rfl)))) rfl rfl<|q_ 3 rfl<|b_ (D_ (L := (Core.cells ⟨0, 0, 0, ⟨#[]⟩, 0, 0, ⟨#[]⟩⟩).map .v) tabOk rfl rfl rfl rfl) rfl rfl<|s_ (ft_ (c := ⟨0, 0, 0, ⟨#[]⟩, 0, 0, ⟨#[]⟩⟩)) Casts.refl (by kernel_rfl) rfl rfl rfl ?_
  refine ap_<|fun _=>b_ (cl_ rfl) rfl rfl<|q_ 3 rfl<|s_ (iJ_) Casts.refl (by kernel_rfl) rfl rfl rfl ?_
  refine ap_<|fun _=>b_ (D_ (L := [int 0, int 0, .v (.slice none 0 0), .v (.slice none 0 0)]) tabOk rfl rfl rfl rfl) rfl rfl<|lh_ (t := 89) (.agg Lg.zero.abs) rfl (as_ (Casts.keep (Casts.keep (Casts.nils (s := 6) (Casts.nils (s := 3) Casts.refl)))))<|s_ (hF_ (a := Lg.zero) (b := Lg.zero) Lg.zero_ins Lg.zero_ins) Casts.refl (by kernel_rfl) rfl rfl rfl ?_
  refine ap_ ?_
  intro _
  rw [decide_eq_true rfl]
  exact q_ 2 rfl<|g_<|c_<|m_<|h_ nofun<|f_ (rs := [.tmp 4]) rfl (RV.tmp rfl RV.nil) (()) sn_<|rfl
 intro hc36
 refine q_ 3 rfl<|g_<|c_<|o_ rfl ?_ (by intro hc39; exfalso; omega)
 intro hc39
 refine d_<|a_<|q_ 1 rfl<|s_ (kN_ (seq := 1) (es := [])) (Casts.keep (Casts.keep (Casts.nils (s := 8) Casts.refl))) (by kernel_rfl) rfl rfl rfl ?_
 refine ap_<|fun _=>q_ 2 rfl<|b_ (l_ (C := int 1) (az_ rfl rfl) rfl) rfl rfl<|q_ 2 rfl<|g_<|c_<|d_<|a_<|q_ 1 rfl<|s_ (g0_ (k := 4)) Casts.refl (by kernel_rfl) rfl rfl rfl ?_
 refine ap_<|fun _=>q_ 1 rfl<|b_ (l_ (C := .agg Oc.zero.abs) (az_ rfl rfl) rfl) rfl rfl<|b_ (l_ (C := boo false) (az_ rfl rfl) rfl) rfl rfl<|eb_ (H_ tabOk rfl) rfl rfl fun b8=>?_
 refine e_ (n_ (L' := Oc.zero.abs) tabOk rfl rfl rfl u0_ rfl (Nat.le_of_ble_eq_true rfl) rfl (by exact t_ rfl)) rfl rfl ?_
 refine q_ 1 rfl<|g_<|c_<|d_<|a_<|q_ 1 rfl<|b_ (bc_ rfl rfl (by kernel_rfl)) rfl rfl ?_
 refine q_ 2 rfl<|b_ (l_ (C := boo true) (al_ rfl rfl) (congrArg (fun b => Abs.v (Value.bool b)) (decide_eq_true (rfl)))) rfl rfl<|q_ 3 rfl<|b_ (cl_ rfl) rfl rfl<|q_ 3 rfl<|s_ (kO_ (m := [])) (Casts.keep (Casts.nils (s := 1) Casts.refl)) (by kernel_rfl) rfl rfl rfl ?_
 refine ap_<|fun _=>b_ (l_ (C := boo true) (al_ rfl rfl) (congrArg (fun b => Abs.v (Value.bool b)) (decide_eq_true (rfl)))) rfl rfl<|q_ 3 rfl<|s_ (iK_) Casts.refl (by kernel_rfl) rfl rfl rfl ?_
 refine ap_<|fun _=>b_ (l_ (C := boo true) (al_ rfl rfl) (congrArg (fun b => Abs.v (Value.bool b)) (decide_eq_true (rfl)))) rfl rfl<|q_ 3 rfl<|s_ (fu_) Casts.refl (by kernel_rfl) rfl rfl rfl ?_
 refine ap_<|fun _=>b_ (l_ (C := int ((0 : Nat) : Int)) (B_ (m := 0) rfl Tryz.underlying46 rfl) rfl) rfl rfl<|q_ 1 rfl<|s_ (fv_) Casts.refl (by kernel_rfl) rfl rfl rfl ?_
 refine ap_<|fun _=>b_ (l_ (C := int ((0 : Nat) : Int)) (B_ (m := 0) rfl Tryz.underlying31 rfl) rfl) rfl rfl<|b_ (l_ (C := int 0) (C_ rfl rfl (by simp only [InR, lo, hi]; omega)) rfl) rfl rfl ?_
 refine b_ (l_ (C := boo true) (al_ rfl rfl) (congrArg (fun b => Abs.v (Value.bool b)) (decide_eq_true (rfl)))) rfl rfl<|q_ 3 rfl<|b_ (D_ (L := (Core.cells ⟨0, 0, 0, ⟨#[]⟩, 0, 0, ⟨#[]⟩⟩).map .v) tabOk rfl rfl rfl rfl) rfl rfl<|s_ (ft_ (c := ⟨0, 0, 0, ⟨#[]⟩, 0, 0, ⟨#[]⟩⟩)) Casts.refl (by kernel_rfl) rfl rfl rfl ?_
 refine ap_<|fun _=>b_ (cl_ rfl) rfl rfl<|q_ 3 rfl<|s_ (iJ_) Casts.refl (by kernel_rfl) rfl rfl rfl ?_
 refine ap_<|fun _=>b_ (D_ (L := [int 0, int 0, .v (.slice none 0 0), .v (.slice none 0 0)]) tabOk rfl rfl rfl rfl) rfl rfl<|lh_ (t := 89) (.agg Lg.zero.abs) rfl (as_ (Casts.keep (Casts.keep (Casts.nils (s := 6) (Casts.nils (s := 3) Casts.refl)))))<|s_ (hF_ (a := Lg.zero) (b := Lg.zero) Lg.zero_ins Lg.zero_ins) Casts.refl (by kernel_rfl) rfl rfl rfl ?_
 refine ap_ ?_
 intro _
 rw [decide_eq_true rfl]
 exact q_ 2 rfl<|g_<|c_<|m_<|h_ nofun<|f_ (rs := [.tmp 4]) rfl (RV.tmp rfl RV.nil) (()) sn_<|rfl
set_option maxHeartbeats 4000000 in
theorem jL_ (he : isIf e1) (hr : isIf e2) (hn : 1 ≤ n ∧ n ≤ 7) (hi9 : ∀ a ∈ l, a.Ins) : Spec Tryz.prog 5 [int n, actsX l] (globs e1 e2) (fun _ : Unit => []) (fun _ => boo true) := by
 refine F_ Tryz.func5 rfl Tryz.ntmps5 rfl fun G w =>d_<|a_<|q_ 1 rfl<|g_<|c_<|d_<|d_<|a_<|s_ (gW_ he hr) Casts.refl (by kernel_rfl) rfl rfl rfl ?_
 refine ap_<|fun _=>b_ (bn_ rfl) rfl rfl<|g_<|c_<|ad_ rfl<|p_<|c_<|d_<|d_<|a_<|q_ 1 rfl<|b_ (B_ rfl Tryz.underlying22 (List.length_map _)) rfl rfl<|q_ 1 rfl<|g_<|c_<|o_ rfl ?_ ?_
 ·intro hc31
  exact d_<|a_<|q_ 1 rfl<|g_<|c_<|m_<|h_ nofun<|f_ (rs := [.tmp 4]) rfl (RV.tmp rfl RV.nil) (()) sn_<|rfl
 intro hc31
 refine p_<|c_<|d_<|a_<|q_ 1 rfl<|s_ (hP_ (n := n) hn) Casts.refl (by kernel_rfl) rfl rfl rfl ?_
 refine bB_ (by repeat first|exact .nil|refine .blk (by repeat first|assumption|exact m0_|apply m1_) ?_|refine .rd (by repeat first|assumption|exact m0_|apply m1_) ?_|refine .pc (by repeat first|assumption|exact m0_|apply m1_) ?_|refine .rdpc (by repeat first|assumption|exact m0_|apply m1_) ?_) (fun _ => rfl) ?_
 intro b33
 refine q_ 1 rfl<|g_<|c_<|d_<|d_<|a_<|q_ 3 rfl<|z_ (t := 36) rfl (by intro hc36; exfalso; omega) ?_
 intro hc36
 refine q_ 3 rfl<|g_<|c_<|o_ rfl (by intro hc39; exfalso; omega) ?_
 intro hc39
 refine p_<|c_<|d_<|a_<|q_ 1 rfl<|b_ (D_ (L := [int n, int 0, int 0, .v (.slice none 0 0), .v (.slice none 0 0), .v (.slice none 0 0)]) tabOk rfl rfl rfl rfl) rfl rfl<|eb_ (R_ (cs := [int n, int 0, int 0, .v (.slice none 0 0), .v (.slice none 0 0), .v (.slice none 0 0)]) rfl) rfl rfl fun b94=>?_
 refine SL.re [] (Re.cast (ds := reA n Ex.zero) (Casts.keep (Casts.keep (Casts.keep (Casts.nils (s := 6) (Casts.nils (s := 3) (Casts.nils (s := 3) Casts.refl))))))) rfl<|q_ 1 rfl<|g_<|c_<|d_<|d_<|a_<|q_ 1 rfl<|b_ (B_ rfl Tryz.underlying22 (List.length_map _)) rfl rfl<|q_ 1 rfl<|g_<|c_<|y_<|ae_ (ι := Nat × Ex × Value) (fun z => (.blk b94 62 (reA n z.2.1) :: .pc (exP b33 n z.2.1 z.2.2) :: (globs e1 e2))) (fun z => [(5, ptr b33), (10, ptr b94), (95, actsX l), (96, int (l.length : Nat)), (97, int (z.1 : Nat))]) (fun z => z.1 ≤ l.length ∧ z.2.1.Ok z.1) (fun z => l.length - z.1) (0, Ex.zero, (.slice none 0 0)) (⟨Nat.zero_le _, Ex.zero_ok⟩) (by exact ⟨rfl, rfl, rfl, rfl, rfl, trivial⟩) sr_ ?_
 intro z hz
 refine d_<|a_<|q_ 1 rfl<|g_<|c_<|d_<|o_ rfl ?_ ?_
 rotate_left
 ·intro hc98
  exact W_<|h_ nofun<|h_ nofun<|V_<|c_<|d_<|a_<|q_ 1 rfl<|g_<|c_<|m_<|f_ (rs := [.tmp 4]) rfl (RV.tmp rfl RV.nil) (()) sn_<|rfl
 intro hc98
 have hlt : z.1 < l.length := by omega
 have hae := hi9 _ (List.getElem_mem hlt)
 have hsq := hz.2.seq
 have hmo := hae.more
 unfold i64ok at hmo
 have htm := tmod3 (l[z.1]'hlt).more
 refine p_<|c_<|d_<|y_<|d_<|a_<|b_ (J_ tabOk Tryz.underlying22 rfl rfl rfl rfl (aN_ (by omega)) rfl rfl) rfl rfl ?_
 refine b_ (Y_ tabOk rfl rfl rfl rfl) rfl rfl<|eb_ (H_ tabOk rfl) rfl rfl fun b12=>?_
 refine e_ (n_ (L' := XAct.abs (l[z.1]'hlt)) tabOk rfl rfl rfl u0_ rfl (Nat.le_of_ble_eq_true rfl) rfl (by exact t_ rfl)) rfl rfl ?_
 refine g_<|c_<|d_<|d_<|a_<|q_ 1 rfl<|b_ (l_ (C := entsR (l[z.1]'hlt).batch) (i_ tabOk rfl rfl l0_ List.not_mem_nil rfl) rfl) rfl rfl<|s_ (few29_s (es := (l[z.1]'hlt).batch)) Casts.refl (by kernel_rfl) rfl rfl rfl ?_
 refine ap_<|fun _=>b_ (aH_ rfl) rfl rfl<|q_ 1 rfl<|z_ (t := 105) rfl ?_ ?_
 ·intro hc105
  exact q_ 19 rfl<|g_<|c_<|M_ rfl<|d_<|a_<|q_ 1 rfl<|g_<|c_<|m_<|h_ nofun<|E_<|h_ nofun<|h_ nofun<|E_<|h_ nofun<|f_ (rs := [.tmp 4]) rfl (RV.tmp rfl RV.nil) (()) sn_<|rfl
 intro hc105
 refine q_ 2 rfl<|b_ (l_ (C := ltrsA (l[z.1]'hlt).l.ls) (i_ tabOk rfl rfl l0_ List.not_mem_nil rfl) rfl) rfl rfl<|b_ (l_ (C := int (((l[z.1]'hlt).l.ls.length : Nat) : Int)) (B_ (m := (l[z.1]'hlt).l.ls.length) rfl Tryz.underlying27 (List.length_map _)) rfl) rfl rfl<|q_ 3 rfl<|z_ (t := 112) rfl ?_ ?_
 ·intro hc112
  exact q_ 12 rfl<|g_<|c_<|M_ rfl<|d_<|a_<|q_ 1 rfl<|g_<|c_<|m_<|h_ nofun<|E_<|h_ nofun<|h_ nofun<|E_<|h_ nofun<|f_ (rs := [.tmp 4]) rfl (RV.tmp rfl RV.nil) (()) sn_<|rfl
 intro hc112
 refine q_ 2 rfl<|b_ (l_ (C := outA (l[z.1]'hlt).l.os) (i_ tabOk rfl rfl l0_ List.not_mem_nil rfl) rfl) rfl rfl<|b_ (l_ (C := int (((l[z.1]'hlt).l.os.length : Nat) : Int)) (B_ (m := (l[z.1]'hlt).l.os.length) rfl Tryz.underlying28 (List.length_map _)) rfl) rfl rfl<|q_ 3 rfl<|z_ (t := 119) rfl ?_ ?_
 ·intro hc119
  exact q_ 5 rfl<|g_<|c_<|M_ rfl<|d_<|a_<|q_ 1 rfl<|g_<|c_<|m_<|h_ nofun<|E_<|h_ nofun<|h_ nofun<|E_<|h_ nofun<|f_ (rs := [.tmp 4]) rfl (RV.tmp rfl RV.nil) (()) sn_<|rfl
 intro hc119
 refine q_ 1 rfl<|b_ (l_ (C := byt (l[z.1]'hlt).raw) (i_ tabOk rfl rfl l0_ List.not_mem_nil rfl) rfl) rfl rfl<|b_ (l_ (C := int (((l[z.1]'hlt).raw.length : Nat) : Int)) (B_ (m := (l[z.1]'hlt).raw.length) rfl Tryz.underlying31 (List.length_map _)) rfl) rfl rfl<|q_ 2 rfl<|g_<|c_<|o_ rfl ?_ ?_
 ·intro hc124
  exact d_<|a_<|q_ 1 rfl<|g_<|c_<|m_<|h_ nofun<|E_<|h_ nofun<|h_ nofun<|E_<|h_ nofun<|f_ (rs := [.tmp 4]) rfl (RV.tmp rfl RV.nil) (()) sn_<|rfl
 intro hc124
 have hfw : FewX (l[z.1]'hlt).batch := Classical.byContradiction hc105
 refine p_<|c_<|a1_ (ι := Ex × Value) (fun q => (.blk b12 33 (XAct.abs (l[z.1]'hlt)) :: .blk b94 62 (reA n q.1) :: .pc (exP b33 n q.1 q.2) :: (globs e1 e2))) (fun q => [(12, ptr b12), (5, ptr b33), (10, ptr b94), (95, actsX l), (96, int (l.length : Nat)), (97, int (z.1 : Nat))]) (fun q => q.1.Ok (z.1 + 1)) ?_ ?_
 ·skip
  refine d_<|a_<|q_ 1 rfl<|b_ (l_ (C := .v (.int .u8 ((l[z.1]'hlt).kind : Nat))) (i_ tabOk rfl rfl l0_ List.not_mem_nil rfl) rfl) rfl rfl<|b_ (gi_ rfl rfl (by omega)) rfl rfl ?_
  refine q_ 1 rfl<|g_<|c_<|o_ rfl ?_ ?_
  rotate_left
  ·intro hc128
   refine d_<|a_<|q_ 1 rfl<|b_ (l_ (C := byt (l[z.1]'hlt).raw) (i_ tabOk rfl rfl l0_ List.not_mem_nil rfl) rfl) rfl rfl<|q_ 1 rfl<|g_<|c_<|d_<|d_<|a_<|q_ 1 rfl<|b_ (l_ (C := .agg (l[z.1]'hlt).l.abs) (x_ tabOk rfl rfl rfl l0_ List.not_mem_nil (Nat.le_of_ble_eq_true rfl)) rfl) rfl rfl<|s_ (fO_ (l := (l[z.1]'hlt).l) (fun x hx => (hae.l.ls x hx).name)) Casts.refl (by kernel_rfl) rfl rfl rfl ?_
   refine ap_<|fun _=>g_<|c_<|o_ rfl ?_ ?_
   rotate_left
   ·intro hc184
    obtain ⟨mA, hmE⟩ : ∃ mA : List UInt8, mA = (l[z.1]'hlt).raw := ⟨_, rfl⟩
    have hmA : mA.length ≤ 10000000 := by rw [hmE]; omega
    refine p_<|c_<|d_ ?_
    rw [← hmE]
    refine a_<|q_ 2 rfl<|s_ (iL_ (b := b33) (x := z.2.1) (r := z.2.2) (n := n) (m := mA) (j := z.1) hmA (by omega) hz.2) Casts.refl (by kernel_rfl) rfl rfl rfl ?_
    refine A_ rfl i2_ (fun _ => rfl)<|fun rA=>⟨_, u2_, q_ 2 rfl<|s_ (j3_ (b := b94) (x := z.2.1) (n := n) (m := mA) (j := z.1) hmA (by omega) hz.2) Casts.refl (by kernel_rfl) rfl rfl rfl ?_⟩
    refine A_ rfl i1_ (fun _ => rfl)<|fun _=>⟨_, u1_, ?_⟩
    rw [hmE]
    refine b_ (l_ (C := boo false) (aQ_ rfl rfl) (congrArg (fun b => Abs.v (Value.bool b)) (by simp))) rfl rfl ?_
    refine g_<|c_<|ad_ rfl<|p_<|ab_ ((z.2.1.adX (l[z.1]'hlt).raw), rA) (by dsimp only; exact Ex.Ok.ad (x := z.2.1) (m := (l[z.1]'hlt).raw) hz.2) (by exact ⟨rfl, rfl, rfl, rfl, rfl, rfl, trivial⟩) (by dsimp only; repeat (first | exact List.nil_sublist _ | exact List.Sublist.refl _ | apply List.Sublist.cons_cons | apply List.Sublist.cons))
   intro hc184
   obtain ⟨mA, hmE⟩ : ∃ mA : List UInt8, mA = (l[z.1]'hlt).l.bytes := ⟨_, rfl⟩
   have hmA : mA.length ≤ 10000000 := by rw [hmE]; have := (show (l[z.1]'hlt).l.Right from hc184).bytes; omega
   refine a_<|q_ 1 rfl<|b_ (l_ (C := .agg (l[z.1]'hlt).l.abs) (x_ tabOk rfl rfl rfl l0_ List.not_mem_nil (Nat.le_of_ble_eq_true rfl)) rfl) rfl rfl<|s_ (gv_ (l := (l[z.1]'hlt).l) hc184) Casts.refl (by kernel_rfl) rfl rfl rfl ?_
   refine ap_<|fun _=>q_ 1 rfl<|g_<|c_<|d_ ?_
   rw [← hmE]
   refine a_<|q_ 2 rfl<|s_ (iL_ (b := b33) (x := z.2.1) (r := z.2.2) (n := n) (m := mA) (j := z.1) hmA (by omega) hz.2) Casts.refl (by kernel_rfl) rfl rfl rfl ?_
   refine A_ rfl i2_ (fun _ => rfl)<|fun rA=>⟨_, u2_, q_ 2 rfl<|s_ (j3_ (b := b94) (x := z.2.1) (n := n) (m := mA) (j := z.1) hmA (by omega) hz.2) Casts.refl (by kernel_rfl) rfl rfl rfl ?_⟩
   refine A_ rfl i1_ (fun _ => rfl)<|fun _=>⟨_, u1_, ?_⟩
   rw [hmE]
   refine b_ (l_ (C := boo false) (aQ_ rfl rfl) (congrArg (fun b => Abs.v (Value.bool b)) (by simp))) rfl rfl ?_
   refine g_<|c_<|ad_ rfl<|p_<|ab_ ((z.2.1.adX (l[z.1]'hlt).l.bytes), rA) (by dsimp only; exact Ex.Ok.ad (x := z.2.1) (m := (l[z.1]'hlt).l.bytes) hz.2) (by exact ⟨rfl, rfl, rfl, rfl, rfl, rfl, trivial⟩) (by dsimp only; repeat (first | exact List.nil_sublist _ | exact List.Sublist.refl _ | apply List.Sublist.cons_cons | apply List.Sublist.cons))
  intro hc128
  refine d_<|aa_ [] (.q 0 (.q 1 (.q 2 (.q 3 (.q 4 (.q 5 (.q 6 (.q 7 (.q 8 (.q 9 (.q 10 .nil))))))))))) (by kernel_rfl) (by kernel_rfl) ?_
  refine qs_ 4 rfl<|hx_ fun hx9 =>r_ rfl (l_ (C := int z.2.1.l.seq) (i_ tabOk rfl rfl l1_ List.not_mem_nil rfl) rfl) hx9 rfl rfl<|qs_ 1 rfl<|r_ rfl (l_ (C := int (l[z.1]'hlt).more) (i_ tabOk rfl rfl l0_ List.not_mem_nil rfl) rfl) hx9 rfl rfl<|r_ rfl (l_ (C := int ((l[z.1]'hlt).more.tmod 3)) (iW_ rfl rfl (by omega)) rfl) hx9 rfl rfl ?_
  refine r_ rfl (C_ rfl rfl (by simp only [InR, lo, hi]; omega)) hx9 rfl rfl ?_
  refine r_ rfl (C_ rfl rfl (by simp only [InR, lo, hi]; omega)) hx9 rfl rfl ?_
  refine qs_ 1 rfl<|Q_<|c_<|d_<|a_<|q_ 3 rfl<|b_ (l_ (C := entsR (l[z.1]'hlt).batch) (i_ tabOk rfl rfl l0_ List.not_mem_nil rfl) rfl) rfl rfl<|s_ (kM_ (b := b33) (x := z.2.1) (r := z.2.2) (n := n) (seq := (z.2.1.l.seq + (l[z.1]'hlt).more.tmod 3 + 1)) (es := (l[z.1]'hlt).batch) (j := z.1) he hr hae.batch hfw.len (by omega) hz.2) Casts.refl (by kernel_rfl) rfl rfl rfl ?_
  refine bb_ (ys := (globs e1 e2)) rfl i2_ (by intro y hy; simp only [globs, List.mem_cons, List.not_mem_nil, or_false] at hy; rcases hy with rfl | rfl | rfl <;> exact ⟨by repeat first|assumption|exact m0_|apply m1_, by intro h; cases h⟩) rfl (fun _ => rfl) ?_
  intro r144
  refine ⟨_, u2_, q_ 5 rfl<|g_<|c_<|d_<|a_<|q_ 3 rfl<|b_ (l_ (C := entsR (l[z.1]'hlt).batch) (i_ tabOk rfl rfl l0_ List.not_mem_nil rfl) rfl) rfl rfl<|s_ (rexdo_s (b := b94) (x := z.2.1) (n := n) (seq := (z.2.1.l.seq + (l[z.1]'hlt).more.tmod 3 + 1)) (es := (l[z.1]'hlt).batch) (j := z.1) hae.batch hfw.szs hfw.len (by unfold i64ok; omega) (by omega) hz.2) Casts.refl (by kernel_rfl) rfl rfl rfl ?_⟩
  refine A_ rfl i1_ (fun _ => rfl)<|fun _=>⟨_, u1_, q_ 5 rfl<|g_<|c_<|d_<|d_<|a_<|q_ 2 rfl<|b_ (l_ (C := boo false) (aQ_ rfl rfl) (congrArg (fun b => Abs.v (Value.bool b)) (by simp))) rfl rfl ?_⟩
  refine q_ 2 rfl<|b_ (l_ (C := int (((z.2.1.doO n (z.2.1.l.seq + (l[z.1]'hlt).more.tmod 3 + 1) (l[z.1]'hlt).batch).length : Nat) : Int)) (B_ (m := (z.2.1.doO n (z.2.1.l.seq + (l[z.1]'hlt).more.tmod 3 + 1) (l[z.1]'hlt).batch).length) rfl Tryz.underlying28 (List.length_map _)) rfl) rfl rfl<|q_ 1 rfl<|b_ (l_ (C := int (((z.2.1.doO n (z.2.1.l.seq + (l[z.1]'hlt).more.tmod 3 + 1) (l[z.1]'hlt).batch).length : Nat) : Int)) (B_ (m := (z.2.1.doO n (z.2.1.l.seq + (l[z.1]'hlt).more.tmod 3 + 1) (l[z.1]'hlt).batch).length) rfl Tryz.underlying28 (List.length_map _)) rfl) rfl rfl<|b_ (l_ (C := boo false) (aQ_ rfl rfl) (congrArg (fun b => Abs.v (Value.bool b)) (by simp))) rfl rfl ?_
  refine q_ 1 rfl<|g_<|c_<|ad_ rfl<|p_<|c_<|d_<|a_<|q_ 1 rfl<|b_ (l_ (C := int (((z.2.1.doO n (z.2.1.l.seq + (l[z.1]'hlt).more.tmod 3 + 1) (l[z.1]'hlt).batch).length : Nat) : Int)) (B_ (m := (z.2.1.doO n (z.2.1.l.seq + (l[z.1]'hlt).more.tmod 3 + 1) (l[z.1]'hlt).batch).length) rfl Tryz.underlying28 (List.length_map _)) rfl) rfl rfl<|q_ 1 rfl<|g_<|c_<|y_<|bk_ (i := 165) rfl fun hrow => ?_
  rw [List.length_map] at hrow
  unfold maxLen at hrow
  refine ae_ (ι := Nat) (fun y => (.blk b12 33 (XAct.abs (l[z.1]'hlt)) :: .blk b94 62 (reA n (z.2.1.doX n (z.2.1.l.seq + (l[z.1]'hlt).more.tmod 3 + 1) (l[z.1]'hlt).batch)) :: .pc (exP b33 n (z.2.1.doX n (z.2.1.l.seq + (l[z.1]'hlt).more.tmod 3 + 1) (l[z.1]'hlt).batch) r144) :: (globs e1 e2))) (fun y => [(12, ptr b12), (5, ptr b33), (10, ptr b94), (95, actsX l), (96, int (l.length : Nat)), (97, int (z.1 : Nat)), (14, outA (z.2.1.doO n (z.2.1.l.seq + (l[z.1]'hlt).more.tmod 3 + 1) (l[z.1]'hlt).batch)), (16, outA (z.2.1.doO n (z.2.1.l.seq + (l[z.1]'hlt).more.tmod 3 + 1) (l[z.1]'hlt).batch)), (165, outA (z.2.1.doO n (z.2.1.l.seq + (l[z.1]'hlt).more.tmod 3 + 1) (l[z.1]'hlt).batch)), (166, int ((z.2.1.doO n (z.2.1.l.seq + (l[z.1]'hlt).more.tmod 3 + 1) (l[z.1]'hlt).batch).length : Nat)), (167, int (y : Nat))]) (fun y => y ≤ (z.2.1.doO n (z.2.1.l.seq + (l[z.1]'hlt).more.tmod 3 + 1) (l[z.1]'hlt).batch).length) (fun y => (z.2.1.doO n (z.2.1.l.seq + (l[z.1]'hlt).more.tmod 3 + 1) (l[z.1]'hlt).batch).length - y) (0) (Nat.zero_le _) (by exact ⟨rfl, rfl, rfl, rfl, rfl, rfl, rfl, rfl, rfl, rfl, rfl, trivial⟩) sr_ ?_
  intro y hy
  refine d_<|a_<|q_ 1 rfl<|g_<|c_<|d_<|o_ rfl ?_ ?_
  rotate_left
  ·intro hc168
   refine W_<|h_ nofun<|h_ nofun<|V_<|ab_ ((z.2.1.doX n (z.2.1.l.seq + (l[z.1]'hlt).more.tmod 3 + 1) (l[z.1]'hlt).batch), r144) (by dsimp only; exact hz.2.do_ hae.batch hfw.szs hfw.len) (by exact ⟨rfl, rfl, rfl, rfl, rfl, rfl, trivial⟩) (by dsimp only; repeat (first | exact List.nil_sublist _ | exact List.Sublist.refl _ | apply List.Sublist.cons_cons | apply List.Sublist.cons))
  intro hc168
  have hyl : y < (z.2.1.doO n (z.2.1.l.seq + (l[z.1]'hlt).more.tmod 3 + 1) (l[z.1]'hlt).batch).length := by omega
  have hoo : OcIns ((z.2.1.doO n (z.2.1.l.seq + (l[z.1]'hlt).more.tmod 3 + 1) (l[z.1]'hlt).batch)[y]'hyl) := doO_ins hae.batch _ (List.getElem_mem hyl)
  refine p_<|c_<|d_<|y_<|d_<|a_<|q_ 2 rfl<|g_<|c_<|d_<|aa_ [] (.q 0 (.q 1 (.q 2 (.q 3 (.q 4 (.q 5 (.q 6 (.q 7 (.q 8 .nil))))))))) (by kernel_rfl) (by kernel_rfl) ?_
  refine qs_ 2 rfl<|hx_ fun hx9 =>r_ rfl (J_ (q := y) (cs := Oc.abs ((z.2.1.doO n (z.2.1.l.seq + (l[z.1]'hlt).more.tmod 3 + 1) (l[z.1]'hlt).batch)[y]'hyl)) tabOk Tryz.underlying28 rfl rfl rfl rfl (by rw [List.getElem?_map, List.getElem?_eq_getElem hyl]; rfl) rfl rfl) hx9 rfl rfl ?_
  refine r_ rfl (Y_ tabOk rfl rfl rfl rfl) hx9 rfl rfl<|qs_ 2 rfl<|r_ rfl (J_ (q := y) (cs := Oc.abs ((z.2.1.doO n (z.2.1.l.seq + (l[z.1]'hlt).more.tmod 3 + 1) (l[z.1]'hlt).batch)[y]'hyl)) tabOk Tryz.underlying28 rfl rfl rfl rfl (by rw [List.getElem?_map, List.getElem?_eq_getElem hyl]; rfl) rfl rfl) hx9 rfl rfl ?_
  refine r_ rfl (Y_ tabOk rfl rfl rfl rfl) hx9 rfl rfl<|r_ rfl (l_ (C := boo false) (dP_ rfl rfl (b8_ _) (b8_ _) (by kernel_rfl) (neqOc hoo hoo)) (congrArg (fun b => Abs.v (Value.bool b)) (by simp))) hx9 rfl rfl ?_
  refine Q_<|c_<|ad_ rfl<|p_<|u_<|c_<|a_<|b_ (C_ rfl rfl (by simp only [InR, lo, hi]; omega)) rfl rfl ?_
  refine q_ 1 rfl<|g_<|G_ (y + 1) (by omega) (by omega) (by exact ⟨rfl, rfl, rfl, rfl, rfl, rfl, rfl, rfl, rfl, rfl, rfl, trivial⟩) sr_
 intro q hq
 have hqf := hq.ls
 have hqo := hq.os
 have hqd := hq.few
 have hqs := hq.seq
 refine d_<|a_<|q_ 1 rfl<|g_<|c_<|a1_ (ι := Unit) (fun q9 => (.blk b12 33 (XAct.abs (l[z.1]'hlt)) :: .blk b94 62 (reA n q.1) :: .pc (exP b33 n q.1 q.2) :: (globs e1 e2))) (fun q9 => [(12, ptr b12), (5, ptr b33), (10, ptr b94), (20, st (mkS q.1.l.bytesR)), (95, actsX l), (96, int (l.length : Nat)), (97, int (z.1 : Nat))]) (fun q9 => True) ?_ ?_
 ·skip
  refine d_<|a_<|q_ 3 rfl<|b_ (l_ (C := .agg q.1.l.abs) (x_ tabOk rfl rfl rfl l1_ List.not_mem_nil (Nat.le_of_ble_eq_true rfl)) rfl) rfl rfl<|s_ (fO_ (l := q.1.l) (fun x hx => (hq.ins.ls x hx).name)) Casts.refl (by kernel_rfl) rfl rfl rfl ?_
  refine ap_<|fun _=>g_<|c_<|o_ rfl ?_ ?_
  rotate_left
  ·intro hc199
   refine p_<|ab_ (()) (trivial) (by exact ⟨rfl, rfl, rfl, congrArg (fun m => some (st (mkS m))) (show [] = q.1.l.bytesR from (if_neg hc199).symm), rfl, rfl, rfl, trivial⟩) sr_
  intro hc199
  refine a_<|q_ 3 rfl<|b_ (l_ (C := .agg q.1.l.abs) (x_ tabOk rfl rfl rfl l1_ List.not_mem_nil (Nat.le_of_ble_eq_true rfl)) rfl) rfl rfl<|s_ (gv_ (l := q.1.l) hc199) Casts.refl (by kernel_rfl) rfl rfl rfl ?_
  refine ap_<|fun _=>b_ (aq_ rfl) rfl rfl<|q_ 1 rfl<|g_<|ab_ (()) (trivial) (by exact ⟨rfl, rfl, rfl, congrArg (fun m => some (st (mkS m))) (dx_ hc199).symm, rfl, rfl, rfl, trivial⟩) sr_
 intro q9 hq9
 refine d_<|d_<|lk_ fun hnod => ?_
 have hnA : b94 ∉ (It.pc (exP b33 n q.1 q.2)).mids := gL_ (α := [_]) hnod i0_
 refine aa_ (It.pc (exP b33 n q.1 q.2)).mids (.q 0 (.q 2 (.q 3 (.q 4 (.q 5 (.q 6 (.e 1 (.q 7 (.q 8 (.q 9 (.q 11 (.q 12 (.q 13 (.q 14 (.e 10 (.e 15 (.q 16 (.q 17 (.q 18 (.q 19 (.q 21 (.q 22 (.q 23 (.q 24 (.e 20 (.e 25 (.q 26 (.q 27 (.q 28 (.q 29 (.q 32 (.e 30 (.q 31 (.q 33 (.q 34 .nil))))))))))))))))))))))))))))))))))) (by kernel_rfl) (by kernel_rfl) ?_
 refine h3_ (fun k hk => a2_.2 ⟨_, i2_, hk⟩) fun hx9 =>qx_ 5 hx9 rfl<|r_ rfl (l_ (C := int q.1.l.seq) (i_ tabOk rfl rfl l1_ hnA rfl) rfl) hx9 rfl rfl<|I_ rfl (hQ_ (b := b33) (x := q.1) (r := q.2) (n := n)) ds_ Casts.refl (by kernel_rfl) rfl rfl rfl ?_
 refine A_ rfl i2_ (fun _ => rfl)<|fun _=>⟨_, u2_, h3_ (fun k hk => a2_.2 ⟨_, i2_, hk⟩) fun hx9 =>r_ rfl (l_ (C := boo false) (aQ_ rfl rfl) (congrArg (fun b => Abs.v (Value.bool b)) (by simp))) hx9 rfl rfl ?_⟩
 refine qx_ 5 hx9 rfl<|r_ rfl (l_ (C := .agg q.1.l.abs) (x_ tabOk rfl rfl rfl l1_ hnA (Nat.le_of_ble_eq_true rfl)) rfl) hx9 rfl rfl<|I_ rfl (exled_s (b := b33) (x := q.1) (r := q.2) (n := n) (by omega) (by omega)) ds_ Casts.refl (by kernel_rfl) rfl rfl rfl ?_
 refine A_ rfl i2_ (fun _ => rfl)<|fun _=>⟨_, u2_, I_ rfl (hF_ (a := q.1.l) (b := q.1.l) hq.ins hq.ins) (by simp [mids, It.mids]) Casts.refl (by kernel_rfl) rfl rfl rfl ?_⟩
 refine ap_ ?_
 intro _
 rw [decide_eq_true rfl]
 refine h3_ (fun k hk => a2_.2 ⟨_, i2_, hk⟩) fun hx9 =>r_ rfl (bn_ rfl) hx9 rfl rfl<|qx_ 6 hx9 rfl<|r_ rfl (l_ (C := ddsA q.1.ds) (i_ tabOk rfl rfl l1_ hnA rfl) rfl) hx9 rfl rfl<|I_ rfl (eT_ (b := b33) (x := q.1) (r := q.2) (n := n) (by omega) (fun d hd => Nat.le_trans (hq.ds d hd).2.1 (by omega))) ds_ Casts.refl (by kernel_rfl) rfl rfl rfl ?_
 refine A_ rfl i2_ (fun _ => rfl)<|fun _=>⟨_, u2_, I_ rfl (sameDs_s (x := q.1) (fun d hd => ⟨(hq.ds d hd).1, (hq.ds d hd).2.1⟩)) (by simp [mids, It.mids]) Casts.refl (by kernel_rfl) rfl rfl rfl ?_⟩
 refine ap_<|fun _=>h3_ (fun k hk => a2_.2 ⟨_, i2_, hk⟩) fun hx9 =>r_ rfl (bn_ rfl) hx9 rfl rfl<|qx_ 4 hx9 rfl<|I_ rfl (eU_ (b := b33) (x := q.1) (r := q.2) (n := n) hq.ins.total) ds_ Casts.refl (by kernel_rfl) rfl rfl rfl ?_
 refine A_ rfl i2_ (fun _ => rfl)<|fun _=>⟨_, u2_, h3_ (fun k hk => a2_.2 ⟨_, i2_, hk⟩) fun hx9 =>r_ rfl (aq_ rfl) hx9 rfl rfl<|r_ rfl (l_ (C := boo false) (dO_ rfl rfl) (congrArg (fun b => Abs.v (Value.bool b)) (decide_eq_false (fun h => h rfl)))) hx9 rfl rfl<|qx_ 1 hx9 rfl<|Q_<|c_<|ad_ rfl<|p_<|c_<|d_<|a_<|q_ 1 rfl<|b_ (l_ (C := entsR (l[z.1]'hlt).batch) (i_ tabOk rfl rfl l0_ List.not_mem_nil rfl) rfl) rfl rfl<|b_ (B_ rfl Tryz.underlying26 (List.length_map _)) rfl rfl<|q_ 1 rfl<|g_<|c_<|y_<|ae_ (ι := Nat) (fun v => (.blk b94 62 (reA n q.1) :: .pc (exP b33 n q.1 q.2) :: (globs e1 e2))) (fun v => [(5, ptr b33), (10, ptr b94), (95, actsX l), (96, int (l.length : Nat)), (97, int (z.1 : Nat)), (242, entsR (l[z.1]'hlt).batch), (243, int ((l[z.1]'hlt).batch.length : Nat)), (244, int (v : Nat))]) (fun v => v ≤ (l[z.1]'hlt).batch.length) (fun v => (l[z.1]'hlt).batch.length - v) (0) (Nat.zero_le _) (by exact ⟨rfl, rfl, rfl, rfl, rfl, rfl, rfl, rfl, trivial⟩) (sk_ sr_) ?_⟩
 intro v hv
 refine d_<|a_<|q_ 1 rfl<|g_<|c_<|d_<|o_ rfl ?_ ?_
 rotate_left
 ·intro hc245
  refine W_<|h_ nofun<|h_ nofun<|V_<|u_<|c_<|a_<|b_ (C_ rfl rfl (by simp only [InR, lo, hi]; omega)) rfl rfl ?_
  refine q_ 1 rfl<|g_<|G_ (z.1 + 1, q.1, q.2) (by omega) (⟨by dsimp only; omega, by dsimp only; exact hq⟩) (by exact ⟨rfl, rfl, rfl, rfl, rfl, trivial⟩) (by dsimp only; repeat (first | exact List.nil_sublist _ | exact List.Sublist.refl _ | apply List.Sublist.cons_cons | apply List.Sublist.cons))
 intro hc245
 have hvl : v < (l[z.1]'hlt).batch.length := by omega
 have hlo := last_ins hq.ins ((l[z.1]'hlt).batch[v]'hvl).core.client
 have hbl8 := hfw.len
 refine p_<|c_<|d_<|y_<|d_<|a_<|b_ (J_ tabOk Tryz.underlying26 rfl rfl rfl rfl (aN_ (by omega)) rfl rfl) rfl rfl ?_
 refine b_ (Y_ tabOk rfl rfl rfl rfl) rfl rfl<|eb_ (H_ tabOk rfl) rfl rfl fun b22=>?_
 refine e_ (n_ (L' := entA ((l[z.1]'hlt).batch[v]'hvl)) tabOk rfl rfl rfl u0_ rfl (Nat.le_of_ble_eq_true rfl) rfl (by exact t_ rfl)) rfl rfl ?_
 refine g_<|c_<|d_<|a_<|q_ 3 rfl<|b_ (l_ (C := int ((l[z.1]'hlt).batch[v]'hvl).core.client) (i_ tabOk rfl rfl l0_ List.not_mem_nil rfl) rfl) rfl rfl<|s_ (exlast_s (b := b33) (x := q.1) (r := q.2) (n := n) (k := ((l[z.1]'hlt).batch[v]'hvl).core.client) ⟨by omega, by omega⟩) Casts.refl (by kernel_rfl) rfl rfl rfl ?_
 refine A_ rfl i2_ (fun _ => rfl)<|fun _=>⟨_, u2_, q_ 3 rfl<|eb_ (H_ tabOk rfl) rfl rfl fun b23=>?_⟩
 refine e_ (n_ (L' := ((q.1.l.last ((l[z.1]'hlt).batch[v]'hvl).core.client).getD Oc.zero).abs) tabOk rfl rfl rfl u0_ rfl (Nat.le_of_ble_eq_true rfl) rfl (by exact t_ rfl)) rfl rfl ?_
 refine q_ 1 rfl<|g_<|c_<|a1_ (ι := Nat) (fun q42 => (.blk q42 40 ((q.1.l.last ((l[z.1]'hlt).batch[v]'hvl).core.client).getD Oc.zero).abs :: .blk b23 40 ((q.1.l.last ((l[z.1]'hlt).batch[v]'hvl).core.client).getD Oc.zero).abs :: .blk b22 66 (entA ((l[z.1]'hlt).batch[v]'hvl)) :: .blk b94 62 (reA n q.1) :: .pc (exP b33 n q.1 q.2) :: (globs e1 e2))) (fun q42 => [(22, ptr b22), (23, ptr b23), (24, boo (q.1.l.last ((l[z.1]'hlt).batch[v]'hvl).core.client).isSome), (25, ptr q42), (26, boo (q.1.l.last ((l[z.1]'hlt).batch[v]'hvl).core.client).isSome), (5, ptr b33), (10, ptr b94), (95, actsX l), (96, int (l.length : Nat)), (97, int (z.1 : Nat)), (242, entsR (l[z.1]'hlt).batch), (243, int ((l[z.1]'hlt).batch.length : Nat)), (244, int (v : Nat))]) (fun q42 => True) ?_ ?_
 ·skip
  refine aa_ [] (.q 0 (.q 1 (.q 2 (.q 3 (.q 4 (.q 5 (.q 6 (.two 7 11 (.q 8 (.q 9 (.q 10 (.e 11 (.e 12 (.q 13 .nil)))))) (.e 7 (.q 8 (.q 9 (.q 10 (.e 12 (.q 13 .nil)))))))))))))) (by kernel_rfl) (by kernel_rfl) ?_
  refine qs_ 3 rfl<|hx_ fun hx9 =>r_ rfl (l_ (C := .agg q.1.l.abs) (x_ tabOk rfl rfl rfl l2_ List.not_mem_nil (Nat.le_of_ble_eq_true rfl)) rfl) hx9 rfl rfl<|qs_ 2 rfl<|r_ rfl (l_ (C := int ((l[z.1]'hlt).batch[v]'hvl).core.client) (i_ tabOk rfl rfl l1_ List.not_mem_nil rfl) rfl) hx9 rfl rfl<|aR_ ?_ ?_
  ·skip
   refine I_ rfl (ew_ (l := q.1.l) (k := ((l[z.1]'hlt).batch[v]'hvl).core.client)) (by simp [mids, It.mids]) Casts.refl (by kernel_rfl) rfl rfl rfl ?_
   refine ap_<|fun _=>qs_ 3 rfl<|aM_ tabOk rfl rfl rfl rfl fun b25 =>ex_ rfl (n_ (L' := ((q.1.l.last ((l[z.1]'hlt).batch[v]'hvl).core.client).getD Oc.zero).abs) tabOk rfl rfl rfl u0_ rfl (Nat.le_of_ble_eq_true rfl) rfl (by exact t_ rfl)) (by simp) rfl rfl ?_
   refine hx_ fun hx9 =>qx_ 1 hx9 rfl<|Q_<|ab_ (b25) (trivial) (by exact ⟨rfl, rfl, rfl, rfl, rfl, rfl, rfl, rfl, rfl, rfl, rfl, rfl, rfl, trivial⟩) sr_
  skip
  refine aM_ tabOk rfl rfl rfl rfl fun b25 =>I_ rfl (ew_ (l := q.1.l) (k := ((l[z.1]'hlt).batch[v]'hvl).core.client)) (by simp [mids, It.mids]) Casts.refl (by kernel_rfl) rfl rfl rfl ?_
  refine ap_<|fun _=>hx_ fun hx9 =>qx_ 3 hx9 rfl<|ex_ rfl (n_ (L' := ((q.1.l.last ((l[z.1]'hlt).batch[v]'hvl).core.client).getD Oc.zero).abs) tabOk rfl rfl rfl u0_ rfl (Nat.le_of_ble_eq_true rfl) rfl (by exact t_ rfl)) (by simp) rfl rfl ?_
  refine hx_ fun hx9 =>qx_ 1 hx9 rfl<|Q_<|ab_ (b25) (trivial) (by exact ⟨rfl, rfl, rfl, rfl, rfl, rfl, rfl, rfl, rfl, rfl, rfl, rfl, rfl, trivial⟩) sr_
 intro q42 hq42
 refine d_<|lk_ fun hnod => ?_
 have hnA : q42 ∉ (It.pc (exP b33 n q.1 q.2)).mids := gL_ (α := []) hnod i3_
 have hnB : b23 ∉ (It.pc (exP b33 n q.1 q.2)).mids := gL_ (α := [_]) hnod i2_
 have hnC : b22 ∉ (It.pc (exP b33 n q.1 q.2)).mids := gL_ (α := [_, _]) hnod i1_
 have hnD : b94 ∉ (It.pc (exP b33 n q.1 q.2)).mids := gL_ (α := [_, _, _]) hnod i0_
 refine aa_ (It.pc (exP b33 n q.1 q.2)).mids (.q 0 (.q 1 (.q 2 (.q 3 (.q 4 (.q 5 (.q 6 (.q 7 (.q 8 (.q 9 (.q 10 (.q 11 (.q 13 (.q 14 (.q 15 (.q 16 (.q 17 (.q 18 (.e 12 (.e 19 (.q 20 (.q 21 .nil)))))))))))))))))))))) (by kernel_rfl) (by kernel_rfl) ?_
 refine h3_ (fun k hk => a2_.2 ⟨_, i4_, hk⟩) fun hx9 =>r_ rfl (l_ (C := .agg ((q.1.l.last ((l[z.1]'hlt).batch[v]'hvl).core.client).getD Oc.zero).abs) (x_ tabOk rfl rfl rfl l1_ (by exact hnB) (Nat.le_of_ble_eq_true rfl)) rfl) hx9 rfl rfl ?_
 refine r_ rfl (l_ (C := .agg ((q.1.l.last ((l[z.1]'hlt).batch[v]'hvl).core.client).getD Oc.zero).abs) (x_ tabOk rfl rfl rfl l0_ (by exact hnA) (Nat.le_of_ble_eq_true rfl)) rfl) hx9 rfl rfl ?_
 refine r_ rfl (l_ (C := boo false) (dP_ rfl rfl (b8_ _) (b8_ _) (by kernel_rfl) (neqOc hlo hlo)) (congrArg (fun b => Abs.v (Value.bool b)) (by simp))) hx9 rfl rfl ?_
 refine qx_ 3 hx9 rfl<|r_ rfl (l_ (C := boo false) (gk_ rfl rfl (by kernel_rfl)) (congrArg (fun b => Abs.v (Value.bool b)) (by simp))) hx9 rfl rfl ?_
 refine qx_ 4 hx9 rfl<|r_ rfl (l_ (C := coreA ((l[z.1]'hlt).batch[v]'hvl).core) (x_ tabOk rfl rfl rfl l2_ (by exact hnC) (Nat.le_of_ble_eq_true rfl)) rfl) hx9 rfl rfl ?_
 refine qx_ 3 hx9 rfl<|r_ rfl (l_ (C := .agg q.1.l.abs) (x_ tabOk rfl rfl rfl l3_ (by exact hnD) (Nat.le_of_ble_eq_true rfl)) rfl) hx9 rfl rfl ?_
 refine qx_ 1 hx9 rfl<|r_ rfl (l_ (C := coreA ((l[z.1]'hlt).batch[v]'hvl).core) (x_ tabOk rfl rfl rfl l2_ (by exact hnC) (Nat.le_of_ble_eq_true rfl)) rfl) hx9 rfl rfl ?_
 refine I_ rfl (kL_ (b := b33) (x := q.1) (r := q.2) (n := n) (c := ((l[z.1]'hlt).batch[v]'hvl).core) ⟨by omega, by omega⟩) ds_ Casts.refl (by kernel_rfl) rfl rfl rfl ?_
 refine A_ rfl i4_ (fun _ => rfl)<|fun _=>⟨_, u4_, I_ rfl (rstale_x (x := q.1) (c := ((l[z.1]'hlt).batch[v]'hvl).core)) (by simp [mids, It.mids]) Casts.refl (by kernel_rfl) rfl rfl rfl ?_⟩
 refine ap_<|fun _=>h3_ (fun k hk => a2_.2 ⟨_, i4_, hk⟩) fun hx9 =>r_ rfl (l_ (C := boo false) (gk_ rfl rfl (by kernel_rfl)) (congrArg (fun b => Abs.v (Value.bool b)) (by simp))) hx9 rfl rfl ?_
 refine qx_ 1 hx9 rfl<|Q_<|c_<|ad_ rfl<|p_<|u_<|c_<|a_<|b_ (C_ rfl rfl (by simp only [InR, lo, hi]; omega)) rfl rfl ?_
 refine q_ 1 rfl<|g_<|G_ (v + 1) (by omega) (by omega) (by exact ⟨rfl, rfl, rfl, rfl, rfl, rfl, rfl, rfl, trivial⟩) (sk_ (sk_ (sk_ sr_)))
theorem xplays_s (he : isIf e1) (hr : isIf e2) (hi9 : ∀ a ∈ l, a.Ins) : Spec Tryz.prog 5 [int n, actsX l] (globs e1 e2) (fun _ : Unit => []) (fun _ => boo true) := by
  by_cases hn : 1 ≤ n ∧ n ≤ 7
  · exact jL_ he hr hn hi9
  · exact jK_ he hr (by omega)
end
end Go.Proofs.YtickdhjljpnlpaaGreatDoor.A
