/-
  Packed out of the texts: AD16, AdmR, AdmS, AD17, AP2, AP3, AP4.
-/
import Derived.Test.YtggajaigfkekhaaGreatQ010
set_option maxRecDepth 100000
set_option linter.unusedSimpArgs false
set_option linter.unusedVariables false
namespace Go.Proofs.YtggajaigfkekhaaGreat.A
open Go.RowKit
section
variable {c : Chg}
set_option maxHeartbeats 2000000 in
theorem afew_s  : Spec Tryz.prog 6 [.agg c.abs] [] (fun _ : {b : Bool // b = true → c.Asked} => []) (fun z => boo z.1) := by
 have hrl := hP_ c
 refine G_ Tryz.func6 rfl Tryz.ntmps6 rfl fun G w =>d_<|a_<|eb_ (L_ rfl) rfl rfl fun b1=>?_
 refine q_ 1 rfl<|g_<|c_<|d_<|d_<|a_<|q_ 1 rfl<|b_ (h_ tabOk rfl rfl l0_ List.not_mem_nil rfl) rfl rfl<|q_ 1 rfl<|b_ (h_ tabOk rfl rfl l0_ List.not_mem_nil rfl) rfl rfl<|e_ (ae_ tabOk Tryz.underlying74 rfl rfl rfl rfl rfl rfl rfl) rfl rfl<|b_ (z_ (m := 2) rfl Tryz.underlying74 rfl) rfl rfl<|q_ 1 rfl<|g_<|c_<|t_<|S_ (ι := Nat) (fun z => [.blk b1 26 c.abs]) (fun z => [(1, ptr b1), (13, .sl 1 (c.rows.map fun ps => [prfsA ps])), (14, int (2 : Nat)), (15, int (z : Nat))]) (fun z => z ≤ 2 ∧ ∀ ps ∈ c.rows.take z, RFew ps) (fun z => 2 - z) (0) (⟨Nat.zero_le _, by simp⟩) (by exact ⟨rfl, rfl, rfl, rfl, trivial⟩) sr_ ?_
 intro z hz
 refine d_<|a_<|q_ 1 rfl<|g_<|c_<|d_<|r_ rfl ?_ ?_
 rotate_left
 ·intro hc16
  refine Q_<|i_ nofun<|i_ nofun<|P_<|c_<|d_<|a_<|q_ 1 rfl<|b_ (h_ tabOk rfl rfl l0_ List.not_mem_nil rfl) rfl rfl<|b_ (z_ rfl Tryz.underlying23 (List.length_map _)) rfl rfl<|q_ 2 rfl<|g_<|c_<|n_<|f_ (rs := [.tmp 2]) rfl (RV.tmp rfl RV.nil) (⟨decide ((c.points.length : Int) ≤ 8), fun h => ⟨hz.2 _ (by rw [show z = 2 by omega]; exact List.mem_cons_self), hz.2 _ (by rw [show z = 2 by omega]; exact List.mem_cons_of_mem _ List.mem_cons_self), by have h9 := of_decide_eq_true h; omega⟩⟩) sn_ ?_
  exact rfl
 intro hc16
 have hr : z < c.rows.length := by omega
 refine p_<|c_<|d_<|t_<|d_<|a_<|b_ (D_ tabOk Tryz.underlying74 rfl rfl rfl rfl (aa_ (by omega)) rfl rfl) rfl rfl ?_
 refine b_ (au_ tabOk rfl rfl rfl) rfl rfl<|q_ 1 rfl<|g_<|c_<|d_<|d_<|a_<|q_ 1 rfl<|b_ (z_ rfl Tryz.underlying24 (List.length_map _)) rfl rfl<|q_ 1 rfl<|g_<|c_<|r_ rfl ?_ ?_
 ·intro hc21
  refine d_<|a_<|q_ 1 rfl<|g_<|c_<|n_<|i_ nofun<|E_<|i_ nofun<|i_ nofun<|E_<|i_ nofun<|f_ (rs := [.tmp 2]) rfl (RV.tmp rfl RV.nil) (⟨false, fun h => by cases h⟩) sn_ ?_
  exact rfl
 intro hc21
 refine p_<|c_<|d_<|a_<|q_ 1 rfl<|b_ (z_ rfl Tryz.underlying24 (List.length_map _)) rfl rfl<|q_ 1 rfl<|g_<|c_<|t_<|S_ (ι := Nat) (fun y => [.blk b1 26 c.abs]) (fun y => [(1, ptr b1), (13, .sl 1 (c.rows.map fun ps => [prfsA ps])), (14, int (2 : Nat)), (15, int (z : Nat)), (22, prfsA (c.rows[z]'hr)), (23, int ((c.rows[z]'hr).length : Nat)), (24, int (y : Nat))]) (fun y => y ≤ (c.rows[z]'hr).length ∧ ∀ p ∈ (c.rows[z]'hr).take y, PFew p) (fun y => (c.rows[z]'hr).length - y) (0) (⟨Nat.zero_le _, by simp⟩) (by exact ⟨rfl, rfl, rfl, rfl, rfl, rfl, rfl, trivial⟩) sr_ ?_
 intro y hy
 refine d_<|a_<|q_ 1 rfl<|g_<|c_<|d_<|r_ rfl ?_ ?_
 rotate_left
 ·intro hc25
  refine Q_<|i_ nofun<|i_ nofun<|P_<|o_<|c_<|a_<|b_ (s_ rfl rfl (by simp only [InR, lo, hi]; omega)) rfl rfl ?_
  refine q_ 1 rfl<|g_<|x_ (z + 1) (by omega) (⟨by omega, f3_ hz.2 hr ⟨by omega, gM_ hy.2 (by omega)⟩⟩) (by exact ⟨rfl, rfl, rfl, rfl, trivial⟩) sr_
 intro hc25
 have hr2 : y < (c.rows[z]'hr).length := by omega
 refine p_<|c_<|d_<|t_<|d_<|a_<|b_ (D_ tabOk Tryz.underlying24 rfl rfl rfl rfl (aa_ (by omega)) rfl rfl) rfl rfl ?_
 refine b_ (K_ tabOk rfl rfl rfl rfl) rfl rfl<|eb_ (B_ tabOk rfl) rfl rfl fun b6=>?_
 refine e_ (w_ tabOk rfl rfl rfl u0_ rfl (Nat.le_of_ble_eq_true rfl) rfl rfl) rfl rfl<|g_<|c_<|d_<|d_<|a_<|q_ 1 rfl<|b_ (h_ tabOk rfl rfl l0_ List.not_mem_nil rfl) rfl rfl<|b_ (z_ rfl Tryz.underlying75 (List.length_map _)) rfl rfl<|q_ 1 rfl<|g_<|c_<|r_ rfl ?_ ?_
 ·intro hc31
  refine d_<|a_<|q_ 1 rfl<|g_<|c_<|n_<|i_ nofun<|E_<|i_ nofun<|i_ nofun<|E_<|E_<|i_ nofun<|i_ nofun<|E_<|i_ nofun<|f_ (rs := [.tmp 2]) rfl (RV.tmp rfl RV.nil) (⟨false, fun h => by cases h⟩) sn_ ?_
  exact rfl
 intro hc31
 refine p_<|c_<|d_<|a_<|q_ 1 rfl<|b_ (h_ tabOk rfl rfl l0_ List.not_mem_nil rfl) rfl rfl<|b_ (z_ rfl Tryz.underlying75 (List.length_map _)) rfl rfl<|q_ 1 rfl<|g_<|c_<|t_<|S_ (ι := Nat) (fun x => [.blk b1 26 c.abs]) (fun x => [(1, ptr b1), (13, .sl 1 (c.rows.map fun ps => [prfsA ps])), (14, int (2 : Nat)), (15, int (z : Nat)), (22, prfsA (c.rows[z]'hr)), (23, int ((c.rows[z]'hr).length : Nat)), (24, int (y : Nat)), (33, entsA ((c.rows[z]'hr)[y]'hr2).batch), (34, int (((c.rows[z]'hr)[y]'hr2).batch.length : Nat)), (35, int (x : Nat))]) (fun x => x ≤ ((c.rows[z]'hr)[y]'hr2).batch.length ∧ ∀ e ∈ ((c.rows[z]'hr)[y]'hr2).batch.take x, EFew e) (fun x => ((c.rows[z]'hr)[y]'hr2).batch.length - x) (0) (⟨Nat.zero_le _, by simp⟩) (by exact ⟨rfl, rfl, rfl, rfl, rfl, rfl, rfl, rfl, rfl, rfl, trivial⟩) (sk_ sr_) ?_
 intro x hx
 refine d_<|a_<|q_ 1 rfl<|g_<|c_<|d_<|r_ rfl ?_ ?_
 rotate_left
 ·intro hc36
  refine Q_<|i_ nofun<|i_ nofun<|P_<|o_<|c_<|a_<|b_ (s_ rfl rfl (by simp only [InR, lo, hi]; omega)) rfl rfl ?_
  refine q_ 1 rfl<|g_<|x_ (y + 1) (by omega) (⟨by omega, f3_ hy.2 hr2 ⟨by omega, gM_ hx.2 (by omega)⟩⟩) (by exact ⟨rfl, rfl, rfl, rfl, rfl, rfl, rfl, trivial⟩) sr_
 intro hc36
 have hr3 : x < ((c.rows[z]'hr)[y]'hr2).batch.length := by omega
 refine p_<|c_<|d_<|t_<|d_<|a_<|b_ (D_ tabOk Tryz.underlying75 rfl rfl rfl rfl (aa_ (by omega)) rfl rfl) rfl rfl ?_
 refine b_ (K_ tabOk rfl rfl rfl rfl) rfl rfl<|eb_ (B_ tabOk rfl) rfl rfl fun b8=>?_
 refine e_ (w_ tabOk rfl rfl rfl u0_ rfl (Nat.le_of_ble_eq_true rfl) rfl rfl) rfl rfl<|g_<|c_<|d_<|a_<|q_ 2 rfl<|b_ (h_ tabOk rfl rfl l0_ List.not_mem_nil rfl) rfl rfl<|b_ (bH_ rfl Tryz.underlying9) rfl rfl<|q_ 2 rfl<|C_ (t := 44) rfl ?_ ?_
 ·intro hc44
  refine q_ 6 rfl<|g_<|c_<|O_ rfl<|d_<|a_<|q_ 1 rfl<|g_<|c_<|n_<|E_<|i_ nofun<|i_ nofun<|E_<|E_<|i_ nofun<|i_ nofun<|E_<|E_<|i_ nofun<|i_ nofun<|E_<|i_ nofun<|f_ (rs := [.tmp 2]) rfl (RV.tmp rfl RV.nil) (⟨false, fun h => by cases h⟩) sn_ ?_
  exact rfl
 intro hc44
 refine q_ 2 rfl<|b_ (h_ tabOk rfl rfl l0_ List.not_mem_nil rfl) rfl rfl<|b_ (bH_ rfl Tryz.underlying9) rfl rfl<|q_ 2 rfl<|g_<|c_<|r_ rfl ?_ ?_
 rotate_left
 ·intro hc50
  refine p_<|o_<|c_<|a_<|b_ (s_ rfl rfl (by simp only [InR, lo, hi]; omega)) rfl rfl ?_
  refine q_ 1 rfl<|g_<|x_ (x + 1) (by omega) (⟨by omega, f3_ hx.2 hr3 ⟨by omega, by omega⟩⟩) (by exact ⟨rfl, rfl, rfl, rfl, rfl, rfl, rfl, rfl, rfl, rfl, trivial⟩) (sk_ sr_)
 intro hc50
 refine d_<|a_<|q_ 1 rfl<|g_<|c_<|n_<|E_<|i_ nofun<|i_ nofun<|E_<|E_<|i_ nofun<|i_ nofun<|E_<|E_<|i_ nofun<|i_ nofun<|E_<|i_ nofun<|f_ (rs := [.tmp 2]) rfl (RV.tmp rfl RV.nil) (⟨false, fun h => by cases h⟩) sn_ ?_
 exact rfl
end
theorem p0_lits (v : Int) (h : InR .i64 v) : (⟨v, 0, [p0], [], []⟩ : Chg).Lits := ⟨h, by simp only [InR, lo, hi]; omega, by
  intro p hp
  have : p = p0 := by simpa using hp
  subst this
  simp only [InR, lo, hi, p0]; omega, by simp, by simp⟩
theorem p0_cin (v : Int) (h : InR .i64 v) : CIn ⟨v, 0, [p0], [], []⟩ := ⟨⟨⟨by simp, by simp⟩, ⟨by simp, by simp⟩, by simp⟩, p0_lits v h⟩
theorem gf_ {v : Int} (h : 1 ≤ v) (h2 : v ≤ 1000) : (⟨v, 0, [p0], [], []⟩ : Chg).check 4 = 0 := by
  have hr : (⟨v, 0, [p0], [], []⟩ : Chg).Right 4 := by
    obtain ⟨_, _, r3, r4, r5, r6⟩ := c0_right
    exact ⟨h, by show v ≤ _; omega, r3, r4, ⟨by simp, dz_, by simp⟩, ⟨by simp, dz_, by simp⟩⟩
  unfold Chg.check
  rw [if_neg (by omega), X_.2 hr]
  rfl
def fA : Chg := ⟨3, 0, [p0], [], []⟩
def fB : Chg := ⟨2, 0, [p0], [], []⟩
theorem fA_in : CIn fA := p0_cin 3 (by simp only [InR, lo, hi]; omega)
theorem fB_in : CIn fB := p0_cin 2 (by simp only [InR, lo, hi]; omega)
noncomputable def fM1 : List (Int × Kp) := [(0, mkKp [] fA)]
noncomputable def fD1 : List (ByteArray × Nat) := pm [] (dKey fA.bytes)
noncomputable def fM2 : List (Int × Kp) := [(0, mkKp [] fA), (1, mkKp fD1 fB)]
noncomputable def fD2 : List (ByteArray × Nat) := pm fD1 (dKey fB.bytes)
theorem fk1 : takeCm 4 [] [] 0 fA = fM1 ∧ takeD 4 [] [] 0 fA = fD1 ∧ takeE 4 [] 0 fA = 0 := cW_ (n := 4) (D := []) (cm := []) (who := 0) (g := fA) (eU_ (by decide) (gf_ (by decide) (by decide)) rfl)
theorem fk2 : takeCm 4 fD1 fM1 1 fB = fM2 ∧ takeD 4 fD1 fM1 1 fB = fD2 ∧ takeE 4 fM1 1 fB = 0 := cW_ (n := 4) (D := fD1) (cm := fM1) (who := 1) (g := fB) (eU_ (by decide) (gf_ (by decide) (by decide)) rfl)
theorem fk3 : takeCm 4 fD2 fM2 0 fB = fM2 ∧ takeD 4 fD2 fM2 0 fB = fD2 ∧ takeE 4 fM2 0 fB = 13 := eV_ (n := 4) (D := fD2) (cm := fM2) (who := 0) (g := fB) (eT_ (k := mkKp [] fA) (by decide) (gf_ (by decide) (by decide)) rfl) (by decide)
theorem srt_32 : srt [3, 2] = [2, 3] := b1_ ((cC_ _).trans (List.Perm.swap _ _ _)) (cr_ _) (by decide)
theorem srt_3 : srt [3] = [3] := b1_ (cC_ _) (cr_ _) (by decide)
theorem fv1 : vwK fM1 0 = [3] := rfl
theorem fv2 : vwK fM2 0 = [3, 2] := rfl
theorem fv3 : vwK fM2 3 = [3] := rfl
theorem fj1 : joinR 4 fM1 0 = (0, false) := by
  have h : joinL fM1 0 = [3] := by unfold joinL; rw [fv1, srt_3]; rfl
  unfold joinR
  rw [h]
  rfl
theorem fj2 : joinR 4 fM2 0 = (2, true) := by
  have h : joinL fM2 0 = [2, 3] := by unfold joinL; rw [fv2, srt_32]; rfl
  unfold joinR
  rw [h]
  rfl
theorem fD1_num : Num1 fD1 := Num1.nil.put _
theorem fD2_num : Num1 fD2 := fD1_num.put _
theorem k4_ : fD1.length ≤ 1 := ca_ [] (dKey fA.bytes)
theorem fD2_len : fD2.length ≤ 2 := Nat.le_trans (ca_ fD1 _) (by have := k4_; omega)
set_option maxHeartbeats 2000000 in
theorem jn_  : Spec Tryz.prog 5 [] [] (fun _ : Unit => []) (fun _ => boo true) := by
 refine G_ Tryz.func5 rfl Tryz.ntmps5 rfl fun G w =>d_<|a_<|q_ 1 rfl<|g_<|c_<|d_<|a_<|u_ (k1_) Casts.refl (by kernel_rfl) rfl rfl rfl ?_
 refine cB_ _ (List.Perm.refl _) (by intro x hx; cases hx) ?_
 intro z0
 refine ⟨_, List.Perm.refl _, b_ (b4_ rfl (fun _ _ => by kernel_rfl)) rfl rfl ?_⟩
 refine u_ (anew_s (q := z0.1) (n := 4) (by decide) (by decide)) Casts.refl (by kernel_rfl) rfl rfl rfl ?_
 refine cB_ _ (List.Perm.refl _) (by intro x hx; cases hx) ?_
 intro z1
 refine ⟨_, List.Perm.refl _, q_ 1 rfl<|g_<|c_<|d_<|a_<|q_ 1 rfl<|b_ (m_ (C := .agg p0.abs) (J_ tabOk rfl rfl rfl rfl) rfl) rfl rfl<|e_ (ae_ tabOk Tryz.underlying23 rfl rfl rfl (a2_ (Pnt.size _)) rfl rfl rfl) rfl rfl<|b_ (J_ tabOk rfl rfl rfl rfl) rfl rfl<|u_ (gr_ (h := z1.1) (q := z0.1) (bd := z0.2.1) (bt := z0.2.2) (bm := z1.2.1) (n := 4) (av := z1.2.2.1) (D := []) (cm := []) (who := 0) (g := fA) fA_in (by simp only [InR, lo, hi]; omega) Num1.nil (by decide)) (Casts.keep (Casts.keep (Casts.cons (aN_ (Casts.keep (Casts.keep (Casts.keep (Casts.nils (s := 3) (Casts.nils (s := 3) Casts.refl)))))) Casts.refl))) (by kernel_rfl) rfl rfl rfl ?_⟩
 refine bX_ [.blk z1.1 92 [.ifc 34 (ptr z0.1), int (4 : Nat), mapV z1.2.1, .v z1.2.2.1], own 93 1 z1.2.2.1 ((newTls z1.2.2.2.1).map fun x => [ptr x.t]), .pc (tlsP (newTls z1.2.2.2.1)), .pc (mapPc z0.2.2 Value.string cntV sOk [])] (by rw [List.perm_iff_count]; intro a; simp [mids, It.mids, List.count_append, List.count_cons]; try omega) (by intro x hx; simp only [List.mem_cons, List.not_mem_nil, or_false] at hx; rcases hx with rfl | rfl | rfl | rfl <;> first | exact .inl ⟨by simp, rfl⟩ | exact .inr ⟨_, List.mem_cons_self, rfl⟩ | exact .inr ⟨_, (List.mem_cons_of_mem _ List.mem_cons_self), rfl⟩ | exact .inr ⟨_, (List.mem_cons_of_mem _ (List.mem_cons_of_mem _ List.mem_cons_self)), rfl⟩ | exact .inr ⟨_, (List.mem_cons_of_mem _ (List.mem_cons_of_mem _ (List.mem_cons_of_mem _ List.mem_cons_self))), rfl⟩) (by intro x hx; simp only [List.mem_cons, List.not_mem_nil, or_false] at hx; rcases hx with rfl | rfl | rfl | rfl <;> simp) ?_
 intro _
 rw [fk1.1, fk1.2.1, fk1.2.2]
 refine q_ 1 rfl<|g_<|c_<|d_<|a_<|q_ 1 rfl<|u_ (im_ (h := z1.1) (q := z0.1) (bm := z1.2.1) (n := 4) (av := z1.2.2.1) (cm := fM1) (view := 0) (by show ([0] : List Int).Nodup; decide) (by show 1 ≤ 1000; decide) (by decide)) Casts.refl (by kernel_rfl) rfl rfl rfl ?_
 refine bX_ [.blk z1.1 92 [.ifc 34 (ptr z0.1), int (4 : Nat), mapV z1.2.1, .v z1.2.2.1], own 93 1 z1.2.2.1 ((newTls z1.2.2.2.1).map fun x => [ptr x.t]), .pc (tlsP (newTls z1.2.2.2.1)), .blk z0.1 86 [mapV z0.2.1, mapV z0.2.2], .pc (mapPc z0.2.1 Value.string cntV sOk fD1), .pc (mapPc z0.2.2 Value.string cntV sOk [])] (by rw [List.perm_iff_count]; intro a; simp [mids, It.mids, List.count_append, List.count_cons]; try omega) (by intro x hx; simp only [List.mem_cons, List.not_mem_nil, or_false] at hx; rcases hx with rfl | rfl <;> first | exact .inl ⟨by simp, rfl⟩ | exact .inr ⟨_, List.mem_cons_self, rfl⟩ | exact .inr ⟨_, (List.mem_cons_of_mem _ List.mem_cons_self), rfl⟩ | exact .inr ⟨_, (List.mem_cons_of_mem _ (List.mem_cons_of_mem _ List.mem_cons_self)), rfl⟩ | exact .inr ⟨_, (List.mem_cons_of_mem _ (List.mem_cons_of_mem _ (List.mem_cons_of_mem _ List.mem_cons_self))), rfl⟩ | exact .inr ⟨_, (List.mem_cons_of_mem _ (List.mem_cons_of_mem _ (List.mem_cons_of_mem _ (List.mem_cons_of_mem _ List.mem_cons_self)))), rfl⟩ | exact .inr ⟨_, (List.mem_cons_of_mem _ (List.mem_cons_of_mem _ (List.mem_cons_of_mem _ (List.mem_cons_of_mem _ (List.mem_cons_of_mem _ List.mem_cons_self))))), rfl⟩) (by intro x hx; simp only [List.mem_cons, List.not_mem_nil, or_false] at hx; rcases hx with rfl | rfl | rfl | rfl | rfl | rfl <;> simp) ?_
 intro _
 rw [fj1]
 refine q_ 2 rfl<|b_ (m_ (C := boo false) (aV_ rfl rfl) rfl) rfl rfl<|q_ 2 rfl<|g_<|c_<|d_<|a_<|q_ 1 rfl<|b_ (m_ (C := .agg p0.abs) (J_ tabOk rfl rfl rfl rfl) rfl) rfl rfl<|e_ (ae_ tabOk Tryz.underlying23 rfl rfl rfl (a2_ (Pnt.size _)) rfl rfl rfl) rfl rfl<|b_ (J_ tabOk rfl rfl rfl rfl) rfl rfl<|u_ (gr_ (h := z1.1) (q := z0.1) (bd := z0.2.1) (bt := z0.2.2) (bm := z1.2.1) (n := 4) (av := z1.2.2.1) (D := fD1) (cm := fM1) (who := 1) (g := fB) fB_in (by simp only [InR, lo, hi]; omega) fD1_num (by have := k4_; omega)) (Casts.keep (Casts.keep (Casts.cons (aN_ (Casts.keep (Casts.keep (Casts.keep (Casts.nils (s := 3) (Casts.nils (s := 3) Casts.refl)))))) Casts.refl))) (by kernel_rfl) rfl rfl rfl ?_
 refine bX_ [.blk z1.1 92 [.ifc 34 (ptr z0.1), int (4 : Nat), mapV z1.2.1, .v z1.2.2.1], own 93 1 z1.2.2.1 ((newTls z1.2.2.2.1).map fun x => [ptr x.t]), .pc (tlsP (newTls z1.2.2.2.1)), .pc (mapPc z0.2.2 Value.string cntV sOk [])] (by rw [List.perm_iff_count]; intro a; simp [mids, It.mids, List.count_append, List.count_cons]; try omega) (by intro x hx; simp only [List.mem_cons, List.not_mem_nil, or_false] at hx; rcases hx with rfl | rfl | rfl | rfl <;> first | exact .inl ⟨by simp, rfl⟩ | exact .inr ⟨_, List.mem_cons_self, rfl⟩ | exact .inr ⟨_, (List.mem_cons_of_mem _ List.mem_cons_self), rfl⟩ | exact .inr ⟨_, (List.mem_cons_of_mem _ (List.mem_cons_of_mem _ List.mem_cons_self)), rfl⟩ | exact .inr ⟨_, (List.mem_cons_of_mem _ (List.mem_cons_of_mem _ (List.mem_cons_of_mem _ List.mem_cons_self))), rfl⟩) (by intro x hx; simp only [List.mem_cons, List.not_mem_nil, or_false] at hx; rcases hx with rfl | rfl | rfl | rfl <;> simp) ?_
 intro _
 rw [fk2.1, fk2.2.1, fk2.2.2]
 refine q_ 1 rfl<|g_<|c_<|d_<|a_<|q_ 1 rfl<|u_ (im_ (h := z1.1) (q := z0.1) (bm := z1.2.1) (n := 4) (av := z1.2.2.1) (cm := fM2) (view := 0) (by show ([0, 1] : List Int).Nodup; decide) (by show 2 ≤ 1000; decide) (by decide)) Casts.refl (by kernel_rfl) rfl rfl rfl ?_
 refine bX_ [.blk z1.1 92 [.ifc 34 (ptr z0.1), int (4 : Nat), mapV z1.2.1, .v z1.2.2.1], own 93 1 z1.2.2.1 ((newTls z1.2.2.2.1).map fun x => [ptr x.t]), .pc (tlsP (newTls z1.2.2.2.1)), .blk z0.1 86 [mapV z0.2.1, mapV z0.2.2], .pc (mapPc z0.2.1 Value.string cntV sOk fD2), .pc (mapPc z0.2.2 Value.string cntV sOk [])] (by rw [List.perm_iff_count]; intro a; simp [mids, It.mids, List.count_append, List.count_cons]; try omega) (by intro x hx; simp only [List.mem_cons, List.not_mem_nil, or_false] at hx; rcases hx with rfl | rfl <;> first | exact .inl ⟨by simp, rfl⟩ | exact .inr ⟨_, List.mem_cons_self, rfl⟩ | exact .inr ⟨_, (List.mem_cons_of_mem _ List.mem_cons_self), rfl⟩ | exact .inr ⟨_, (List.mem_cons_of_mem _ (List.mem_cons_of_mem _ List.mem_cons_self)), rfl⟩ | exact .inr ⟨_, (List.mem_cons_of_mem _ (List.mem_cons_of_mem _ (List.mem_cons_of_mem _ List.mem_cons_self))), rfl⟩ | exact .inr ⟨_, (List.mem_cons_of_mem _ (List.mem_cons_of_mem _ (List.mem_cons_of_mem _ (List.mem_cons_of_mem _ List.mem_cons_self)))), rfl⟩ | exact .inr ⟨_, (List.mem_cons_of_mem _ (List.mem_cons_of_mem _ (List.mem_cons_of_mem _ (List.mem_cons_of_mem _ (List.mem_cons_of_mem _ List.mem_cons_self))))), rfl⟩) (by intro x hx; simp only [List.mem_cons, List.not_mem_nil, or_false] at hx; rcases hx with rfl | rfl | rfl | rfl | rfl | rfl <;> simp) ?_
 intro _
 rw [fj2]
 refine q_ 2 rfl<|b_ (m_ (C := boo true) (aV_ rfl rfl) rfl) rfl rfl<|q_ 2 rfl<|g_<|c_<|d_<|a_<|q_ 1 rfl<|b_ (m_ (C := boo true) (aq_ rfl rfl) rfl) rfl rfl<|q_ 2 rfl<|b_ (m_ (C := boo true) (aq_ rfl rfl) rfl) rfl rfl<|q_ 3 rfl<|b_ (ck_ rfl) rfl rfl<|q_ 6 rfl<|b_ (m_ (C := boo true) (aq_ rfl rfl) rfl) rfl rfl<|q_ 3 rfl<|u_ (lx_ (h := z1.1) (q := z0.1) (bm := z1.2.1) (n := 4) (av := z1.2.2.1) (cm := fM2) (view := 3) (by show ([0, 1] : List Int).Nodup; decide) (by show 2 ≤ 1000; decide)) Casts.refl (by kernel_rfl) rfl rfl rfl ?_
 refine bX_ [.blk z1.1 92 [.ifc 34 (ptr z0.1), int (4 : Nat), mapV z1.2.1, .v z1.2.2.1], own 93 1 z1.2.2.1 ((newTls z1.2.2.2.1).map fun x => [ptr x.t]), .pc (tlsP (newTls z1.2.2.2.1)), .blk z0.1 86 [mapV z0.2.1, mapV z0.2.2], .pc (mapPc z0.2.1 Value.string cntV sOk fD2), .pc (mapPc z0.2.2 Value.string cntV sOk [])] (by rw [List.perm_iff_count]; intro a; simp [mids, It.mids, List.count_append, List.count_cons]; try omega) (by intro x hx; simp only [List.mem_cons, List.not_mem_nil, or_false] at hx; rcases hx with rfl | rfl <;> first | exact .inl ⟨by simp, rfl⟩ | exact .inr ⟨_, List.mem_cons_self, rfl⟩ | exact .inr ⟨_, (List.mem_cons_of_mem _ List.mem_cons_self), rfl⟩ | exact .inr ⟨_, (List.mem_cons_of_mem _ (List.mem_cons_of_mem _ List.mem_cons_self)), rfl⟩ | exact .inr ⟨_, (List.mem_cons_of_mem _ (List.mem_cons_of_mem _ (List.mem_cons_of_mem _ List.mem_cons_self))), rfl⟩ | exact .inr ⟨_, (List.mem_cons_of_mem _ (List.mem_cons_of_mem _ (List.mem_cons_of_mem _ (List.mem_cons_of_mem _ List.mem_cons_self)))), rfl⟩ | exact .inr ⟨_, (List.mem_cons_of_mem _ (List.mem_cons_of_mem _ (List.mem_cons_of_mem _ (List.mem_cons_of_mem _ (List.mem_cons_of_mem _ List.mem_cons_self))))), rfl⟩) (by intro x hx; simp only [List.mem_cons, List.not_mem_nil, or_false] at hx; rcases hx with rfl | rfl | rfl | rfl | rfl | rfl <;> simp) ?_
 intro _
 rw [fv3]
 refine b_ (m_ (C := boo true) (aq_ rfl rfl) rfl) rfl rfl<|q_ 3 rfl<|b_ (m_ (C := .agg p0.abs) (J_ tabOk rfl rfl rfl rfl) rfl) rfl rfl<|e_ (ae_ tabOk Tryz.underlying23 rfl rfl rfl (a2_ (Pnt.size _)) rfl rfl rfl) rfl rfl<|b_ (J_ tabOk rfl rfl rfl rfl) rfl rfl<|u_ (gr_ (h := z1.1) (q := z0.1) (bd := z0.2.1) (bt := z0.2.2) (bm := z1.2.1) (n := 4) (av := z1.2.2.1) (D := fD2) (cm := fM2) (who := 0) (g := fB) fB_in (by simp only [InR, lo, hi]; omega) fD2_num (by have := fD2_len; omega)) (Casts.keep (Casts.keep (Casts.cons (aN_ (Casts.keep (Casts.keep (Casts.keep (Casts.nils (s := 3) (Casts.nils (s := 3) Casts.refl)))))) Casts.refl))) (by kernel_rfl) rfl rfl rfl ?_
 refine bX_ [.blk z1.1 92 [.ifc 34 (ptr z0.1), int (4 : Nat), mapV z1.2.1, .v z1.2.2.1], own 93 1 z1.2.2.1 ((newTls z1.2.2.2.1).map fun x => [ptr x.t]), .pc (tlsP (newTls z1.2.2.2.1)), .pc (mapPc z0.2.2 Value.string cntV sOk [])] (by rw [List.perm_iff_count]; intro a; simp [mids, It.mids, List.count_append, List.count_cons]; try omega) (by intro x hx; simp only [List.mem_cons, List.not_mem_nil, or_false] at hx; rcases hx with rfl | rfl | rfl | rfl <;> first | exact .inl ⟨by simp, rfl⟩ | exact .inr ⟨_, List.mem_cons_self, rfl⟩ | exact .inr ⟨_, (List.mem_cons_of_mem _ List.mem_cons_self), rfl⟩ | exact .inr ⟨_, (List.mem_cons_of_mem _ (List.mem_cons_of_mem _ List.mem_cons_self)), rfl⟩ | exact .inr ⟨_, (List.mem_cons_of_mem _ (List.mem_cons_of_mem _ (List.mem_cons_of_mem _ List.mem_cons_self))), rfl⟩) (by intro x hx; simp only [List.mem_cons, List.not_mem_nil, or_false] at hx; rcases hx with rfl | rfl | rfl | rfl <;> simp) ?_
 intro _
 rw [fk3.1, fk3.2.1, fk3.2.2]
 exact b_ (m_ (C := boo true) (aq_ rfl rfl) rfl) rfl rfl<|q_ 2 rfl<|g_<|c_<|n_<|f_ (rs := [.tmp 0]) rfl (RV.tmp rfl RV.nil) (()) sn_<|rfl
section
variable {D : List (ByteArray × Nat)} {c d : Chg} {k j : ByteArray}
def Knows (D : List (ByteArray × Nat)) (c : Chg) : Prop := (aget D (dKey c.bytes)).isSome = true
theorem pl_keep2 (h : (aget D j).isSome = true) : (aget (pm D k) j).isSome = true ∧ pl (pm D k) j = pl D j := by
  unfold pm
  split
  · exact ⟨h, rfl⟩
  · next hk =>
    have hjk : j ≠ k := fun e => hk (by rw [← e]; exact h)
    have h2 : aget (aput D k (D.length + 1)) j = aget D j := by rw [ba_, if_neg hjk]
    obtain ⟨v, hv⟩ := Option.isSome_iff_exists.1 h
    refine ⟨by rw [h2]; exact h, ?_⟩
    unfold pl
    rw [h2, hv]
    rfl
theorem pm_self : (aget (pm D k) k).isSome = true := by
  unfold pm
  split
  · next h => exact h
  · rw [ba_, if_pos rfl]; rfl
theorem Knows.put (h : Knows D c) (k : ByteArray) : Knows (pm D k) c ∧ sdOf (pm D k) c = sdOf D c := by
  obtain ⟨h1, h2⟩ := pl_keep2 (k := k) h
  exact ⟨h1, Sd.same rfl (by show numB 102 _ = numB 102 _; rw [h2])⟩
theorem jO_ : Knows (pm D (dKey c.bytes)) c := pm_self
theorem gR_ : sdOf (pm D (dKey c.bytes)) c = sdOf D c := by
  by_cases h : Knows D c
  · exact (h.put _).2
  · refine Sd.same rfl ?_
    show numB 102 _ = numB 102 _
    congr 1
    have h1 : aget D (dKey c.bytes) = none := by simpa [Knows] using h
    unfold pl
    rw [kH_ h1, ba_, if_pos rfl, h1]
    rfl
theorem pm_known (h : Knows D c) : pm D (dKey c.bytes) = D := kG_ (fun h2 => by unfold Knows at h; rw [h2] at h; cases h)
end
/-! ### acks -/
section
variable {n b : Nat} {S : List Int} {said : List Chg} {D : List (ByteArray × Nat)} {L L1 L2 : List Tl} {who seq : Int} {k : Sd} {x : Tl}
structure TlsOk (n b : Nat) (L : List Tl) : Prop where
  len : L.length = n
  ok : ∀ x ∈ L, TlOk x
  few : ∀ x ∈ L, x.m.length ≤ b
theorem ip_ : (ackL n L who seq k).length = L.length := by
  unfold ackL
  split
  · split
    · rfl
    · rw [List.length_set]
  · rfl
theorem eO_ (i : Nat) : (ackL n L who seq k)[i]? = if i = seq.toNat ∧ ackE n L who seq k = 0 then (L[i]?).map (·.ack who k) else L[i]? := by
  unfold ackL
  by_cases h0 : ackE n L who seq k = 0
  · rw [if_pos h0]
    cases hx : L[seq.toNat]? with
    | none =>
      show L[i]? = _
      by_cases hi : i = seq.toNat
      · rw [if_pos ⟨hi, h0⟩, hi, hx]; rfl
      · rw [if_neg (fun h => hi h.1)]
    | some x =>
      by_cases hi : i = seq.toNat
      · rw [if_pos ⟨hi, h0⟩, hi, hx]
        show (L.set seq.toNat (x.ack who k))[seq.toNat]? = some (x.ack who k)
        rw [List.getElem?_set_self (List.getElem?_eq_some_iff.1 hx).1]
      · rw [if_neg (fun h => hi h.1)]
        show (L.set seq.toNat (x.ack who k))[i]? = L[i]?
        rw [List.getElem?_set_ne (fun h => hi h.symm)]
  · rw [if_neg h0, if_neg (fun h => h0 h.2)]
theorem jt_ {y : Tl} (h : y ∈ ackL n L who seq k) : y ∈ L ∨ ∃ x ∈ L, y = x.ack who k := by
  obtain ⟨i, hi⟩ := List.mem_iff_getElem?.1 h
  rw [eO_] at hi
  split at hi
  · cases hx : L[i]? with
    | none => rw [hx] at hi; cases hi
    | some x => rw [hx] at hi; exact .inr ⟨x, List.mem_of_getElem? hx, (Option.some.inj hi).symm⟩
  · exact .inl (List.mem_of_getElem? hi)
theorem TlsOk.ack (h : TlsOk n b L) (hb : b < 1000) (hk : sdOk k) : TlsOk n (b + 1) (ackL n L who seq k) where
  len := by rw [ip_]; exact h.len
  ok := fun y hy => by
    rcases jt_ hy with h1 | ⟨x, hx, rfl⟩
    · exact h.ok y h1
    · have hx1 := h.ok x hx
      refine ⟨hx1.ti.chg who k, ?_, fun w v hv => ?_⟩
      · have h2 := h.few x hx
        have h3 := de_ x.m who k
        show (aput x.m who k).length ≤ 1000
        omega
      · have hv : aget (aput x.m who k) w = some v := hv
        rw [ba_] at hv
        split at hv
        · rw [← Option.some.inj hv]; exact hk
        · exact hx1.ok w v hv
  few := fun y hy => by
    rcases jt_ hy with h1 | ⟨x, hx, rfl⟩
    · exact Nat.le_trans (h.few y h1) (by omega)
    · have h2 := h.few x hx
      have h3 := de_ x.m who k
      show (aput x.m who k).length ≤ b + 1
      omega
def ackOf (L : List Tl) (i : Nat) (who : Int) : Option Sd := (L[i]?).bind fun x => aget x.m who
theorem lB_ (i : Nat) (w : Int) : ackOf (ackL n L who seq k) i w = if i = seq.toNat ∧ w = who ∧ ackE n L who seq k = 0 ∧ i < L.length then some k else ackOf L i w := by
  unfold ackOf
  rw [eO_]
  by_cases h : i = seq.toNat ∧ ackE n L who seq k = 0
  · rw [if_pos h]
    cases hx : L[i]? with
    | none =>
      rw [if_neg]
      · rfl
      · intro h2
        rw [List.getElem?_eq_getElem h2.2.2.2] at hx
        cases hx
    | some x =>
      have hl := (List.getElem?_eq_some_iff.1 hx).1
      show aget (aput x.m who k) w = _
      rw [ba_]
      by_cases hw : w = who
      · rw [if_pos hw, if_pos ⟨h.1, hw, h.2, hl⟩]
      · rw [if_neg hw, if_neg (fun h2 => hw h2.2.1)]
        rfl
  · rw [if_neg h, if_neg (fun h2 => h ⟨h2.1, h2.2.2.1⟩)]
structure Two (n : Nat) (S : List Int) (said : List Chg) (D : List (ByteArray × Nat)) (L1 L2 : List Tl) : Prop where
  same : ∀ i who, who ∉ S → ackOf L1 i who = ackOf L2 i who
  said_ : ∀ i who s, who ∉ S → ackOf L1 i who = some s → ∃ h : i < said.length, Knows D said[i] ∧ s = sdOf D said[i]
theorem Two.put (h : Two n S said D L1 L2) (j : ByteArray) : Two n S said (pm D j) L1 L2 := ⟨h.same, fun i who s hw hs => by
  obtain ⟨h1, h2, h3⟩ := h.said_ i who s hw hs
  exact ⟨h1, (h2.put j).1, by rw [h3, (h2.put j).2]⟩⟩
end
/-! ### how many -/
theorem gl_ {γ : Type} : ∀ {m : List (Int × γ)} {a : Int} {v : γ}, (m.map (·.1)).Nodup → (a, v) ∈ m → aget m a = some v
  | e :: m, a, v, hn, h => by
    rw [List.map_cons, List.nodup_cons] at hn
    unfold aget
    rw [List.find?_cons]
    rcases List.mem_cons.1 h with h2 | h2
    · subst h2; simp
    · have h3 : ¬ e.1 = a := fun h4 => hn.1 (h4 ▸ List.mem_map.2 ⟨_, h2, rfl⟩)
      have h5 := gl_ hn.2 h2
      unfold aget at h5
      simp only [h3, decide_false]
      exact h5
section
variable {n : Nat} {S : List Int} {said : List Chg} {D : List (ByteArray × Nat)} {L L1 L2 : List Tl} {who : Int} {v : Sd} {m m2 : List (Int × Sd)} {i : Nat} {other : Chg}
theorem votes_at (hL : ∀ x ∈ L, TlOk x) (hl : L.length = n) (hi : i < n) : votesN n L (i : Int) v = cnt (L[i]'(by omega)).m v := by
  unfold votesN
  rw [if_pos (by omega), Int.toNat_natCast, List.getElem?_eq_getElem (by omega)]
  exact (hL _ (List.getElem_mem _)).ti.num v
theorem js_ (hi : i < L.length) : ackOf L i who = aget (L[i]).m who := by
  unfold ackOf
  rw [List.getElem?_eq_getElem hi]
  rfl
end
section
variable {n z : Nat} {S : List Int} {said : List Chg} {D : List (ByteArray × Nat)} {cm : List (Int × Kp)} {L1 L2 : List Tl} {other c : Chg} {i : Nat} {view : Int} {s : Sgn}
theorem iT_ (h : Knows D c) (j : ByteArray) : mkKp (pm D j) c = mkKp D c := by
  have h2 : numB 102 (pl (pm D j) (dKey c.bytes)) = numB 102 (pl D (dKey c.bytes)) := congrArg Sd.dig (h.put j).2
  unfold mkKp
  simp only [h2]
theorem mkKp_self : mkKp (pm D (dKey c.bytes)) c = mkKp D c := by
  have h2 : numB 102 (pl (pm D (dKey c.bytes)) (dKey c.bytes)) = numB 102 (pl D (dKey c.bytes)) := congrArg Sd.dig (gR_ (D := D) (c := c))
  unfold mkKp
  simp only [h2]
structure SaidIn (n z : Nat) (said : List Chg) (D : List (ByteArray × Nat)) (cm : List (Int × Kp)) : Prop where
  at_ : ∀ i : Int, aget cm i = if 0 ≤ i ∧ i < z then (said[i.toNat]?).map (mkKp D) else none
  nd : (cm.map (·.1)).Nodup
  len : cm.length ≤ z
  know : ∀ j (h : j < said.length), j < z → Knows D said[j] ∧ CIn said[j] ∧ said[j].check n = 0
theorem SaidIn.put (h : SaidIn n z said D cm) (j : ByteArray) : SaidIn n z said (pm D j) cm := ⟨fun i => by
  rw [h.at_]
  split
  · next hi =>
    cases hx : said[i.toNat]? with
    | none => rfl
    | some c =>
      obtain ⟨h1, h2⟩ := List.getElem?_eq_some_iff.1 hx
      have h3 := (h.know i.toNat h1 (by omega)).1
      rw [h2] at h3
      show some (mkKp D c) = some (mkKp (pm D j) c)
      rw [iT_ h3]
  · rfl, h.nd, h.len, fun q hq hz => let ⟨h1, h2⟩ := h.know q hq hz; ⟨(h1.put j).1, h2⟩⟩
end
inductive Rem_ (y : It) : Blks → Blks → Prop
  | here {σ : Blks} : Rem_ y (y :: σ) σ
  | there {z : It} {σ τ : Blks} (h : Rem_ y σ τ) : Rem_ y (z :: σ) (z :: τ)
theorem Rem_.perm {y : It} {σ τ : Blks} (h : Rem_ y σ τ) : (y :: τ).Perm σ := by
  induction h with
  | here => exact List.Perm.refl _
  | there h ih => exact (List.Perm.swap _ _ _).trans (ih.cons _)
theorem pk_ {y : It} {ys σ τ : Blks} (h : Rem_ y σ τ) (k : ys.Perm τ) : (y :: ys).Perm σ := (k.cons y).trans h.perm
theorem ah_ {ι : Type} {σ σ1 : Blks} {τ' : ι → Blks} {K : Blks → ι → Prop} (φ : Blks) (ν : ι → Blks) (hp : (mids σ1 ++ mids φ).Perm (mids σ)) (hs : ∀ x ∈ σ1, (x ∈ σ ∧ x.rids = []) ∨ ∃ y ∈ φ, x = y.toRd) (hr : ∀ x ∈ φ, x ∈ σ) (hν : ∀ z, (ν z).Perm (τ' z ++ φ)) (k : ∀ z, K (ν z) z) : After σ σ1 τ' K := ⟨φ, ⟨hp, hs, hr⟩, fun z => ⟨_, hν z, k z⟩⟩
structure AAc where
  kind : Int
  from_ : Int
  of_ : Int
  chg : Chg
  k : Sd
  seq : Int
def AAc.abs (a : AAc) : List Abs := int a.kind :: int a.from_ :: int a.of_ :: (a.chg.abs ++ voA a.k a.seq)
theorem AAc.size (a : AAc) : a.abs.length = 42 := by simp [AAc.abs, Chg.abs, voA, digA, a.k.len]
theorem AAc.ones (a : AAc) : ones a.abs = true := by
  rw [bE_]; intro c hc
  simp only [AAc.abs, Chg.abs, voA, List.mem_cons, List.mem_append, List.not_mem_nil, or_false] at hc
  rcases hc with rfl | rfl | rfl | (rfl | rfl | rfl | rfl | rfl) | rfl | rfl | hc
  all_goals first | rfl | (obtain ⟨b, _, rfl⟩ := List.mem_map.1 hc; rfl)
structure AAcIn (a : AAc) : Prop where
  kind : InR .i64 a.kind
  from_ : InR .i64 a.from_
  of_ : InR .i64 a.of_
theorem fr_ {n : Nat} {L : List Tl} {who seq : Int} {k : Sd} : (ackL n L who seq k).map (fun x => [ptr x.t]) = L.map fun x => [ptr x.t] := by
  refine List.ext_getElem? fun i => ?_
  rw [List.getElem?_map, List.getElem?_map, eO_]
  split
  · cases L[i]? <;> rfl
  · rfl
theorem jM_ (zs : List (Nat × Nat × Nat)) (i : Nat) (w : Int) : ackOf (newTls zs) i w = none := by
  unfold ackOf newTls
  rw [List.getElem?_map]
  cases zs[i]? <;> rfl
theorem tls_new {n : Nat} (zs : List (Nat × Nat × Nat)) (h : zs.length = n) : TlsOk n 0 (newTls zs) := by
  have key : ∀ x ∈ newTls zs, x.m = [] ∧ x.c = [] := fun x hx => by
    obtain ⟨z, _, rfl⟩ := List.mem_map.1 hx
    exact ⟨rfl, rfl⟩
  refine ⟨by rw [cF_, h], fun x hx => ?_, fun x hx => by rw [(key x hx).1]; exact Nat.le_refl _⟩
  obtain ⟨h1, h2⟩ := key x hx
  refine ⟨by rw [h1, h2]; exact TInv.nil, by rw [h1]; exact Nat.zero_le _, fun w v hv => ?_⟩
  rw [h1] at hv
  cases hv
theorem TlsOk.mono {n b b' : Nat} {L : List Tl} (h : TlsOk n b L) (hb : b ≤ b') : TlsOk n b' L := ⟨h.len, h.ok, fun x hx => Nat.le_trans (h.few x hx) hb⟩
theorem sdOk_of {D : List (ByteArray × Nat)} {c : Chg} (h : c.Lits) : sdOk (sdOf D c) := h.view
theorem kd_ {k : Sd} {seq : Int} {place : Nat → Option (Nat × Nat)} {Z : List Abs} (hZ : Z.length = 34) (h0 : place 0 = some (0, 1)) (h1 : place 1 = some (1, 1)) (h2 : place 2 = some (2, 32)) : fillA place Z [(0, int k.view), (1, int seq), (2, .agg (digA k.dig))] = some (voA k seq) := by
  have hd : (digA k.dig).length = 32 := by simp [digA, k.len]
  match Z, hZ with
  | a :: b :: Z, hZ =>
    have hZ2 : Z.length = 32 := by simpa using hZ
    have p1 : putL (a :: b :: Z) 0 [int k.view] = int k.view :: b :: Z := rfl
    have p2 : putL (int k.view :: b :: Z) 1 [int seq] = int k.view :: int seq :: Z := rfl
    have p3 : putL (int k.view :: int seq :: Z) 2 (digA k.dig) = voA k seq := by
      rw [b9_ _ _ _ (by simp), List.drop_eq_nil_of_le (by simp only [List.length_cons]; omega), List.append_nil]
      rfl
    simp only [fillA, h0, h1, h2, cellsA, p1, p2, p3, hd, hZ2, List.length_cons, List.length_nil]
    rfl
theorem iz_ (k : Sd) (seq : Int) : ones (voA k seq) = true := by
  rw [bE_]; intro a ha
  rcases List.mem_cons.1 ha with rfl | ha
  · rfl
  rcases List.mem_cons.1 ha with rfl | ha
  · rfl
  obtain ⟨b, _, rfl⟩ := List.mem_map.1 ha
  rfl
theorem bk_ {σ τ : Blks} {b : Nat} {t : TypeId} {cs : List Abs} (hn : (mids σ).Nodup) (h : (It.blk b t cs :: τ).Sublist σ) : b ∉ mids τ := (List.nodup_cons.1 (hn.sublist (eF_ h))).1
theorem iM_ {D : List (ByteArray × Nat)} {cm : List (Int × Kp)} {s : Sgn} (h : Num1 D) : Num1 (realD D cm s) := by
  unfold realD
  split
  · exact h
  · exact h.put _
theorem c1_ (D : List (ByteArray × Nat)) (cm : List (Int × Kp)) (s : Sgn) : (realD D cm s).length ≤ D.length + 1 := by
  unfold realD
  split
  · omega
  · exact ca_ _ _
abbrev bestV (a : Option (Nat × Prf)) : Abs := .v (.pointer (a.map fun e => ⟨e.1, 0, none⟩))
def bestPc (a : Option (Nat × Prf)) : Blks := match a with
  | none => []
  | some e => [.blk e.1 77 e.2.abs]
theorem gc_ {c : Chg} (hc : CIn c) {x : Prf} (hx : x ∈ c.prepared) : x.batch.length ≤ 10 := (hc.asked.1.2 x hx).1
section
variable {x : Prf} {y p : Prf} {c : Chg} {l : List Sgn} {n seq : Int} {b bs bf : Nat}
theorem cn1_s  : Spec Tryz.prog 124 [.agg x.abs, ptr bs] [.rd bs 2 [int seq]] (fun _ : Unit => []) (fun _ => boo (decide (x.seq = seq))) := by
 refine G_ Tryz.func124 rfl Tryz.ntmps124 rfl fun G w =>d_<|a_<|eb_ (L_ (cs := x.abs) rfl) rfl rfl fun b2=>?_
 exact q_ 1 rfl<|g_<|c_<|d_<|a_<|q_ 1 rfl<|b_ (m_ (C := int x.seq) (h_ tabOk rfl rfl l0_ List.not_mem_nil rfl) rfl) rfl rfl<|b_ (m_ (C := int seq) (h_ tabOk rfl rfl r1_ List.not_mem_nil rfl) rfl) rfl rfl<|q_ 2 rfl<|g_<|c_<|n_<|f_ (rs := [.tmp 3]) rfl (RV.tmp rfl RV.nil) (()) sn_<|rfl
theorem cn2_s (hc : CIn c) : Spec Tryz.prog 127 [.agg c.abs, ptr bs, ptr bf] [.rd bs 2 [int seq], .rd bf 164 [.fn (.func 124) [] [ptr bs]]] (fun _ : Unit => []) (fun _ => boo (emptyB seq c)) := by
 refine G_ Tryz.func127 rfl Tryz.ntmps127 rfl fun G w =>d_<|a_<|eb_ (L_ (cs := c.abs) rfl) rfl rfl fun b3=>?_
 refine q_ 1 rfl<|g_<|c_<|d_<|a_<|q_ 1 rfl<|b_ (m_ (C := int c.low) (h_ tabOk rfl rfl l0_ List.not_mem_nil rfl) rfl) rfl rfl<|b_ (m_ (C := int seq) (h_ tabOk rfl rfl r1_ List.not_mem_nil rfl) rfl) rfl rfl<|q_ 2 rfl<|C_ (t := 9) rfl ?_ ?_
 rotate_left
 ·intro hc9
  refine q_ 7 rfl<|g_<|c_<|n_<|f_ (rs := [.tmp 4]) rfl (RV.tmp rfl RV.nil) (()) sn_<|congrArg (fun b => Abs.v (Value.bool b)) ?_
  unfold emptyB
  (simp_all; intro h9; omega)
 intro hc9
 refine q_ 1 rfl<|b_ (m_ (C := prfsA c.prepared) (h_ tabOk rfl rfl l0_ List.not_mem_nil rfl) rfl) rfl rfl<|b_ (m_ (C := .fn (.func 124) [] [ptr bs]) (h_ tabOk rfl rfl r2_ List.not_mem_nil rfl) rfl) rfl rfl<|u_ (a8_ (xs := c.prepared) (k := 124) (caps := [ptr bs]) (σ := [.rd bs 2 [int seq]]) (p := fun x : Prf => decide (x.seq = seq)) (by kernel_rfl) (by intro x hx; simp only [List.mem_cons, List.not_mem_nil, or_false] at hx; rcases hx with rfl <;> exact .inl ⟨_, _, _, rfl⟩) (by have := hc.asked.1.1; omega) (fun x hx => cn1_s)) Casts.refl (by kernel_rfl) rfl rfl rfl ?_
 refine ap_<|fun _=>b_ (ai_ rfl) rfl rfl<|q_ 2 rfl<|g_<|c_<|n_<|f_ (rs := [.tmp 4]) rfl (RV.tmp rfl RV.nil) (()) sn_<|congrArg (fun b => Abs.v (Value.bool b)) ?_
 unfold emptyB
 (simp_all; done)
theorem cs11_s (hx : x.batch.length ≤ 1000000) (hy : y.batch.length ≤ 1000000) (h1 : x.Lits) (h2 : y.Lits) : Spec Tryz.prog 149 [.agg y.abs, ptr b] [.rd b 77 x.abs] (fun _ : Unit => []) (fun _ => boo (agB x.seq x.view x.batch y)) := by
 refine G_ Tryz.func149 rfl Tryz.ntmps149 rfl fun G w =>d_<|a_<|eb_ (L_ (cs := y.abs) rfl) rfl rfl fun b2=>?_
 refine q_ 1 rfl<|g_<|c_<|d_<|a_<|q_ 1 rfl<|b_ (m_ (C := int y.seq) (h_ tabOk rfl rfl l0_ List.not_mem_nil rfl) rfl) rfl rfl<|q_ 1 rfl<|b_ (m_ (C := int x.seq) (h_ tabOk rfl rfl r1_ List.not_mem_nil rfl) rfl) rfl rfl<|q_ 2 rfl<|C_ (t := 9) rfl ?_ ?_
 rotate_left
 ·intro hc9
  refine q_ 22 rfl<|g_<|c_<|n_<|f_ (rs := [.tmp 3]) rfl (RV.tmp rfl RV.nil) (()) sn_<|congrArg (fun b => Abs.v (Value.bool b)) ?_
  unfold agB
  (simp_all; done)
 intro hc9
 refine q_ 1 rfl<|b_ (m_ (C := int y.view) (h_ tabOk rfl rfl l0_ List.not_mem_nil rfl) rfl) rfl rfl<|q_ 1 rfl<|b_ (m_ (C := int x.view) (h_ tabOk rfl rfl r1_ List.not_mem_nil rfl) rfl) rfl rfl<|q_ 2 rfl<|C_ (t := 15) rfl ?_ ?_
 ·intro hc15
  refine q_ 16 rfl<|g_<|c_<|n_<|f_ (rs := [.tmp 3]) rfl (RV.tmp rfl RV.nil) (()) sn_<|congrArg (fun b => Abs.v (Value.bool b)) ?_
  unfold agB
  (simp_all; done)
 intro hc15
 refine q_ 1 rfl<|b_ (m_ (C := int y.view) (h_ tabOk rfl rfl l0_ List.not_mem_nil rfl) rfl) rfl rfl<|q_ 1 rfl<|b_ (m_ (C := int x.view) (h_ tabOk rfl rfl r1_ List.not_mem_nil rfl) rfl) rfl rfl<|q_ 2 rfl<|C_ (t := 21) rfl ?_ ?_
 rotate_left
 ·intro hc21
  refine q_ 10 rfl<|g_<|c_<|n_<|f_ (rs := [.tmp 3]) rfl (RV.tmp rfl RV.nil) (()) sn_<|congrArg (fun b => Abs.v (Value.bool b)) ?_
  unfold agB
  (simp_all; done)
 intro hc21
 refine q_ 1 rfl<|b_ (m_ (C := entsA y.batch) (h_ tabOk rfl rfl l0_ List.not_mem_nil rfl) rfl) rfl rfl<|q_ 1 rfl<|b_ (m_ (C := entsA x.batch) (h_ tabOk rfl rfl r1_ List.not_mem_nil rfl) rfl) rfl rfl<|u_ (ig_ (es := y.batch) (fs := x.batch) hy h2.all h1.all) Casts.refl (by kernel_rfl) rfl rfl rfl ?_
 refine ap_<|fun _=>b_ (ai_ rfl) rfl rfl<|q_ 4 rfl<|g_<|c_<|n_<|f_ (rs := [.tmp 3]) rfl (RV.tmp rfl RV.nil) (()) sn_<|congrArg (fun b => Abs.v (Value.bool b)) ?_
 unfold agB
 (simp_all; done)
theorem cs21_s (hx : x.batch.length ≤ 1000000) (hy : y.batch.length ≤ 1000000) (h1 : x.Lits) (h2 : y.Lits) : Spec Tryz.prog 151 [.agg y.abs, ptr b] [.rd b 77 x.abs] (fun _ : Unit => []) (fun _ => boo (prB x.seq x.view x.batch y)) := by
 refine G_ Tryz.func151 rfl Tryz.ntmps151 rfl fun G w =>d_<|a_<|eb_ (L_ (cs := y.abs) rfl) rfl rfl fun b2=>?_
 refine q_ 1 rfl<|g_<|c_<|d_<|a_<|q_ 1 rfl<|b_ (m_ (C := int y.seq) (h_ tabOk rfl rfl l0_ List.not_mem_nil rfl) rfl) rfl rfl<|q_ 1 rfl<|b_ (m_ (C := int x.seq) (h_ tabOk rfl rfl r1_ List.not_mem_nil rfl) rfl) rfl rfl<|q_ 2 rfl<|C_ (t := 9) rfl ?_ ?_
 rotate_left
 ·intro hc9
  refine q_ 14 rfl<|g_<|c_<|n_<|f_ (rs := [.tmp 3]) rfl (RV.tmp rfl RV.nil) (()) sn_<|congrArg (fun b => Abs.v (Value.bool b)) ?_
  unfold prB
  (simp_all; done)
 intro hc9
 refine q_ 1 rfl<|b_ (m_ (C := int y.view) (h_ tabOk rfl rfl l0_ List.not_mem_nil rfl) rfl) rfl rfl<|q_ 1 rfl<|b_ (m_ (C := int x.view) (h_ tabOk rfl rfl r1_ List.not_mem_nil rfl) rfl) rfl rfl<|q_ 3 rfl<|C_ (t := 16) rfl ?_ ?_
 rotate_left
 ·intro hc16
  refine q_ 7 rfl<|g_<|c_<|n_<|f_ (rs := [.tmp 3]) rfl (RV.tmp rfl RV.nil) (()) sn_<|congrArg (fun b => Abs.v (Value.bool b)) ?_
  unfold prB
  (simp_all; intro h9; omega)
 intro hc16
 refine q_ 1 rfl<|b_ (m_ (C := entsA y.batch) (h_ tabOk rfl rfl l0_ List.not_mem_nil rfl) rfl) rfl rfl<|q_ 1 rfl<|b_ (m_ (C := entsA x.batch) (h_ tabOk rfl rfl r1_ List.not_mem_nil rfl) rfl) rfl rfl<|u_ (ig_ (es := y.batch) (fs := x.batch) hy h2.all h1.all) Casts.refl (by kernel_rfl) rfl rfl rfl ?_
 refine ap_<|fun _=>q_ 2 rfl<|g_<|c_<|n_<|f_ (rs := [.tmp 3]) rfl (RV.tmp rfl RV.nil) (()) sn_<|congrArg (fun b => Abs.v (Value.bool b)) ?_
 unfold prB
 (simp_all; done)
theorem cs1_s (hx : x.batch.length ≤ 1000000) (h1 : x.Lits) (hc : CIn c) : Spec Tryz.prog 148 [.agg c.abs, ptr b] [.rd b 77 x.abs] (fun _ : Unit => []) (fun _ => boo (quietB x.seq x.view x.batch c)) := by
 refine G_ Tryz.func148 rfl Tryz.ntmps148 rfl fun G w =>d_<|a_<|eb_ (L_ (cs := c.abs) rfl) rfl rfl fun b2=>?_
 refine q_ 1 rfl<|g_<|c_<|d_<|a_<|q_ 1 rfl<|b_ (m_ (C := int c.low) (h_ tabOk rfl rfl l0_ List.not_mem_nil rfl) rfl) rfl rfl<|q_ 1 rfl<|b_ (m_ (C := int x.seq) (h_ tabOk rfl rfl r1_ List.not_mem_nil rfl) rfl) rfl rfl<|q_ 2 rfl<|C_ (t := 9) rfl ?_ ?_
 rotate_left
 ·intro hc9
  refine q_ 7 rfl<|g_<|c_<|n_<|f_ (rs := [.tmp 3]) rfl (RV.tmp rfl RV.nil) (()) sn_<|congrArg (fun b => Abs.v (Value.bool b)) ?_
  unfold quietB againstB
  simp only [Bool.not_or, ← decide_not, Int.not_le]
  (simp_all; intro h9; omega)
 intro hc9
 refine q_ 1 rfl<|b_ (m_ (C := prfsA c.prepared) (h_ tabOk rfl rfl l0_ List.not_mem_nil rfl) rfl) rfl rfl<|b_ (ao_ rfl rfl) rfl rfl<|u_ (a8_ (xs := c.prepared) (k := 149) (caps := [ptr b]) (σ := [.rd b 77 x.abs]) (p := agB x.seq x.view x.batch) (by kernel_rfl) (by intro x hx; simp only [List.mem_cons, List.not_mem_nil, or_false] at hx; rcases hx with rfl <;> exact .inl ⟨_, _, _, rfl⟩) (by have := hc.asked.1.1; omega) (fun y hy => cs11_s hx ((hc.asked.1.long).2 y hy) h1 (hc.lits.prep y hy))) Casts.refl (by kernel_rfl) rfl rfl rfl ?_
 refine ap_<|fun _=>b_ (ai_ rfl) rfl rfl<|q_ 2 rfl<|g_<|c_<|n_<|f_ (rs := [.tmp 3]) rfl (RV.tmp rfl RV.nil) (()) sn_<|congrArg (fun b => Abs.v (Value.bool b)) ?_
 unfold quietB againstB
 simp only [Bool.not_or, ← decide_not, Int.not_le]
 (simp_all; done)
theorem cs2_s (hx : x.batch.length ≤ 1000000) (h1 : x.Lits) (hc : CIn c) : Spec Tryz.prog 150 [.agg c.abs, ptr b] [.rd b 77 x.abs] (fun _ : Unit => []) (fun _ => boo (proposedB x.seq x.view x.batch c)) := by
 refine G_ Tryz.func150 rfl Tryz.ntmps150 rfl fun G w =>d_<|a_<|eb_ (L_ (cs := c.abs) rfl) rfl rfl fun b2=>?_
 refine q_ 1 rfl<|g_<|c_<|d_<|a_<|q_ 1 rfl<|b_ (m_ (C := prfsA c.proposed) (h_ tabOk rfl rfl l0_ List.not_mem_nil rfl) rfl) rfl rfl<|b_ (ao_ rfl rfl) rfl rfl<|u_ (a8_ (xs := c.proposed) (k := 151) (caps := [ptr b]) (σ := [.rd b 77 x.abs]) (p := prB x.seq x.view x.batch) (by kernel_rfl) (by intro x hx; simp only [List.mem_cons, List.not_mem_nil, or_false] at hx; rcases hx with rfl <;> exact .inl ⟨_, _, _, rfl⟩) (by have := hc.asked.2.1.1; omega) (fun y hy => cs21_s hx ((hc.asked.2.1.long).2 y hy) h1 (hc.lits.prop y hy))) Casts.refl (by kernel_rfl) rfl rfl rfl ?_
 exact ap_<|fun _=>q_ 1 rfl<|g_<|c_<|n_<|f_ (rs := [.tmp 3]) rfl (RV.tmp rfl RV.nil) (()) sn_<|rfl
theorem hk_ (hl : ∀ s ∈ l, CIn s.chg) (hn : l.length ≤ 100) (hx : x.batch.length ≤ 1000000) (h1 : x.Lits) : Spec Tryz.prog 125 [.agg (pfL l n), .agg x.abs] [] (fun _ : Unit => []) (fun _ => boo (standsB l n x)) := by
 refine G_ Tryz.func125 rfl Tryz.ntmps125 rfl fun G w =>d_<|a_<|eb_ (L_ (cs := pfL l n) rfl) rfl rfl fun b2=>?_
 refine eb_ (L_ (cs := x.abs) rfl) rfl rfl fun b3=>?_
 refine q_ 1 rfl<|g_<|c_<|d_<|a_<|b_ (ao_ rfl rfl) rfl rfl<|q_ 1 rfl<|g_<|c_<|d_<|a_<|b_ (ao_ rfl rfl) rfl rfl<|q_ 1 rfl<|g_<|c_<|d_<|Y_ [] (.q 0 (.q 1 (.q 3 (.q 4 (.e 2 (.q 5 (.q 6 (.q 7 (.q 8 (.q 10 (.q 11 (.e 9 (.q 12 (.q 13 (.q 14 .nil))))))))))))))) (by kernel_rfl) (by kernel_rfl) ?_
 refine ag_ (by (simp [mids, It.mids, ownPc, mapPc]; done)) fun hx9 => ?_
 refine l_ rfl (m_ (C := .agg (pfL l n)) (H_ tabOk rfl rfl rfl l1_ List.not_mem_nil (Nat.le_of_ble_eq_true rfl)) rfl) hx9 rfl rfl<|qs_ 2 rfl<|l_ rfl (m_ (C := int (2 * fN n + 1)) (h_ tabOk rfl rfl l1_ List.not_mem_nil rfl) rfl) hx9 rfl rfl<|I_ rfl (cI_ (n := n) (k := 148) (caps := [ptr b3]) (σ := [.rd b3 77 x.abs]) (p := quietB x.seq x.view x.batch) (by kernel_rfl) (by intro x hx; simp only [List.mem_cons, List.not_mem_nil, or_false] at hx; rcases hx with rfl <;> exact .inl ⟨_, _, _, rfl⟩) (by omega) (fun s hs => cs1_s hx h1 (hl s hs))) (by simp [mids, It.mids]) Casts.refl (by kernel_rfl) rfl rfl rfl ?_
 refine ap_<|fun _=>qs_ 2 rfl<|am_ (t := 15) rfl ?_ ?_
 rotate_left
 ·intro hc15
  iterate 4 refine bq_ rfl rfl rfl ?_
  refine aE_ rfl rfl rfl<|qs_ 3 rfl<|N_<|c_<|n_<|f_ (rs := [.tmp 4]) rfl (RV.tmp rfl RV.nil) (()) sn_<|congrArg (fun b => Abs.v (Value.bool b)) ?_
  unfold standsB
  (simp_all; intro h9; omega)
 intro hc15
 refine ag_ (by (simp [mids, It.mids, ownPc, mapPc]; done)) fun hx9 => ?_
 refine l_ rfl (m_ (C := .agg (pfL l n)) (H_ tabOk rfl rfl rfl l1_ List.not_mem_nil (Nat.le_of_ble_eq_true rfl)) rfl) hx9 rfl rfl<|qs_ 2 rfl<|l_ rfl (m_ (C := int (fN n + 1)) (h_ tabOk rfl rfl l1_ List.not_mem_nil rfl) rfl) hx9 rfl rfl<|I_ rfl (cI_ (n := n) (k := 150) (caps := [ptr b3]) (σ := [.rd b3 77 x.abs]) (p := proposedB x.seq x.view x.batch) (by kernel_rfl) (by intro x hx; simp only [List.mem_cons, List.not_mem_nil, or_false] at hx; rcases hx with rfl <;> exact .inl ⟨_, _, _, rfl⟩) (by omega) (fun s hs => cs2_s hx h1 (hl s hs))) (by simp [mids, It.mids]) Casts.refl (by kernel_rfl) rfl rfl rfl ?_
 refine ap_<|fun _=>qs_ 3 rfl<|N_<|c_<|n_<|f_ (rs := [.tmp 4]) rfl (RV.tmp rfl RV.nil) (()) sn_<|congrArg (fun b => Abs.v (Value.bool b)) ?_
 unfold standsB
 (simp_all; done)
set_option maxHeartbeats 2000000 in
theorem lg_ (hl : ∀ s ∈ l, CIn s.chg) (hn : l.length ≤ 100) : Spec Tryz.prog 92 [.agg (pfL l n), int seq] [] (fun _ : Unit => []) (fun _ => .tup [entsA (numF l n seq).1, boo (numF l n seq).2]) := by
 refine G_ Tryz.func92 rfl Tryz.ntmps92 rfl fun G w =>d_<|a_<|eb_ (L_ (cs := pfL l n) rfl) rfl rfl fun b2=>?_
 refine eb_ (cn_ rfl rfl) rfl rfl fun b3=>?_
 refine q_ 2 rfl<|g_<|c_<|d_<|a_<|q_ 1 rfl<|g_<|c_<|d_<|a_<|b_ (ao_ rfl rfl) rfl rfl<|eb_ (B_ tabOk rfl) rfl rfl fun b7=>?_
 refine e_ (w_ (L' := [.fn (.func 124) [] [ptr b3]]) tabOk rfl rfl rfl u0_ rfl (Nat.le_of_ble_eq_true rfl) rfl (by exact A_ rfl)) rfl rfl ?_
 refine g_<|c_<|d_<|d_<|a_<|q_ 1 rfl<|b_ (m_ (C := sgnsA l) (h_ tabOk rfl rfl l2_ List.not_mem_nil rfl) rfl) rfl rfl<|b_ (z_ rfl Tryz.underlying53 (List.length_map _)) rfl rfl<|q_ 1 rfl<|g_<|c_<|t_<|S_ (ι := Nat × Option (Nat × Prf)) (fun z => .blk b7 164 [.fn (.func 124) [] [ptr b3]] :: .blk b3 2 [int seq] :: .blk b2 151 (pfL l n) :: bestPc z.2) (fun z => [(2, ptr b2), (3, ptr b3), (7, ptr b7), (15, sgnsA l), (16, int (l.length : Nat)), (6, bestV z.2), (17, int (z.1 : Nat))]) (fun z => z.1 ≤ l.length ∧ (Option.map (·.2) z.2) = (l.take z.1).foldl (numIn l n seq) none) (fun z => l.length - z.1) (0, none) (⟨Nat.zero_le _, rfl⟩) (by exact ⟨rfl, rfl, rfl, rfl, rfl, rfl, rfl, trivial⟩) sr_ ?_
 intro z hz
 obtain ⟨zi, za⟩ := z
 dsimp only at hz
 refine d_<|a_<|q_ 1 rfl<|g_<|c_<|d_<|r_ rfl ?_ ?_
 rotate_left
 ·intro hc18
  have hbst : numBest l n seq = (Option.map (·.2) za) := by
   rw [hz.2, a1_ _ _ (by omega)]
   rfl
  refine Q_<|i_ nofun<|i_ nofun<|P_<|c_<|d_<|d_<|a_<|q_ 1 rfl<|b_ (ir_ (p := za.map fun e : Nat × Prf => (⟨e.1, 0, none⟩ : Addr)) rfl rfl (by kernel_rfl)) rfl rfl ?_
  refine g_<|c_<|ac_ rfl ?_ ?_
  ·intro hc53
   obtain ⟨e, rfl⟩ : ∃ e, za = some e := by
    cases za with
    | none => cases hc53
    | some e => exact ⟨e, rfl⟩
   have hem : e.2.batch.length ≤ 10 := by
    rcases dk_ (m := l) (a := none) (show l.foldl (numIn l n seq) none = some e.2 from hbst) with ⟨s, h1, h2⟩ | h1
    ·exact gc_ (hl s h1) h2
    cases h1
   refine d_<|a_<|q_ 1 rfl<|b_ (m_ (C := ptr e.1) (an_ rfl) rfl) rfl rfl<|q_ 1 rfl<|b_ (m_ (C := entsA e.2.batch) (h_ tabOk rfl rfl l3_ List.not_mem_nil rfl) rfl) rfl rfl<|u_ (hn_ (hf_ e.2.batch) (by rw [List.length_map]; omega)) Casts.refl (by kernel_rfl) rfl rfl rfl ?_
   refine ap_<|fun _=>q_ 2 rfl<|g_<|c_<|n_<|i_ nofun<|f_ (rs := [.tmp 4, .tmp 5]) rfl (RV.tmp rfl (RV.tmp rfl RV.nil)) (()) sn_ ?_
   unfold numF
   rw [hbst]
   rfl
  intro hc53
  obtain rfl : za = none := by
   cases za with
   | none => rfl
   | some e => cases hc53
  refine p_<|c_<|d_<|a_<|b_ (ao_ rfl rfl) rfl rfl<|q_ 1 rfl<|g_<|c_<|d_<|Y_ [] (.q 0 (.q 1 (.q 3 (.q 4 (.e 2 (.q 5 (.q 6 (.q 7 .nil)))))))) (by kernel_rfl) (by kernel_rfl) ?_
  refine ag_ (by (simp [mids, It.mids, ownPc, mapPc]; done)) fun hx9 => ?_
  refine l_ rfl (m_ (C := .agg (pfL l n)) (H_ tabOk rfl rfl rfl l2_ List.not_mem_nil (Nat.le_of_ble_eq_true rfl)) rfl) hx9 rfl rfl<|qs_ 2 rfl<|l_ rfl (m_ (C := int (2 * fN n + 1)) (h_ tabOk rfl rfl l2_ List.not_mem_nil rfl) rfl) hx9 rfl rfl<|I_ rfl (cI_ (l := l) (n := n) (k := 127) (caps := [ptr b3, ptr b7]) (σ := [.rd b3 2 [int seq], .rd b7 164 [.fn (.func 124) [] [ptr b3]]]) (p := emptyB seq) (by kernel_rfl) (by intro x hx; simp only [List.mem_cons, List.not_mem_nil, or_false] at hx; rcases hx with rfl | rfl <;> exact .inl ⟨_, _, _, rfl⟩) (by omega) (fun s hs => cn2_s (hl s hs))) (by simp [mids, It.mids]) Casts.refl (by kernel_rfl) rfl rfl rfl ?_
  refine ap_<|fun _=>qs_ 3 rfl<|N_<|c_<|n_<|fC_ (rs := [.tmp 4, .tmp 5]) rfl (RV.tmp rfl (RV.tmp rfl RV.nil)) (Casts.nils (s := 8) Casts.refl) (()) sn_ ?_
  unfold numF
  rw [hbst]
  rfl
 intro hc18
 have hlt : zi < l.length := by omega
 refine p_<|c_<|d_<|t_<|d_<|a_<|b_ (D_ tabOk Tryz.underlying53 rfl rfl rfl rfl (aa_ (by omega)) rfl rfl) rfl rfl ?_
 refine b_ (K_ tabOk rfl rfl rfl rfl) rfl rfl<|eb_ (B_ tabOk rfl) rfl rfl fun b9=>?_
 refine e_ (w_ (L' := (l[zi]'hlt).abs) tabOk rfl rfl rfl u0_ rfl (Nat.le_of_ble_eq_true rfl) rfl (by exact A_ rfl)) rfl rfl ?_
 refine g_<|c_<|d_<|a_<|q_ 2 rfl<|b_ (m_ (C := prfsA (l[zi]'hlt).chg.prepared) (h_ tabOk rfl rfl l0_ List.not_mem_nil rfl) rfl) rfl rfl<|b_ (z_ rfl Tryz.underlying24 (List.length_map _)) rfl rfl<|q_ 1 rfl<|g_<|c_<|t_<|S_ (ι := Nat × Option (Nat × Prf)) (fun y => .blk b7 164 [.fn (.func 124) [] [ptr b3]] :: .blk b3 2 [int seq] :: .blk b2 151 (pfL l n) :: bestPc y.2) (fun y => [(2, ptr b2), (3, ptr b3), (7, ptr b7), (15, sgnsA l), (16, int (l.length : Nat)), (17, int (zi : Nat)), (6, bestV y.2), (23, prfsA (l[zi]'hlt).chg.prepared), (24, int ((l[zi]'hlt).chg.prepared.length : Nat)), (25, int (y.1 : Nat))]) (fun y => y.1 ≤ (l[zi]'hlt).chg.prepared.length ∧ (Option.map (·.2) y.2) = ((l[zi]'hlt).chg.prepared.take y.1).foldl (numSt l n seq) (Option.map (·.2) za)) (fun y => (l[zi]'hlt).chg.prepared.length - y.1) (0, za) (⟨Nat.zero_le _, rfl⟩) (by exact ⟨rfl, rfl, rfl, rfl, rfl, rfl, rfl, rfl, rfl, rfl, trivial⟩) (sk_ sr_) ?_
 intro y hy
 obtain ⟨yj, ya⟩ := y
 dsimp only at hy
 refine d_<|a_<|q_ 1 rfl<|g_<|c_<|d_<|r_ rfl ?_ ?_
 rotate_left
 ·intro hc26
  refine Q_<|i_ nofun<|i_ nofun<|P_<|o_<|c_<|a_<|b_ (s_ rfl rfl (by simp only [InR, lo, hi]; omega)) rfl rfl ?_
  refine q_ 1 rfl<|g_<|x_ (zi + 1, ya) (by omega) (⟨by dsimp only; omega, by dsimp only; rw [W_ _ _ hlt, ← hz.2, hy.2, a1_ _ _ (by omega)]; rfl⟩) (by exact ⟨rfl, rfl, rfl, rfl, rfl, rfl, rfl, trivial⟩) sr_
 intro hc26
 have hly : yj < (l[zi]'hlt).chg.prepared.length := by omega
 have hpl := (hl _ (List.getElem_mem hlt)).asked.1.1
 refine p_<|c_<|d_<|t_<|d_<|a_<|b_ (D_ tabOk Tryz.underlying24 rfl rfl rfl rfl (aa_ (by omega)) rfl rfl) rfl rfl ?_
 refine b_ (K_ tabOk rfl rfl rfl rfl) rfl rfl<|eb_ (B_ tabOk rfl) rfl rfl fun b11=>?_
 refine e_ (w_ (L' := ((l[zi]'hlt).chg.prepared[yj]'hly).abs) tabOk rfl rfl rfl u0_ rfl (Nat.le_of_ble_eq_true rfl) rfl (by exact A_ rfl)) rfl rfl ?_
 refine g_<|c_<|d_<|Y_ [] (.q 0 (.q 1 (.e 2 (.q 3 (.q 4 (.q 5 (.q 6 (.q 7 (.q 8 (.q 9 (.q 10 (.q 11 (.q 12 (.q 13 (.q 14 (.q 15 (.q 16 (.q 17 (.q 18 (.e 19 (.q 20 .nil))))))))))))))))))))) (by kernel_rfl) (by kernel_rfl) ?_
 refine ag_ (by (simp [mids, It.mids, ownPc, mapPc]; done)) fun hx9 => ?_
 refine l_ rfl (m_ (C := .fn (.func 124) [] [ptr b3]) (h_ tabOk rfl rfl l1_ List.not_mem_nil rfl) rfl) hx9 rfl rfl<|l_ rfl (m_ (C := .agg ((l[zi]'hlt).chg.prepared[yj]'hly).abs) (H_ tabOk rfl rfl rfl l0_ List.not_mem_nil (Nat.le_of_ble_eq_true rfl)) rfl) hx9 rfl rfl<|eP_ rfl (cn1_s (x := ((l[zi]'hlt).chg.prepared[yj]'hly)) (seq := seq) (bs := b3)) (by simp [mids, It.mids]) rfl Casts.refl (by kernel_rfl) rfl rfl rfl ?_
 refine ap_<|fun _=>qs_ 1 rfl<|am_ (t := 32) rfl ?_ ?_
 rotate_left
 ·intro hc32
  refine qs_ 15 rfl<|aE_ rfl rfl rfl<|qs_ 1 rfl<|N_<|c_<|V_ rfl<|p_<|o_<|c_<|a_<|b_ (s_ rfl rfl (by simp only [InR, lo, hi]; omega)) rfl rfl ?_
  refine q_ 1 rfl<|g_<|x_ (yj + 1, ya) (by omega) (⟨by dsimp only; omega, by dsimp only; rw [W_ _ _ hly, ← hy.2, g6_ hc32]⟩) (by exact ⟨rfl, rfl, rfl, rfl, rfl, rfl, rfl, rfl, rfl, rfl, trivial⟩) (sk_ sr_)
 intro hc32
 refine qs_ 1 rfl<|ag_ (by (simp [mids, It.mids, ownPc, mapPc]; done)) fun hx9 => ?_
 refine l_ rfl (aJ_ (p := ya.map fun e : Nat × Prf => (⟨e.1, 0, none⟩ : Addr)) rfl rfl (by kernel_rfl)) hx9 rfl rfl ?_
 refine qs_ 1 rfl<|cU_ (t := 35) rfl ?_ ?_
 ·intro hc35
  obtain rfl : ya = none := by
   cases ya with
   | none => rfl
   | some e => cases hc35
  refine qs_ 10 rfl<|l_ rfl (m_ (C := .agg (pfL l n)) (H_ tabOk rfl rfl rfl l3_ List.not_mem_nil (Nat.le_of_ble_eq_true rfl)) rfl) hx9 rfl rfl<|l_ rfl (m_ (C := .agg ((l[zi]'hlt).chg.prepared[yj]'hly).abs) (H_ tabOk rfl rfl rfl l0_ List.not_mem_nil (Nat.le_of_ble_eq_true rfl)) rfl) hx9 rfl rfl<|I_ rfl (hk_ (l := l) (n := n) (x := ((l[zi]'hlt).chg.prepared[yj]'hly)) hl hn (by have := gc_ (hl _ (List.getElem_mem hlt)) (List.getElem_mem hly); omega) ((hl _ (List.getElem_mem hlt)).lits.prep _ (List.getElem_mem hly))) (by simp [mids, It.mids]) Casts.refl (by kernel_rfl) rfl rfl rfl ?_
  refine ap_<|fun _=>qs_ 1 rfl<|N_<|c_<|ac_ rfl ?_ ?_
  rotate_left
  ·intro hc49
   refine p_<|o_<|c_<|a_<|b_ (s_ rfl rfl (by simp only [InR, lo, hi]; omega)) rfl rfl ?_
   refine q_ 1 rfl<|g_<|x_ (yj + 1, none) (by omega) (⟨by dsimp only; omega, by dsimp only; rw [W_ _ _ hly, ← hy.2, eE_ (by simpa using hc49)]⟩) (by exact ⟨rfl, rfl, rfl, rfl, rfl, rfl, rfl, rfl, rfl, rfl, trivial⟩) (sk_ sr_)
  intro hc49
  refine a_<|q_ 1 rfl<|g_<|o_<|c_<|a_<|b_ (s_ rfl rfl (by simp only [InR, lo, hi]; omega)) rfl rfl ?_
  refine q_ 1 rfl<|g_<|lL_ [] (Re.perm (xs := [.blk b11 77 ((l[zi]'hlt).chg.prepared[yj]'hly).abs,   .blk b7 164 [.fn (.func 124) [] [ptr b3]], .blk b3 2 [int seq], .blk b2 151 (pfL l n)]) (ys := [.blk b7 164 [.fn (.func 124) [] [ptr b3]], .blk b3 2 [int seq], .blk b2 151 (pfL l n), .blk b11 77 ((l[zi]'hlt).chg.prepared[yj]'hly).abs]) (by repeat (first | exact List.Perm.nil | refine pk_ (by repeat (first | exact Rem_.here | apply Rem_.there)) ?_)) (by intro x hx; simp only [List.mem_cons, List.mem_append, List.not_mem_nil, or_false] at hx; rcases hx with rfl | rfl | rfl | rfl <;> rfl)) rfl ?_
  refine x_ (yj + 1, some (b11, ((l[zi]'hlt).chg.prepared[yj]'hly))) (by omega) (⟨by dsimp only; omega, by dsimp only; rw [W_ _ _ hly, ← hy.2, dC_ hc32 (fun h9 => by (cases h9; done)) (by simpa using hc49)]; rfl⟩) (by exact ⟨rfl, rfl, rfl, rfl, rfl, rfl, rfl, rfl, rfl, rfl, trivial⟩) sr_
 intro hc35
 obtain ⟨e, rfl⟩ : ∃ e, ya = some e := by
  cases ya with
  | none => cases hc35
  | some e => exact ⟨e, rfl⟩
 refine qs_ 1 rfl<|l_ rfl (m_ (C := int ((l[zi]'hlt).chg.prepared[yj]'hly).view) (h_ tabOk rfl rfl l0_ List.not_mem_nil rfl) rfl) hx9 rfl rfl<|qs_ 1 rfl<|l_ rfl (m_ (C := ptr e.1) (an_ rfl) rfl) hx9 rfl rfl<|qs_ 1 rfl<|l_ rfl (m_ (C := int e.2.view) (h_ tabOk rfl rfl l4_ List.not_mem_nil rfl) rfl) hx9 rfl rfl<|qs_ 4 rfl<|am_ (t := 45) rfl ?_ ?_
 rotate_left
 ·intro hc45
  iterate 2 refine bq_ rfl rfl rfl ?_
  refine aE_ rfl rfl rfl<|qs_ 1 rfl<|N_<|c_<|V_ rfl<|p_<|o_<|c_<|a_<|b_ (s_ rfl rfl (by simp only [InR, lo, hi]; omega)) rfl rfl ?_
  refine q_ 1 rfl<|g_<|x_ (yj + 1, (some e)) (by omega) (⟨by dsimp only; omega, by dsimp only; rw [W_ _ _ hly, ← hy.2, fK_ (a := Option.map (fun x : Nat × Prf => x.2) (some e)) (x := ((l[zi]'hlt).chg.prepared[yj]'hly)) rfl hc45]⟩) (by exact ⟨rfl, rfl, rfl, rfl, rfl, rfl, rfl, rfl, rfl, rfl, trivial⟩) (sk_ sr_)
 intro hc45
 refine l_ rfl (m_ (C := .agg (pfL l n)) (H_ tabOk rfl rfl rfl l3_ List.not_mem_nil (Nat.le_of_ble_eq_true rfl)) rfl) hx9 rfl rfl<|l_ rfl (m_ (C := .agg ((l[zi]'hlt).chg.prepared[yj]'hly).abs) (H_ tabOk rfl rfl rfl l0_ List.not_mem_nil (Nat.le_of_ble_eq_true rfl)) rfl) hx9 rfl rfl<|I_ rfl (hk_ (l := l) (n := n) (x := ((l[zi]'hlt).chg.prepared[yj]'hly)) hl hn (by have := gc_ (hl _ (List.getElem_mem hlt)) (List.getElem_mem hly); omega) ((hl _ (List.getElem_mem hlt)).lits.prep _ (List.getElem_mem hly))) (by simp [mids, It.mids]) Casts.refl (by kernel_rfl) rfl rfl rfl ?_
 refine ap_<|fun _=>qs_ 1 rfl<|N_<|c_<|ac_ rfl ?_ ?_
 rotate_left
 ·intro hc49
  refine p_<|o_<|c_<|a_<|b_ (s_ rfl rfl (by simp only [InR, lo, hi]; omega)) rfl rfl ?_
  refine q_ 1 rfl<|g_<|x_ (yj + 1, (some e)) (by omega) (⟨by dsimp only; omega, by dsimp only; rw [W_ _ _ hly, ← hy.2, eE_ (by simpa using hc49)]⟩) (by exact ⟨rfl, rfl, rfl, rfl, rfl, rfl, rfl, rfl, rfl, rfl, trivial⟩) (sk_ sr_)
 intro hc49
 refine a_<|q_ 1 rfl<|g_<|o_<|c_<|a_<|b_ (s_ rfl rfl (by simp only [InR, lo, hi]; omega)) rfl rfl ?_
 refine q_ 1 rfl<|g_<|lL_ [] (Re.perm (xs := [.blk b11 77 ((l[zi]'hlt).chg.prepared[yj]'hly).abs,   .blk b7 164 [.fn (.func 124) [] [ptr b3]], .blk b3 2 [int seq], .blk b2 151 (pfL l n)]) (ys := [.blk b7 164 [.fn (.func 124) [] [ptr b3]], .blk b3 2 [int seq], .blk b2 151 (pfL l n), .blk b11 77 ((l[zi]'hlt).chg.prepared[yj]'hly).abs]) (by repeat (first | exact List.Perm.nil | refine pk_ (by repeat (first | exact Rem_.here | apply Rem_.there)) ?_)) (by intro x hx; simp only [List.mem_cons, List.mem_append, List.not_mem_nil, or_false] at hx; rcases hx with rfl | rfl | rfl | rfl <;> rfl)) rfl ?_
 refine x_ (yj + 1, some (b11, ((l[zi]'hlt).chg.prepared[yj]'hly))) (by omega) (⟨by dsimp only; omega, by dsimp only; rw [W_ _ _ hly, ← hy.2, dC_ hc32 (fun h9 => by exact hc45) (by simpa using hc49)]; rfl⟩) (by exact ⟨rfl, rfl, rfl, rfl, rfl, rfl, rfl, rfl, rfl, rfl, trivial⟩) (sc_ (sc_ (sc_ (sc_ sn_))))
theorem cof_s (h1 : 1 ≤ n) (h7 : n ≤ 7) : Spec Tryz.prog 90 [sgnsA l, int n] [] (fun _ : Unit => []) (fun _ => .agg (pfL l n)) := by
 refine G_ Tryz.func90 rfl Tryz.ntmps90 rfl fun G w =>d_<|a_<|eb_ (B_ tabOk rfl) rfl rfl fun b4=>?_
 refine g_<|c_<|d_<|a_<|q_ 2 rfl<|u_ (dF_ (n := n) (by omega)) Casts.refl (by kernel_rfl) rfl rfl rfl ?_
 refine ap_<|fun _=>b_ (s_ rfl rfl (by simp only [InR, lo, hi]; omega)) rfl rfl ?_
 refine q_ 1 rfl<|u_ (f9_ (n := n) (by omega)) Casts.refl (by kernel_rfl) rfl rfl rfl ?_
 refine ap_<|fun _=>b_ (m_ (C := .agg (pfL l n)) (J_ tabOk rfl rfl rfl rfl) rfl) rfl rfl<|eb_ (B_ tabOk rfl) rfl rfl fun b5=>?_
 refine e_ (w_ (L' := pfL l n) tabOk rfl rfl rfl u0_ rfl (Nat.le_of_ble_eq_true rfl) rfl (by exact A_ rfl)) rfl rfl ?_
 refine g_<|c_<|d_<|d_<|a_<|q_ 3 rfl<|C_ (t := 15) rfl (by intro hc15; exfalso; omega) ?_
 intro hc15
 refine q_ 3 rfl<|g_<|c_<|r_ rfl (by intro hc18; exfalso; omega) ?_
 intro hc18
 refine p_<|c_<|d_<|a_<|b_ (m_ (C := .agg (pfL l n)) (H_ tabOk rfl rfl rfl l0_ List.not_mem_nil (Nat.le_of_ble_eq_true rfl)) rfl) rfl rfl<|e_ (w_ (L' := pfL l n) tabOk rfl rfl rfl u1_ rfl (Nat.le_of_ble_eq_true rfl) rfl (by exact A_ rfl)) rfl rfl ?_
 refine g_<|c_<|n_<|f_ (rs := [.cell 4 151]) rfl (RV.cell rfl (RV.cellA tabOk rfl rfl l1_ (by rfl)) RV.nil) (()) sn_ ?_
 exact rfl
end
abbrev chL (b : Pnt) (a : Abs) : List Abs := b.abs ++ [a]
theorem T_ (b : Pnt) (a : Abs) : (chL b a).length = 34 := by rw [List.length_append, Pnt.size]; rfl
theorem aK_ (b : Pnt) {a : Abs} (h : a.one = true) : ones (chL b a) = true := by
  rw [bE_]; intro c hc
  rcases List.mem_append.1 hc with h1 | h1
  · exact bE_.1 (Pnt.ones b) c h1
  · rw [List.mem_singleton.1 h1]; exact h
theorem cH_ (b : Pnt) (a : Abs) : (chL b a)[33]? = some a := by
  rw [List.getElem?_append_right (by rw [Pnt.size]; exact Nat.le_refl _), Pnt.size]
  rfl
theorem gn_ (b : Pnt) (a c : Abs) : putL (chL b a) 33 [c] = chL b c := by
  have h1 : (chL b a).take 33 = b.abs := by rw [List.take_append_of_le_length (by rw [Pnt.size]; exact Nat.le_refl _), List.take_of_length_le (by rw [Pnt.size]; exact Nat.le_refl _)]
  rw [b9_ _ _ _ (by rw [T_]; omega), h1, List.drop_eq_nil_of_le (by rw [T_]; simp), List.append_nil]
theorem lo_ (b : Pnt) (a : Abs) : Nat.blt 33 (chL b a).length = true := by rw [T_]; rfl
theorem eo_ (b : Pnt) (a : Abs) : 0 + 34 ≤ (chL b a).length := by rw [T_]; exact Nat.le_refl _
theorem hp_ {xs ys : List Abs} (k : Casts xs ys) : ∀ zs : List Abs, Casts (zs ++ xs) (zs ++ ys)
  | [] => k
  | z :: zs => Casts.keep (hp_ k zs)
theorem cG_ : Casts (chL pz (.v (.slice none 0 0))) Chc.zero.abs := hp_ (Casts.nils Casts.refl) _
theorem ln_ {b : Pnt} {place : Nat → Option (Nat × Nat)} {Z : List Abs} (hZ : Z.length = 33) (h0 : place 0 = some (0, 33)) : fillA place (Z ++ [.v (.slice none 0 0)]) [(0, .agg b.abs)] = some (chL b (.v (.slice none 0 0))) := by
  have h1 : putL (Z ++ [Abs.v (.slice none 0 0)]) 0 b.abs = chL b (.v (.slice none 0 0)) := by
    rw [b9_ _ _ _ (Nat.zero_le _), List.take_zero, List.nil_append, Nat.zero_add, Pnt.size, List.drop_append_of_le_length (by omega), List.drop_eq_nil_of_le (by omega)]
    rfl
  simp only [fillA, h0, cellsA, h1, Pnt.size]
  simp [hZ]
  rfl
theorem far_max {x b : Int} {f : Nat} (h : b < x) (h2 : dW x b = x - b) : max ((f : Nat) : Int) (dW x b) = ((max f (x - b).toNat : Nat) : Int) := by
  rw [h2]
  omega
section
variable {l : List Sgn} {n : Int}
set_option maxHeartbeats 4000000 in
theorem ls_ (h1 : 1 ≤ n) (h7 : n ≤ 7) (hl : ∀ s ∈ l, CIn s.chg) (hn : l.length ≤ 100) : Spec Tryz.prog 55 [sgnsA l, int n] [] (fun _ : Unit => []) (fun _ => .tup [.agg (chooseF l n).1.abs, int (chooseF l n).2]) := by
 refine G_ Tryz.func55 rfl Tryz.ntmps55 rfl fun G w =>d_<|a_<|eb_ (B_ tabOk rfl) rfl rfl fun b4=>?_
 refine q_ 1 rfl<|g_<|c_<|d_<|a_<|q_ 2 rfl<|u_ (cof_s (l := l) h1 h7) Casts.refl (by kernel_rfl) rfl rfl rfl ?_
 refine ap_<|fun _=>eb_ (B_ tabOk rfl) rfl rfl fun b6=>?_
 refine e_ (w_ (L' := pfL l n) tabOk rfl rfl rfl u0_ rfl (Nat.le_of_ble_eq_true rfl) rfl (by exact A_ rfl)) rfl rfl ?_
 refine g_<|c_<|d_<|a_<|b_ (m_ (C := .agg (pfL l n)) (H_ tabOk rfl rfl rfl l0_ List.not_mem_nil (Nat.le_of_ble_eq_true rfl)) rfl) rfl rfl<|u_ (cbase_s (n := n) hl hn) Casts.refl (by kernel_rfl) rfl rfl rfl ?_
 refine ap_<|fun _=>q_ 3 rfl<|eb_ (B_ tabOk rfl) rfl rfl fun b7=>?_
 refine e_ (w_ (L' := ((baseF l n).getD pz).abs) tabOk rfl rfl rfl u0_ (Pnt.size _) (Nat.le_of_ble_eq_true rfl) (Pnt.ones _) (by exact A_ (Pnt.size _))) rfl rfl ?_
 refine q_ 1 rfl<|g_<|c_<|d_<|d_<|a_<|q_ 1 rfl<|b_ (ai_ rfl) rfl rfl<|g_<|c_<|ac_ rfl ?_ ?_
 ·intro hc28
  have hbf : baseF l n = none := by
   cases hb9 : baseF l n with
   | none => rfl
   | some b => rw [hb9] at hc28; cases hc28
  refine d_<|a_<|b_ (m_ (C := .agg (chL pz (.v (.slice none 0 0)))) (J_ tabOk rfl rfl rfl rfl) rfl) rfl rfl<|e_ (w_ (L' := chL pz (.v (.slice none 0 0))) tabOk rfl rfl rfl u2_ (T_ _ _) (Nat.le_of_ble_eq_true rfl) (aK_ _ rfl) (by exact A_ (T_ _ _))) rfl rfl ?_
  refine q_ 1 rfl<|g_<|c_<|n_<|i_ nofun<|fC_ (rs := [.cell 4 62, .tmp 5]) rfl (RV.cell rfl (RV.cellA tabOk rfl rfl l2_ ((T_ _ _))) (RV.tmp rfl RV.nil)) (Casts.cons (aN_ cG_) Casts.refl) (()) sn_ ?_
  rw [dr_ hbf]
  rfl
 intro hc28
 obtain ⟨b, hbf⟩ : ∃ b, baseF l n = some b := by
  cases hb9 : baseF l n with
  | none => rw [hb9] at hc28; cases hc28
  | some b => exact ⟨b, rfl⟩
 have hbs : InR .i64 b.seq := (by
  rcases eN_ (m := l) (a := none) (show l.foldl (baseIn l n) none = some b from hbf) with ⟨s, h1, h2⟩ | h1
  ·exact (hl s h1).lits.pts _ h2
  cases h1)
 have hfo : FarOk b.seq (farF l b.seq) := (FarOk.zero hbs).all fun s hs x hx => ((hl s hs).lits.prep x hx).seq
 rw [hbf]
 refine p_<|c_<|d_<|a_<|q_ 1 rfl<|g_<|c_<|d_<|d_<|a_<|q_ 1 rfl<|b_ (z_ rfl Tryz.underlying53 (List.length_map _)) rfl rfl<|q_ 1 rfl<|g_<|c_<|t_ ?_
 skip
 refine S_ (ι := Nat × Nat) (fun z => [.blk b7 59 b.abs, .blk b6 151 (pfL l n), .blk b4 62 (chL pz (.v (.slice none 0 0)))]) (fun z => [(4, ptr b4), (6, ptr b6), (7, ptr b7), (9, .v (.int .u64 ((z.2 : Nat) : Int))), (30, sgnsA l), (31, int (l.length : Nat)), (32, int (z.1 : Nat))]) (fun z => z.1 ≤ l.length ∧ z.2 = (l.take z.1).foldl (farIn b.seq) 0) (fun z => l.length - z.1) (0, 0) (⟨Nat.zero_le _, rfl⟩) (by exact ⟨rfl, rfl, rfl, rfl, rfl, rfl, rfl, trivial⟩) sr_ ?_
 intro z hz
 refine d_<|a_<|q_ 1 rfl<|g_<|c_<|d_<|r_ rfl ?_ ?_
 rotate_left
 ·intro hc33
  have hzf : z.2 = farF l b.seq := by
   rw [hz.2, a1_ _ _ (by omega)]
   rfl
  rw [← hzf] at hfo
  obtain ⟨hf8, hfm⟩ := hfo
  simp only [InR, lo, hi] at hbs
  refine Q_<|i_ nofun<|i_ nofun<|P_<|c_<|d_<|a_<|b_ (m_ (C := .agg b.abs) (F_ tabOk rfl rfl rfl l0_ List.not_mem_nil (Pnt.size _)) rfl) rfl rfl<|b_ (m_ (C := .agg (chL b (.v (.slice none 0 0)))) (J_ tabOk rfl rfl rfl (ln_ (Z := pz.abs) (Pnt.size _) rfl)) rfl) rfl rfl<|eb_ (B_ tabOk rfl) rfl rfl fun b15=>?_
  refine e_ (w_ (L' := chL b (.v (.slice none 0 0))) tabOk rfl rfl rfl u0_ (T_ _ _) (Nat.le_of_ble_eq_true rfl) (aK_ _ rfl) (by exact A_ (T_ _ _))) rfl rfl ?_
  refine g_<|c_<|d_<|d_<|a_<|q_ 1 rfl<|b_ (m_ (C := int (z.2 : Nat)) (al_ rfl Tryz.underlying2 (by kernel_rfl) (by simp only [InR, lo, hi]; omega)) rfl) rfl rfl ?_
  refine q_ 1 rfl<|g_<|c_<|t_<|bO_ 75 1<|S_ (ι := Nat × Value) (fun w => [own 75 1 w.2 ((numsF l n b.seq w.1).map fun e => [entsA e]), .blk b15 62 (chL b (.v w.2)), .blk b7 59 b.abs, .blk b6 151 (pfL l n), .blk b4 62 (chL pz (.v (.slice none 0 0)))]) (fun w => [(4, ptr b4), (6, ptr b6), (7, ptr b7), (15, ptr b15), (68, int (z.2 : Nat)), (69, int (w.1 : Nat))]) (fun w => w.1 ≤ z.2 ∧ allNums l n b.seq w.1 = true) (fun w => z.2 - w.1) (0, .slice none 0 0) (⟨Nat.zero_le _, rfl⟩) (by exact ⟨rfl, rfl, rfl, rfl, rfl, rfl, trivial⟩) sr_ ?_
  intro w hw
  refine d_<|a_<|q_ 1 rfl<|g_<|c_<|d_<|r_ rfl ?_ ?_
  rotate_left
  ·intro hc70
   have hwe : w.1 = z.2 := by omega
   refine Q_<|i_ nofun<|i_ nofun<|P_<|c_<|d_<|cA_ [] 33 rfl u0_ (cH_ _ _) ?_
   rw [gn_]
   refine a_<|b_ (m_ (C := .agg (chL b (.sl 1 ((numsF l n b.seq w.1).map fun e => [entsA e])))) (F_ tabOk rfl rfl rfl l0_ List.not_mem_nil (T_ _ _)) rfl) rfl rfl<|e_ (w_ (L' := chL b (.sl 1 ((numsF l n b.seq w.1).map fun e => [entsA e]))) tabOk rfl rfl rfl u3_ (T_ _ _) (eo_ _ _) (aK_ _ rfl) (by exact A_ ((T_ _ _).trans (T_ _ _).symm))) rfl rfl ?_
   refine q_ 1 rfl<|g_<|c_<|n_<|f_ (rs := [.cell 4 62, .tmp 5]) rfl (RV.cell rfl (RV.cellA tabOk rfl rfl l3_ ((T_ _ _))) (RV.tmp rfl RV.nil)) (()) sn_ ?_
   rw [hwe, hzf] at hw ⊢
   rw [d3_ hbf hw.2]
   rfl
  intro hc70
  refine p_<|c_<|d_<|t_<|d_<|a_<|q_ 2 rfl<|g_<|c_<|d_<|a_<|b_ (m_ (C := .agg (pfL l n)) (H_ tabOk rfl rfl rfl l3_ List.not_mem_nil (Nat.le_of_ble_eq_true rfl)) rfl) rfl rfl<|q_ 1 rfl<|b_ (m_ (C := int b.seq) (h_ tabOk rfl rfl l2_ List.not_mem_nil rfl) rfl) rfl rfl<|q_ 1 rfl<|b_ (s_ rfl rfl (by simp only [InR, lo, hi]; omega)) rfl rfl ?_
  refine b_ (s_ rfl rfl (by simp only [InR, lo, hi]; omega)) rfl rfl ?_
  refine u_ (lg_ (n := n) (seq := b.seq + ((w.1 : Nat) : Int) + 1) hl hn) Casts.refl (by kernel_rfl) rfl rfl rfl ?_
  refine ap_<|fun _=>q_ 5 rfl<|g_<|c_<|d_<|d_<|a_<|q_ 1 rfl<|b_ (ai_ rfl) rfl rfl<|g_<|c_<|ac_ rfl ?_ ?_
  ·intro hc83
   refine d_<|a_<|b_ (m_ (C := .agg (chL pz (.v (.slice none 0 0)))) (J_ tabOk rfl rfl rfl rfl) rfl) rfl rfl<|e_ (w_ (L' := chL pz (.v (.slice none 0 0))) tabOk rfl rfl rfl u4_ (T_ _ _) (eo_ _ _) (aK_ _ rfl) (by exact A_ ((T_ _ _).trans (T_ _ _).symm))) rfl rfl ?_
   refine q_ 1 rfl<|g_<|c_<|n_<|i_ nofun<|E_<|i_ nofun<|i_ nofun<|E_<|i_ nofun<|fC_ (rs := [.cell 4 62, .tmp 5]) rfl (RV.cell rfl (RV.cellA tabOk rfl rfl l4_ ((T_ _ _))) (RV.tmp rfl RV.nil)) (Casts.cons (aN_ cG_) Casts.refl) (()) sn_ ?_
   rw [fl_ hbf (fT_ (k := w.1) (by simpa using hc83) (by rw [← hzf]; omega))]
   rfl
  intro hc83
  refine p_<|c_<|a_<|q_ 1 rfl<|b_ (m_ (C := .v w.2) (h_ tabOk rfl rfl l1_ List.not_mem_nil (cH_ _ _)) rfl) rfl rfl<|q_ 1 rfl<|e_ (ae_ tabOk Tryz.underlying60 rfl rfl rfl rfl rfl rfl rfl) rfl rfl<|eb_ (ak_ (zs := ((numsF l n b.seq (w.1 + 1)).map fun e => [entsA e])) tabOk [] (by rw [fJ_, List.map_append]; rfl) Tryz.underlying60 rfl rfl rfl rfl rfl rfl (by intro c hc; rw [List.mem_singleton] at hc; subst hc; rfl) (by unfold maxLen; simp only [List.length_map, bU_, List.length_cons, List.length_nil]; omega) (by rw [show Tryz.prog.bytesOf 75 = 24 by kernel_rfl]; simp only [List.length_map, bU_, List.length_cons, List.length_nil]; omega)) rfl rfl fun r89=>?_
  refine q_ 1 rfl<|e_ (cl_ (L' := chL b (.v r89)) tabOk rfl rfl rfl rfl i0_ u1_ (lo_ _ _) (gn_ _ _ _)) rfl rfl<|g_<|o_<|c_<|a_<|b_ (s_ rfl rfl (by simp only [InR, lo, hi]; omega)) rfl rfl ?_
  refine q_ 1 rfl<|g_<|x_ (w.1 + 1, r89) (by omega) (⟨by dsimp only; omega, fq_ hw.2 (by simpa using hc83)⟩) (by exact ⟨rfl, rfl, rfl, rfl, rfl, rfl, trivial⟩) sr_
 intro hc33
 have hlt : z.1 < l.length := by omega
 refine p_<|c_<|d_<|t_<|d_<|a_<|b_ (D_ tabOk Tryz.underlying53 rfl rfl rfl rfl (aa_ (by omega)) rfl rfl) rfl rfl ?_
 refine b_ (K_ tabOk rfl rfl rfl rfl) rfl rfl<|eb_ (B_ tabOk rfl) rfl rfl fun b11=>?_
 refine e_ (w_ (L' := (l[z.1]'hlt).abs) tabOk rfl rfl rfl u0_ rfl (Nat.le_of_ble_eq_true rfl) rfl (by exact A_ rfl)) rfl rfl ?_
 refine g_<|c_<|d_<|a_<|q_ 2 rfl<|b_ (m_ (C := prfsA (l[z.1]'hlt).chg.prepared) (h_ tabOk rfl rfl l0_ List.not_mem_nil rfl) rfl) rfl rfl<|b_ (z_ rfl Tryz.underlying24 (List.length_map _)) rfl rfl<|q_ 1 rfl<|g_<|c_<|t_<|S_ (ι := Nat × Nat) (fun y => [.blk b7 59 b.abs, .blk b6 151 (pfL l n), .blk b4 62 (chL pz (.v (.slice none 0 0)))]) (fun y => [(4, ptr b4), (6, ptr b6), (7, ptr b7), (9, .v (.int .u64 ((y.2 : Nat) : Int))), (30, sgnsA l), (31, int (l.length : Nat)), (32, int (z.1 : Nat)), (38, prfsA (l[z.1]'hlt).chg.prepared), (39, int ((l[z.1]'hlt).chg.prepared.length : Nat)), (40, int (y.1 : Nat))]) (fun y => y.1 ≤ (l[z.1]'hlt).chg.prepared.length ∧ y.2 = ((l[z.1]'hlt).chg.prepared.take y.1).foldl (farSt b.seq) z.2) (fun y => (l[z.1]'hlt).chg.prepared.length - y.1) (0, z.2) (⟨Nat.zero_le _, rfl⟩) (by exact ⟨rfl, rfl, rfl, rfl, rfl, rfl, rfl, rfl, rfl, rfl, trivial⟩) (sk_ sr_) ?_
 intro y hy
 refine d_<|a_<|q_ 1 rfl<|g_<|c_<|d_<|r_ rfl ?_ ?_
 rotate_left
 ·intro hc41
  refine Q_<|i_ nofun<|i_ nofun<|P_<|o_<|c_<|a_<|b_ (s_ rfl rfl (by simp only [InR, lo, hi]; omega)) rfl rfl ?_
  refine q_ 1 rfl<|g_<|x_ (z.1 + 1, y.2) (by omega) (⟨by dsimp only; omega, by dsimp only; rw [W_ _ _ hlt, ← hz.2, hy.2, a1_ _ _ (by omega)]; rfl⟩) (by exact ⟨rfl, rfl, rfl, rfl, rfl, rfl, rfl, trivial⟩) sr_
 intro hc41
 have hly : y.1 < (l[z.1]'hlt).chg.prepared.length := by omega
 have hpl := (hl _ (List.getElem_mem hlt)).asked.1.1
 have hxs := ((hl _ (List.getElem_mem hlt)).lits.prep _ (List.getElem_mem hly)).seq
 refine p_<|c_<|d_<|t_<|d_<|a_<|b_ (D_ tabOk Tryz.underlying24 rfl rfl rfl rfl (aa_ (by omega)) rfl rfl) rfl rfl ?_
 refine b_ (K_ tabOk rfl rfl rfl rfl) rfl rfl<|eb_ (B_ tabOk rfl) rfl rfl fun b13=>?_
 refine e_ (w_ (L' := ((l[z.1]'hlt).chg.prepared[y.1]'hly).abs) tabOk rfl rfl rfl u0_ rfl (Nat.le_of_ble_eq_true rfl) rfl (by exact A_ rfl)) rfl rfl ?_
 refine g_<|c_<|d_<|a_<|q_ 1 rfl<|b_ (m_ (C := int ((l[z.1]'hlt).chg.prepared[y.1]'hly).seq) (h_ tabOk rfl rfl l0_ List.not_mem_nil rfl) rfl) rfl rfl<|b_ (aw_ rfl Tryz.underlying134 (by kernel_rfl)) rfl rfl ?_
 refine q_ 1 rfl<|b_ (m_ (C := int b.seq) (h_ tabOk rfl rfl l1_ List.not_mem_nil rfl) rfl) rfl rfl<|b_ (aw_ rfl Tryz.underlying134 (by kernel_rfl)) rfl rfl ?_
 refine b_ (m_ (C := .v (.int .u64 (dW ((l[z.1]'hlt).chg.prepared[y.1]'hly).seq b.seq))) (gw_ rfl rfl) rfl) rfl rfl<|q_ 1 rfl<|g_<|c_<|d_<|a_<|q_ 1 rfl<|b_ (m_ (C := int ((l[z.1]'hlt).chg.prepared[y.1]'hly).seq) (h_ tabOk rfl rfl l0_ List.not_mem_nil rfl) rfl) rfl rfl<|q_ 1 rfl<|b_ (m_ (C := int b.seq) (h_ tabOk rfl rfl l1_ List.not_mem_nil rfl) rfl) rfl rfl<|q_ 2 rfl<|C_ (t := 56) rfl ?_ ?_
 rotate_left
 ·intro hc56
  refine q_ 3 rfl<|g_<|c_<|V_ rfl<|p_<|o_<|c_<|a_<|b_ (s_ rfl rfl (by simp only [InR, lo, hi]; omega)) rfl rfl ?_
  refine q_ 1 rfl<|g_<|x_ (y.1 + 1, y.2) (by omega) (⟨by dsimp only; omega, by dsimp only; rw [W_ _ _ hly, ← hy.2]; exact (if_neg (fun h9 => by omega)).symm⟩) (by exact ⟨rfl, rfl, rfl, rfl, rfl, rfl, rfl, rfl, rfl, rfl, trivial⟩) (sk_ sr_)
 intro hc56
 have hdw := dW_eq hxs hbs hc56
 refine q_ 3 rfl<|g_<|c_<|r_ rfl ?_ ?_
 rotate_left
 ·intro hc59
  try rw [hdw] at hc59
  refine p_<|o_<|c_<|a_<|b_ (s_ rfl rfl (by simp only [InR, lo, hi]; omega)) rfl rfl ?_
  refine q_ 1 rfl<|g_<|x_ (y.1 + 1, y.2) (by omega) (⟨by dsimp only; omega, by dsimp only; rw [W_ _ _ hly, ← hy.2]; exact (if_neg (fun h9 => by omega)).symm⟩) (by exact ⟨rfl, rfl, rfl, rfl, rfl, rfl, rfl, rfl, rfl, rfl, trivial⟩) (sk_ sr_)
 intro hc59
 rw [hdw] at hc59
 refine a_<|q_ 2 rfl<|b_ (m_ (C := .v (.int .u64 ((max y.2 (((l[z.1]'hlt).chg.prepared[y.1]'hly).seq - b.seq).toNat : Nat) : Int))) (gB_ rfl rfl) (congrArg (fun r => Abs.v (.int .u64 r)) (far_max hc56 hdw))) rfl rfl<|q_ 1 rfl<|g_<|o_<|c_<|a_<|b_ (s_ rfl rfl (by simp only [InR, lo, hi]; omega)) rfl rfl ?_
 refine q_ 1 rfl<|g_<|x_ (y.1 + 1, max y.2 (((l[z.1]'hlt).chg.prepared[y.1]'hly).seq - b.seq).toNat) (by omega) (⟨by dsimp only; omega, by dsimp only; rw [W_ _ _ hly, ← hy.2]; exact (if_pos ⟨hc56, by omega⟩).symm⟩) (by exact ⟨rfl, rfl, rfl, rfl, rfl, rfl, rfl, rfl, rfl, rfl, trivial⟩) (sk_ sr_)
end
def bcell (a : Option Prf) : List Abs := match a with
  | none => [int 0, int 0, .v (.slice none 0 0)]
  | some p => p.abs
theorem fn_ (a : Option Prf) : (bcell a).length = 3 := by cases a <;> rfl
theorem jh_ (a : Option Prf) : 0 + 3 ≤ (bcell a).length := by rw [fn_]; exact Nat.le_refl _
theorem jW_ (a : Option Prf) : (bcell a)[0 + 1]? = some (int (a.getD prz).view) := by cases a <;> rfl
theorem ii_ {a : Option Prf} (h : a.isSome = true) : (bcell a)[0 + 2]? = some (entsA (a.getD prz).batch) := by
  cases a with
  | none => cases h
  | some p => rfl
section
variable {x : Prf} {c : Chg} {l : List Sgn} {n seq view : Int} {b : List Ent}
theorem jF_ (hb : ∀ e ∈ b, e.Lits) (hc : CIn c) : Spec Tryz.prog 152 [.agg c.abs, int seq, int view, entsA b] [] (fun _ : Unit => []) (fun _ => boo (againstB seq view b c)) := by
 refine G_ Tryz.func152 rfl Tryz.ntmps152 rfl fun G w =>d_<|a_<|eb_ (L_ (cs := c.abs) rfl) rfl rfl fun b4=>?_
 refine q_ 1 rfl<|g_<|c_<|d_<|d_<|a_<|q_ 1 rfl<|b_ (m_ (C := int c.low) (h_ tabOk rfl rfl l0_ List.not_mem_nil rfl) rfl) rfl rfl<|q_ 2 rfl<|g_<|c_<|r_ rfl ?_ ?_
 ·intro hc14
  refine d_<|a_<|q_ 1 rfl<|g_<|c_<|n_<|i_ nofun<|f_ (rs := [.tmp 8]) rfl (RV.tmp rfl RV.nil) (()) sn_<|congrArg (fun b => Abs.v (Value.bool b)) ?_
  unfold againstB
  rw [decide_eq_true hc14]
  all_goals rfl
 intro hc14
 refine p_<|c_<|d_<|d_<|a_<|q_ 1 rfl<|b_ (m_ (C := prfsA c.prepared) (h_ tabOk rfl rfl l0_ List.not_mem_nil rfl) rfl) rfl rfl<|b_ (z_ rfl Tryz.underlying24 (List.length_map _)) rfl rfl<|q_ 1 rfl<|g_<|c_<|t_<|S_ (ι := Nat) (fun z => []) (fun z => [(1, int seq), (2, int view), (3, entsA b), (16, prfsA c.prepared), (17, int (c.prepared.length : Nat)), (18, int (z : Nat))]) (fun z => z ≤ c.prepared.length ∧ ∀ j (hj : j < c.prepared.length), j < z → agB seq view b c.prepared[j] = false) (fun z => c.prepared.length - z) (0) (⟨Nat.zero_le _, fun j hj h => by omega⟩) (by exact ⟨rfl, rfl, rfl, rfl, rfl, rfl, trivial⟩) sn_ ?_
 intro z hz
 refine d_<|a_<|q_ 1 rfl<|g_<|c_<|d_<|r_ rfl ?_ ?_
 rotate_left
 ·intro hc19
  refine Q_<|i_ nofun<|i_ nofun<|P_<|c_<|d_<|a_<|q_ 1 rfl<|g_<|c_<|n_<|f_ (rs := [.tmp 8]) rfl (RV.tmp rfl RV.nil) (()) sn_<|congrArg (fun b => Abs.v (Value.bool b)) ?_
  unfold againstB
  rw [any_no hz.2 (by omega), decide_eq_false (by omega)]
  all_goals rfl
 intro hc19
 have hlt : z < c.prepared.length := by omega
 have hpl := hc.asked.1.1
 refine p_<|c_<|d_<|t_<|d_<|a_<|b_ (D_ tabOk Tryz.underlying24 rfl rfl rfl rfl (aa_ (by omega)) rfl rfl) rfl rfl ?_
 refine b_ (K_ tabOk rfl rfl rfl rfl) rfl rfl<|eb_ (B_ tabOk rfl) rfl rfl fun b10=>?_
 refine e_ (w_ (L' := (c.prepared[z]'hlt).abs) tabOk rfl rfl rfl u0_ rfl (Nat.le_of_ble_eq_true rfl) rfl (by exact A_ rfl)) rfl rfl ?_
 refine g_<|c_<|d_<|a_<|q_ 1 rfl<|b_ (m_ (C := int (c.prepared[z]'hlt).seq) (h_ tabOk rfl rfl l0_ List.not_mem_nil rfl) rfl) rfl rfl<|q_ 3 rfl<|C_ (t := 26) rfl ?_ ?_
 rotate_left
 ·intro hc26
  refine q_ 18 rfl<|g_<|c_<|V_ rfl<|p_<|o_<|c_<|a_<|b_ (s_ rfl rfl (by simp only [InR, lo, hi]; omega)) rfl rfl ?_
  refine q_ 1 rfl<|g_<|x_ (z + 1) (by omega) (⟨by omega, fun j hj hjz => by
   rcases Nat.lt_or_ge j z with h1 | h1
   ·exact hz.2 j hj h1
   obtain rfl : j = z := (by omega)
   unfold agB
   (simp_all; done)⟩) (by exact ⟨rfl, rfl, rfl, rfl, rfl, rfl, trivial⟩) sn_
 intro hc26
 refine q_ 1 rfl<|b_ (m_ (C := int (c.prepared[z]'hlt).view) (h_ tabOk rfl rfl l0_ List.not_mem_nil rfl) rfl) rfl rfl<|q_ 3 rfl<|C_ (t := 31) rfl ?_ ?_
 ·intro hc31
  refine q_ 13 rfl<|g_<|c_<|O_ rfl<|d_<|a_<|q_ 1 rfl<|g_<|c_<|n_<|E_<|i_ nofun<|i_ nofun<|E_<|i_ nofun<|f_ (rs := [.tmp 8]) rfl (RV.tmp rfl RV.nil) (()) sn_<|congrArg (fun b => Abs.v (Value.bool b)) ?_
  unfold againstB
  rw [ik_ hlt (by unfold agB; simp_all)]
  all_goals simp
 intro hc31
 refine q_ 1 rfl<|b_ (m_ (C := int (c.prepared[z]'hlt).view) (h_ tabOk rfl rfl l0_ List.not_mem_nil rfl) rfl) rfl rfl<|q_ 3 rfl<|C_ (t := 36) rfl ?_ ?_
 rotate_left
 ·intro hc36
  refine q_ 8 rfl<|g_<|c_<|V_ rfl<|p_<|o_<|c_<|a_<|b_ (s_ rfl rfl (by simp only [InR, lo, hi]; omega)) rfl rfl ?_
  refine q_ 1 rfl<|g_<|x_ (z + 1) (by omega) (⟨by omega, fun j hj hjz => by
   rcases Nat.lt_or_ge j z with h1 | h1
   ·exact hz.2 j hj h1
   obtain rfl : j = z := (by omega)
   unfold agB
   (simp_all; done)⟩) (by exact ⟨rfl, rfl, rfl, rfl, rfl, rfl, trivial⟩) sn_
 intro hc36
 refine q_ 1 rfl<|b_ (m_ (C := entsA (c.prepared[z]'hlt).batch) (h_ tabOk rfl rfl l0_ List.not_mem_nil rfl) rfl) rfl rfl<|q_ 1 rfl<|u_ (eB_ (es := (c.prepared[z]'hlt).batch) (fs := b) (((hc.asked.1.long).2 _ (List.getElem_mem hlt))) ((hc.lits.prep _ (List.getElem_mem hlt)).all) hb) Casts.refl (by kernel_rfl) rfl rfl rfl ?_
 refine ap_<|fun _=>b_ (ai_ rfl) rfl rfl<|q_ 3 rfl<|g_<|c_<|ac_ rfl ?_ ?_
 ·intro hc44
  refine d_<|a_<|q_ 1 rfl<|g_<|c_<|n_<|E_<|i_ nofun<|i_ nofun<|E_<|i_ nofun<|f_ (rs := [.tmp 8]) rfl (RV.tmp rfl RV.nil) (()) sn_<|congrArg (fun b => Abs.v (Value.bool b)) ?_
  unfold againstB
  rw [ik_ hlt (by unfold agB; simp_all)]
  all_goals simp
 intro hc44
 refine p_<|o_<|c_<|a_<|b_ (s_ rfl rfl (by simp only [InR, lo, hi]; omega)) rfl rfl ?_
 refine q_ 1 rfl<|g_<|x_ (z + 1) (by omega) (⟨by omega, fun j hj hjz => by
  rcases Nat.lt_or_ge j z with h1 | h1
  ·exact hz.2 j hj h1
  obtain rfl : j = z := (by omega)
  unfold agB
  (simp_all; done)⟩) (by exact ⟨rfl, rfl, rfl, rfl, rfl, rfl, trivial⟩) sn_
theorem e2_ (hb : ∀ e ∈ b, e.Lits) (hc : CIn c) : Spec Tryz.prog 153 [.agg c.abs, int seq, int view, entsA b] [] (fun _ : Unit => []) (fun _ => boo (proposedB seq view b c)) := by
 refine G_ Tryz.func153 rfl Tryz.ntmps153 rfl fun G w =>d_<|a_<|eb_ (L_ (cs := c.abs) rfl) rfl rfl fun b4=>?_
 refine q_ 1 rfl<|g_<|c_<|d_<|d_<|a_<|q_ 1 rfl<|b_ (m_ (C := prfsA c.proposed) (h_ tabOk rfl rfl l0_ List.not_mem_nil rfl) rfl) rfl rfl<|b_ (z_ rfl Tryz.underlying24 (List.length_map _)) rfl rfl<|q_ 1 rfl<|g_<|c_<|t_<|S_ (ι := Nat) (fun z => []) (fun z => [(1, int seq), (2, int view), (3, entsA b), (12, prfsA c.proposed), (13, int (c.proposed.length : Nat)), (14, int (z : Nat))]) (fun z => z ≤ c.proposed.length ∧ ∀ j (hj : j < c.proposed.length), j < z → prB seq view b c.proposed[j] = false) (fun z => c.proposed.length - z) (0) (⟨Nat.zero_le _, fun j hj h => by omega⟩) (by exact ⟨rfl, rfl, rfl, rfl, rfl, rfl, trivial⟩) sn_ ?_
 intro z hz
 refine d_<|a_<|q_ 1 rfl<|g_<|c_<|d_<|r_ rfl ?_ ?_
 rotate_left
 ·intro hc15
  refine Q_<|i_ nofun<|i_ nofun<|P_<|c_<|d_<|a_<|q_ 1 rfl<|g_<|c_<|n_<|f_ (rs := [.tmp 8]) rfl (RV.tmp rfl RV.nil) (()) sn_<|congrArg (fun b => Abs.v (Value.bool b)) ?_
  unfold proposedB
  rw [any_no hz.2 (by omega)]
 intro hc15
 have hlt : z < c.proposed.length := by omega
 have hpl := hc.asked.2.1.1
 refine p_<|c_<|d_<|t_<|d_<|a_<|b_ (D_ tabOk Tryz.underlying24 rfl rfl rfl rfl (aa_ (by omega)) rfl rfl) rfl rfl ?_
 refine b_ (K_ tabOk rfl rfl rfl rfl) rfl rfl<|eb_ (B_ tabOk rfl) rfl rfl fun b10=>?_
 refine e_ (w_ (L' := (c.proposed[z]'hlt).abs) tabOk rfl rfl rfl u0_ rfl (Nat.le_of_ble_eq_true rfl) rfl (by exact A_ rfl)) rfl rfl ?_
 refine g_<|c_<|d_<|a_<|q_ 1 rfl<|b_ (m_ (C := int (c.proposed[z]'hlt).seq) (h_ tabOk rfl rfl l0_ List.not_mem_nil rfl) rfl) rfl rfl<|q_ 3 rfl<|C_ (t := 22) rfl ?_ ?_
 rotate_left
 ·intro hc22
  refine q_ 11 rfl<|g_<|c_<|V_ rfl<|p_<|o_<|c_<|a_<|b_ (s_ rfl rfl (by simp only [InR, lo, hi]; omega)) rfl rfl ?_
  refine q_ 1 rfl<|g_<|x_ (z + 1) (by omega) (⟨by omega, fun j hj hjz => by
   rcases Nat.lt_or_ge j z with h1 | h1
   ·exact hz.2 j hj h1
   obtain rfl : j = z := (by omega)
   unfold prB
   (simp_all; done)⟩) (by exact ⟨rfl, rfl, rfl, rfl, rfl, rfl, trivial⟩) sn_
 intro hc22
 refine q_ 1 rfl<|b_ (m_ (C := int (c.proposed[z]'hlt).view) (h_ tabOk rfl rfl l0_ List.not_mem_nil rfl) rfl) rfl rfl<|q_ 4 rfl<|C_ (t := 28) rfl ?_ ?_
 rotate_left
 ·intro hc28
  refine q_ 5 rfl<|g_<|c_<|V_ rfl<|p_<|o_<|c_<|a_<|b_ (s_ rfl rfl (by simp only [InR, lo, hi]; omega)) rfl rfl ?_
  refine q_ 1 rfl<|g_<|x_ (z + 1) (by omega) (⟨by omega, fun j hj hjz => by
   rcases Nat.lt_or_ge j z with h1 | h1
   ·exact hz.2 j hj h1
   obtain rfl : j = z := (by omega)
   unfold prB
   (simp_all; intro h9; omega)⟩) (by exact ⟨rfl, rfl, rfl, rfl, rfl, rfl, trivial⟩) sn_
 intro hc28
 refine q_ 1 rfl<|b_ (m_ (C := entsA (c.proposed[z]'hlt).batch) (h_ tabOk rfl rfl l0_ List.not_mem_nil rfl) rfl) rfl rfl<|q_ 1 rfl<|u_ (eB_ (es := (c.proposed[z]'hlt).batch) (fs := b) (((hc.asked.2.1.long).2 _ (List.getElem_mem hlt))) ((hc.lits.prop _ (List.getElem_mem hlt)).all) hb) Casts.refl (by kernel_rfl) rfl rfl rfl ?_
 refine ap_<|fun _=>q_ 1 rfl<|g_<|c_<|ac_ rfl ?_ ?_
 ·intro hc33
  refine d_<|a_<|q_ 1 rfl<|g_<|c_<|n_<|E_<|i_ nofun<|i_ nofun<|E_<|i_ nofun<|f_ (rs := [.tmp 8]) rfl (RV.tmp rfl RV.nil) (()) sn_<|congrArg (fun b => Abs.v (Value.bool b)) ?_
  unfold proposedB
  rw [ik_ hlt (by unfold prB; simp_all)]
  all_goals simp
 intro hc33
 refine p_<|o_<|c_<|a_<|b_ (s_ rfl rfl (by simp only [InR, lo, hi]; omega)) rfl rfl ?_
 refine q_ 1 rfl<|g_<|x_ (z + 1) (by omega) (⟨by omega, fun j hj hjz => by
  rcases Nat.lt_or_ge j z with h1 | h1
  ·exact hz.2 j hj h1
  obtain rfl : j = z := (by omega)
  unfold prB
  (simp_all; done)⟩) (by exact ⟨rfl, rfl, rfl, rfl, rfl, rfl, trivial⟩) sn_
theorem gS_ (hnn : 1 ≤ n ∧ n ≤ 7) (hl : ∀ s ∈ l, CIn s.chg) (hn : l.length ≤ 100) (h1 : x.Lits) : Spec Tryz.prog 128 [sgnsA l, int n, .agg x.abs] [] (fun _ : Unit => []) (fun _ => boo (standsB l n x)) := by
 refine G_ Tryz.func128 rfl Tryz.ntmps128 rfl fun G w =>d_<|a_<|eb_ (L_ (cs := x.abs) rfl) rfl rfl fun b5=>?_
 refine q_ 1 rfl<|g_<|c_<|d_<|a_<|q_ 2 rfl<|g_<|c_<|d_<|d_<|a_<|q_ 1 rfl<|b_ (z_ rfl Tryz.underlying53 (List.length_map _)) rfl rfl<|q_ 1 rfl<|g_<|c_<|t_<|S_ (ι := Nat × Nat × Nat) (fun z => [.blk b5 77 x.abs]) (fun z => [(1, int n), (5, ptr b5), (7, int (z.2.1 : Nat)), (8, int (z.2.2 : Nat)), (12, sgnsA l), (13, int (l.length : Nat)), (14, int (z.1 : Nat))]) (fun z => z.1 ≤ l.length ∧ z.2.1 = cntS (l.take z.1) (quietB x.seq x.view x.batch) ∧ z.2.2 = cntS (l.take z.1) (proposedB x.seq x.view x.batch)) (fun z => l.length - z.1) (0, 0, 0) (⟨Nat.zero_le _, rfl, rfl⟩) (by exact ⟨rfl, rfl, rfl, rfl, rfl, rfl, rfl, trivial⟩) sr_ ?_
 intro z hz
 refine d_<|a_<|q_ 1 rfl<|g_<|c_<|d_<|r_ rfl ?_ ?_
 rotate_left
 ·intro hc15
  have hq1 : z.2.1 = cntS l (quietB x.seq x.view x.batch) := by rw [hz.2.1, c4_ (by omega)]
  have hq2 : z.2.2 = cntS l (proposedB x.seq x.view x.batch) := by rw [hz.2.2, c4_ (by omega)]
  have hfn : (max n 1 - 1) / 3 = fN n := rfl
  refine Q_<|i_ nofun<|i_ nofun<|P_<|c_<|d_<|a_<|q_ 1 rfl<|u_ (bS_ (n := n) (by omega)) Casts.refl (by kernel_rfl) rfl rfl rfl ?_
  refine ap_<|fun _=>q_ 1 rfl<|g_<|c_<|d_<|a_<|q_ 2 rfl<|b_ (b3_ rfl rfl (by simp only [InR, lo, hi]; omega)) rfl rfl ?_
  refine b_ (s_ rfl rfl (by simp only [InR, lo, hi]; omega)) rfl rfl ?_
  refine q_ 2 rfl<|C_ (t := 49) rfl ?_ ?_
  rotate_left
  ·intro hc49
   refine q_ 6 rfl<|g_<|c_<|n_<|f_ (rs := [.tmp 6]) rfl (RV.tmp rfl RV.nil) (()) sn_<|congrArg (fun b => Abs.v (Value.bool b)) ?_
   unfold standsB
   rw [← hq1, ← hq2]
   (simp_all; intro h9; omega)
  intro hc49
  refine q_ 2 rfl<|b_ (s_ rfl rfl (by simp only [InR, lo, hi]; omega)) rfl rfl ?_
  refine q_ 3 rfl<|g_<|c_<|n_<|f_ (rs := [.tmp 6]) rfl (RV.tmp rfl RV.nil) (()) sn_<|congrArg (fun b => Abs.v (Value.bool b)) ?_
  unfold standsB
  rw [← hq1, ← hq2]
  (simp_all; done)
 intro hc15
 have hlt : z.1 < l.length := by omega
 have hle1 := d2_ (l := l.take z.1) (p := (quietB x.seq x.view x.batch))
 have hle2 := d2_ (l := l.take z.1) (p := (proposedB x.seq x.view x.batch))
 rw [← hz.2.1, List.length_take] at hle1
 rw [← hz.2.2, List.length_take] at hle2
 refine p_<|c_<|d_<|t_<|d_<|a_<|b_ (D_ tabOk Tryz.underlying53 rfl rfl rfl rfl (aa_ (by omega)) rfl rfl) rfl rfl ?_
 refine b_ (K_ tabOk rfl rfl rfl rfl) rfl rfl<|eb_ (B_ tabOk rfl) rfl rfl fun b10=>?_
 refine e_ (w_ (L' := (l[z.1]'hlt).abs) tabOk rfl rfl rfl u0_ rfl (Nat.le_of_ble_eq_true rfl) rfl (by exact A_ rfl)) rfl rfl ?_
 refine g_<|c_<|d_<|d_<|a_<|q_ 1 rfl<|b_ (m_ (C := .agg (l[z.1]'hlt).chg.abs) (H_ tabOk rfl rfl rfl l0_ List.not_mem_nil (Nat.le_of_ble_eq_true rfl)) rfl) rfl rfl<|q_ 1 rfl<|b_ (m_ (C := int x.seq) (h_ tabOk rfl rfl l1_ List.not_mem_nil rfl) rfl) rfl rfl<|q_ 1 rfl<|b_ (m_ (C := int x.view) (h_ tabOk rfl rfl l1_ List.not_mem_nil rfl) rfl) rfl rfl<|q_ 1 rfl<|b_ (m_ (C := entsA x.batch) (h_ tabOk rfl rfl l1_ List.not_mem_nil rfl) rfl) rfl rfl<|u_ (jF_ (c := (l[z.1]'hlt).chg) (seq := x.seq) (view := x.view) (b := x.batch) h1.all (hl _ (List.getElem_mem hlt))) Casts.refl (by kernel_rfl) rfl rfl rfl ?_
 refine ap_<|fun _=>b_ (ai_ rfl) rfl rfl<|g_<|c_<|ac_ rfl ?_ ?_
 rotate_left
 ·intro hc27
  refine p_<|c_<|d_<|a_<|q_ 1 rfl<|b_ (m_ (C := .agg (l[z.1]'hlt).chg.abs) (H_ tabOk rfl rfl rfl l0_ List.not_mem_nil (Nat.le_of_ble_eq_true rfl)) rfl) rfl rfl<|q_ 1 rfl<|b_ (m_ (C := int x.seq) (h_ tabOk rfl rfl l1_ List.not_mem_nil rfl) rfl) rfl rfl<|q_ 1 rfl<|b_ (m_ (C := int x.view) (h_ tabOk rfl rfl l1_ List.not_mem_nil rfl) rfl) rfl rfl<|q_ 1 rfl<|b_ (m_ (C := entsA x.batch) (h_ tabOk rfl rfl l1_ List.not_mem_nil rfl) rfl) rfl rfl<|u_ (e2_ (c := (l[z.1]'hlt).chg) (seq := x.seq) (view := x.view) (b := x.batch) h1.all (hl _ (List.getElem_mem hlt))) Casts.refl (by kernel_rfl) rfl rfl rfl ?_
  refine ap_<|fun _=>g_<|c_<|ac_ rfl ?_ ?_
  rotate_left
  ·intro hc38
   refine p_<|o_<|c_<|a_<|b_ (s_ rfl rfl (by simp only [InR, lo, hi]; omega)) rfl rfl ?_
   refine q_ 1 rfl<|g_<|x_ (z.1 + 1, z.2.1, z.2.2) (by omega) (⟨by dsimp only; omega, by dsimp only; rw [co_ hlt (by unfold quietB; simpa using hc27), ← hz.2.1], by dsimp only; rw [co_ hlt (by simpa using hc38), ← hz.2.2]⟩) (by exact ⟨rfl, rfl, rfl, rfl, rfl, rfl, rfl, trivial⟩) (sk_ sr_)
  intro hc38
  refine a_<|q_ 1 rfl<|b_ (s_ rfl rfl (by simp only [InR, lo, hi]; omega)) rfl rfl ?_
  refine q_ 1 rfl<|g_<|o_<|c_<|a_<|b_ (s_ rfl rfl (by simp only [InR, lo, hi]; omega)) rfl rfl ?_
  refine q_ 1 rfl<|g_<|x_ (z.1 + 1, z.2.1, z.2.2 + 1) (by omega) (⟨by dsimp only; omega, by dsimp only; rw [co_ hlt (by unfold quietB; simpa using hc27), ← hz.2.1], by dsimp only; rw [bR_ hlt (by simpa using hc38), ← hz.2.2]⟩) (by exact ⟨rfl, rfl, rfl, rfl, rfl, rfl, rfl, trivial⟩) (sk_ sr_)
 intro hc27
 refine a_<|q_ 1 rfl<|b_ (s_ rfl rfl (by simp only [InR, lo, hi]; omega)) rfl rfl ?_
 refine q_ 1 rfl<|g_<|c_<|d_<|a_<|q_ 1 rfl<|b_ (m_ (C := .agg (l[z.1]'hlt).chg.abs) (H_ tabOk rfl rfl rfl l0_ List.not_mem_nil (Nat.le_of_ble_eq_true rfl)) rfl) rfl rfl<|q_ 1 rfl<|b_ (m_ (C := int x.seq) (h_ tabOk rfl rfl l1_ List.not_mem_nil rfl) rfl) rfl rfl<|q_ 1 rfl<|b_ (m_ (C := int x.view) (h_ tabOk rfl rfl l1_ List.not_mem_nil rfl) rfl) rfl rfl<|q_ 1 rfl<|b_ (m_ (C := entsA x.batch) (h_ tabOk rfl rfl l1_ List.not_mem_nil rfl) rfl) rfl rfl<|u_ (e2_ (c := (l[z.1]'hlt).chg) (seq := x.seq) (view := x.view) (b := x.batch) h1.all (hl _ (List.getElem_mem hlt))) Casts.refl (by kernel_rfl) rfl rfl rfl ?_
 refine ap_<|fun _=>g_<|c_<|ac_ rfl ?_ ?_
 rotate_left
 ·intro hc38
  refine p_<|o_<|c_<|a_<|b_ (s_ rfl rfl (by simp only [InR, lo, hi]; omega)) rfl rfl ?_
  refine q_ 1 rfl<|g_<|x_ (z.1 + 1, z.2.1 + 1, z.2.2) (by omega) (⟨by dsimp only; omega, by dsimp only; rw [bR_ hlt (by unfold quietB; simpa using hc27), ← hz.2.1], by dsimp only; rw [co_ hlt (by simpa using hc38), ← hz.2.2]⟩) (by exact ⟨rfl, rfl, rfl, rfl, rfl, rfl, rfl, trivial⟩) (sk_ sr_)
 intro hc38
 refine a_<|q_ 1 rfl<|b_ (s_ rfl rfl (by simp only [InR, lo, hi]; omega)) rfl rfl ?_
 refine q_ 1 rfl<|g_<|o_<|c_<|a_<|b_ (s_ rfl rfl (by simp only [InR, lo, hi]; omega)) rfl rfl ?_
 refine q_ 1 rfl<|g_<|x_ (z.1 + 1, z.2.1 + 1, z.2.2 + 1) (by omega) (⟨by dsimp only; omega, by dsimp only; rw [bR_ hlt (by unfold quietB; simpa using hc27), ← hz.2.1], by dsimp only; rw [bR_ hlt (by simpa using hc38), ← hz.2.2]⟩) (by exact ⟨rfl, rfl, rfl, rfl, rfl, rfl, rfl, trivial⟩) (sk_ sr_)
set_option maxHeartbeats 2000000 in
theorem kt_ (hnn : 1 ≤ n ∧ n ≤ 7) (hl : ∀ s ∈ l, CIn s.chg) (hn : l.length ≤ 100) : Spec Tryz.prog 94 [sgnsA l, int n, int seq] [] (fun _ : Unit => []) (fun _ => .tup [entsA (numF l n seq).1, boo (numF l n seq).2]) := by
 refine G_ Tryz.func94 rfl Tryz.ntmps94 rfl fun G w =>d_<|a_<|q_ 2 rfl<|g_<|c_<|d_<|d_<|a_<|q_ 3 rfl<|C_ (t := 18) rfl (by intro hc18; exfalso; omega) ?_
 intro hc18
 refine q_ 3 rfl<|g_<|c_<|r_ rfl (by intro hc21; exfalso; omega) ?_
 intro hc21
 refine p_<|c_<|d_<|a_<|eb_ (B_ tabOk rfl) rfl rfl fun b8=>?_
 refine g_<|c_<|d_<|a_<|q_ 1 rfl<|g_<|c_<|d_<|a_<|q_ 1 rfl<|g_<|c_<|d_<|d_<|a_<|q_ 1 rfl<|b_ (z_ rfl Tryz.underlying53 (List.length_map _)) rfl rfl<|q_ 1 rfl<|g_<|c_<|t_<|S_ (ι := Nat × Option Prf × Nat) (fun z => [.blk b8 77 (bcell z.2.1)]) (fun z => [(0, sgnsA l), (1, int n), (2, int seq), (8, ptr b8), (9, boo z.2.1.isSome), (10, int (z.2.2 : Nat)), (22, sgnsA l), (23, int (l.length : Nat)), (24, int (z.1 : Nat))]) (fun z => z.1 ≤ l.length ∧ z.2.1 = (l.take z.1).foldl (numIn l n seq) none ∧ z.2.2 = cntS (l.take z.1) (emptyB seq)) (fun z => l.length - z.1) (0, none, 0) (⟨Nat.zero_le _, rfl, rfl⟩) (by exact ⟨rfl, rfl, rfl, rfl, rfl, rfl, rfl, rfl, rfl, trivial⟩) sr_ ?_
 intro z hz
 refine d_<|a_<|q_ 1 rfl<|g_<|c_<|d_<|r_ rfl ?_ ?_
 rotate_left
 ·intro hc25
  have hbst : numBest l n seq = z.2.1 := by
   rw [hz.2.1, a1_ _ _ (by omega)]
   rfl
  have hq1 : z.2.2 = cntS l (emptyB seq) := by rw [hz.2.2, c4_ (by omega)]
  refine Q_<|i_ nofun<|i_ nofun<|P_<|c_<|d_<|d_<|a_<|q_ 1 rfl<|g_<|c_<|ac_ rfl ?_ ?_
  ·intro hc66
   refine d_<|a_<|q_ 1 rfl<|b_ (m_ (C := entsA (z.2.1.getD prz).batch) (h_ tabOk rfl rfl l0_ List.not_mem_nil (ii_ hc66)) rfl) rfl rfl<|q_ 2 rfl<|g_<|c_<|n_<|i_ nofun<|f_ (rs := [.tmp 6, .tmp 7]) rfl (RV.tmp rfl (RV.tmp rfl RV.nil)) (()) sn_ ?_
   obtain ⟨p, hp⟩ := Option.isSome_iff_exists.1 hc66
   unfold numF
   rw [hbst, hp]
   rfl
  intro hc66
  refine p_<|c_<|d_<|a_<|q_ 2 rfl<|u_ (bS_ (n := n) (by omega)) Casts.refl (by kernel_rfl) rfl rfl rfl ?_
  refine ap_<|fun _=>b_ (b3_ rfl rfl (by simp only [InR, lo, hi]; omega)) rfl rfl ?_
  refine b_ (s_ rfl rfl (by simp only [InR, lo, hi]; omega)) rfl rfl ?_
  refine q_ 3 rfl<|g_<|c_<|n_<|fC_ (rs := [.tmp 6, .tmp 7]) rfl (RV.tmp rfl (RV.tmp rfl RV.nil)) (Casts.nils (s := 8) Casts.refl) (()) sn_ ?_
  have hno : z.2.1 = none := by
   cases hz9 : z.2.1 with
   | none => rfl
   | some p => rw [hz9] at hc66; cases hc66
  unfold numF
  rw [hbst, hno, ← hq1]
  rfl
 intro hc25
 have hlt : z.1 < l.length := by omega
 have hle1 := d2_ (l := l.take z.1) (p := emptyB seq)
 rw [← hz.2.2, List.length_take] at hle1
 refine p_<|c_<|d_<|t_<|d_<|a_<|b_ (D_ tabOk Tryz.underlying53 rfl rfl rfl rfl (aa_ (by omega)) rfl rfl) rfl rfl ?_
 refine b_ (K_ tabOk rfl rfl rfl rfl) rfl rfl<|eb_ (B_ tabOk rfl) rfl rfl fun b12=>?_
 refine e_ (w_ (L' := (l[z.1]'hlt).abs) tabOk rfl rfl rfl u0_ rfl (Nat.le_of_ble_eq_true rfl) rfl (by exact A_ rfl)) rfl rfl ?_
 refine g_<|c_<|d_<|a_<|q_ 2 rfl<|b_ (m_ (C := int (l[z.1]'hlt).chg.low) (h_ tabOk rfl rfl l0_ List.not_mem_nil rfl) rfl) rfl rfl<|q_ 1 rfl<|b_ (m_ (C := boo (emptyTo seq (l[z.1]'hlt).chg 0)) (ay_ rfl rfl) (congrArg (fun b => Abs.v (Value.bool b)) hh_)) rfl rfl<|q_ 1 rfl<|g_<|c_<|d_<|d_<|a_<|q_ 2 rfl<|b_ (m_ (C := prfsA (l[z.1]'hlt).chg.prepared) (h_ tabOk rfl rfl l0_ List.not_mem_nil rfl) rfl) rfl rfl<|b_ (z_ rfl Tryz.underlying24 (List.length_map _)) rfl rfl<|q_ 1 rfl<|g_<|c_<|t_<|S_ (ι := Nat × Option Prf × Bool) (fun y => [.blk b8 77 (bcell y.2.1)]) (fun y => [(0, sgnsA l), (1, int n), (2, int seq), (8, ptr b8), (9, boo y.2.1.isSome), (10, int (z.2.2 : Nat)), (13, boo y.2.2), (22, sgnsA l), (23, int (l.length : Nat)), (24, int (z.1 : Nat)), (35, prfsA (l[z.1]'hlt).chg.prepared), (36, int ((l[z.1]'hlt).chg.prepared.length : Nat)), (37, int (y.1 : Nat))]) (fun y => y.1 ≤ (l[z.1]'hlt).chg.prepared.length ∧ y.2.1 = ((l[z.1]'hlt).chg.prepared.take y.1).foldl (numSt l n seq) z.2.1 ∧ y.2.2 = emptyTo seq (l[z.1]'hlt).chg y.1) (fun y => (l[z.1]'hlt).chg.prepared.length - y.1) (0, z.2.1, emptyTo seq (l[z.1]'hlt).chg 0) (⟨Nat.zero_le _, rfl, rfl⟩) (by exact ⟨rfl, rfl, rfl, rfl, rfl, rfl, rfl, rfl, rfl, rfl, rfl, rfl, rfl, trivial⟩) (sk_ sr_) ?_
 intro y hy
 refine d_<|a_<|q_ 1 rfl<|g_<|c_<|d_<|r_ rfl ?_ ?_
 rotate_left
 ·intro hc38
  refine Q_<|i_ nofun<|i_ nofun<|P_<|c_<|d_<|a_<|q_ 1 rfl<|g_<|c_<|ac_ rfl ?_ ?_
  rotate_left
  ·intro hc62
   refine p_<|o_<|c_<|a_<|b_ (s_ rfl rfl (by simp only [InR, lo, hi]; omega)) rfl rfl ?_
   refine q_ 1 rfl<|g_<|x_ (z.1 + 1, y.2.1, z.2.2) (by omega) (⟨by dsimp only; omega, by dsimp only; rw [W_ _ _ hlt, ← hz.2.1, hy.2.1, a1_ _ _ (by omega)]; rfl, by dsimp only; rw [co_ hlt (by rw [← fk_ (j := y.1) (by omega), ← hy.2.2]; exact hc62), ← hz.2.2]⟩) (by exact ⟨rfl, rfl, rfl, rfl, rfl, rfl, rfl, rfl, rfl, trivial⟩) sr_
  intro hc62
  refine a_<|q_ 1 rfl<|b_ (s_ rfl rfl (by simp only [InR, lo, hi]; omega)) rfl rfl ?_
  refine q_ 1 rfl<|g_<|o_<|c_<|a_<|b_ (s_ rfl rfl (by simp only [InR, lo, hi]; omega)) rfl rfl ?_
  refine q_ 1 rfl<|g_<|x_ (z.1 + 1, y.2.1, z.2.2 + 1) (by omega) (⟨by dsimp only; omega, by dsimp only; rw [W_ _ _ hlt, ← hz.2.1, hy.2.1, a1_ _ _ (by omega)]; rfl, by dsimp only; rw [bR_ hlt (by rw [← fk_ (j := y.1) (by omega), ← hy.2.2]; exact hc62), ← hz.2.2]⟩) (by exact ⟨rfl, rfl, rfl, rfl, rfl, rfl, rfl, rfl, rfl, trivial⟩) sr_
 intro hc38
 have hly : y.1 < (l[z.1]'hlt).chg.prepared.length := by omega
 have hpl := (hl _ (List.getElem_mem hlt)).asked.1.1
 refine p_<|c_<|d_<|t_<|d_<|a_<|b_ (D_ tabOk Tryz.underlying24 rfl rfl rfl rfl (aa_ (by omega)) rfl rfl) rfl rfl ?_
 refine b_ (K_ tabOk rfl rfl rfl rfl) rfl rfl<|eb_ (B_ tabOk rfl) rfl rfl fun b15=>?_
 refine e_ (w_ (L' := ((l[z.1]'hlt).chg.prepared[y.1]'hly).abs) tabOk rfl rfl rfl u0_ rfl (Nat.le_of_ble_eq_true rfl) rfl (by exact A_ rfl)) rfl rfl ?_
 refine g_<|c_<|d_<|d_<|a_<|q_ 1 rfl<|b_ (m_ (C := int ((l[z.1]'hlt).chg.prepared[y.1]'hly).seq) (h_ tabOk rfl rfl l0_ List.not_mem_nil rfl) rfl) rfl rfl<|q_ 2 rfl<|g_<|c_<|r_ rfl ?_ ?_
 ·intro hc44
  refine Q_<|i_ nofun<|P_<|c_<|a_<|b_ (s_ rfl rfl (by simp only [InR, lo, hi]; omega)) rfl rfl ?_
  refine q_ 1 rfl<|g_<|x_ (y.1 + 1, y.2) (by omega) (⟨by dsimp only; omega, by dsimp only; rw [W_ _ _ hly, ← hy.2.1, g6_ hc44], by dsimp only; rw [hy.2.2]; exact h4_ hly hc44⟩) (by exact ⟨rfl, rfl, rfl, rfl, rfl, rfl, rfl, rfl, rfl, rfl, rfl, rfl, rfl, trivial⟩) (sk_ sr_)
 intro hc44
 refine p_<|c_<|d_<|a_<|q_ 1 rfl<|g_<|c_<|d_<|a_<|q_ 1 rfl<|b_ (ai_ rfl) rfl rfl<|q_ 1 rfl<|aZ_ (t := 47) rfl ?_ ?_
 ·intro hc47
  refine q_ 9 rfl<|b_ (m_ (C := .agg ((l[z.1]'hlt).chg.prepared[y.1]'hly).abs) (H_ tabOk rfl rfl rfl l0_ List.not_mem_nil (Nat.le_of_ble_eq_true rfl)) rfl) rfl rfl<|u_ (gS_ (l := l) (n := n) (x := ((l[z.1]'hlt).chg.prepared[y.1]'hly)) hnn hl hn ((hl _ (List.getElem_mem hlt)).lits.prep _ (List.getElem_mem hly))) Casts.refl (by kernel_rfl) rfl rfl rfl ?_
  refine ap_<|fun _=>q_ 1 rfl<|g_<|c_<|ac_ rfl ?_ ?_
  rotate_left
  ·intro hc59
   refine p_<|o_<|c_<|a_<|b_ (s_ rfl rfl (by simp only [InR, lo, hi]; omega)) rfl rfl ?_
   refine q_ 1 rfl<|g_<|x_ (y.1 + 1, y.2.1, false) (by omega) (⟨by dsimp only; omega, by dsimp only; rw [W_ _ _ hly, ← hy.2.1, eE_ (by simpa using hc59)], by dsimp only; exact cv_ hly (by omega)⟩) (by exact ⟨rfl, rfl, rfl, rfl, rfl, rfl, rfl, rfl, rfl, rfl, rfl, rfl, rfl, trivial⟩) (sk_ sr_)
  intro hc59
  refine a_<|b_ (m_ (C := .agg ((l[z.1]'hlt).chg.prepared[y.1]'hly).abs) (H_ tabOk rfl rfl rfl l0_ List.not_mem_nil (Nat.le_of_ble_eq_true rfl)) rfl) rfl rfl<|e_ (w_ (L' := ((l[z.1]'hlt).chg.prepared[y.1]'hly).abs) tabOk rfl rfl rfl u1_ rfl (jh_ _) rfl (by exact A_ (fn_ _).symm)) rfl rfl ?_
  refine q_ 1 rfl<|g_<|o_<|c_<|a_<|b_ (s_ rfl rfl (by simp only [InR, lo, hi]; omega)) rfl rfl ?_
  refine q_ 1 rfl<|g_<|x_ (y.1 + 1, some ((l[z.1]'hlt).chg.prepared[y.1]'hly), false) (by omega) (⟨by dsimp only; omega, by dsimp only; rw [W_ _ _ hly, ← hy.2.1, dC_ (by omega) (fun h9 => by (rw [h9] at hc47; cases hc47)) (by simpa using hc59)], by dsimp only; exact cv_ hly (by omega)⟩) (by exact ⟨rfl, rfl, rfl, rfl, rfl, rfl, rfl, rfl, rfl, rfl, rfl, rfl, rfl, trivial⟩) (sk_ sr_)
 intro hc47
 refine q_ 1 rfl<|b_ (m_ (C := int ((l[z.1]'hlt).chg.prepared[y.1]'hly).view) (h_ tabOk rfl rfl l0_ List.not_mem_nil rfl) rfl) rfl rfl<|q_ 1 rfl<|b_ (m_ (C := int (y.2.1.getD prz).view) (h_ tabOk rfl rfl l1_ List.not_mem_nil (jW_ _)) rfl) rfl rfl<|q_ 3 rfl<|C_ (t := 54) rfl ?_ ?_
 rotate_left
 ·intro hc54
  refine q_ 5 rfl<|g_<|c_<|V_ rfl<|p_<|o_<|c_<|a_<|b_ (s_ rfl rfl (by simp only [InR, lo, hi]; omega)) rfl rfl ?_
  refine q_ 1 rfl<|g_<|x_ (y.1 + 1, y.2.1, false) (by omega) (⟨by dsimp only; omega, by dsimp only; rw [W_ _ _ hly, ← hy.2.1, fK_ (by simpa using hc47) hc54], by dsimp only; exact cv_ hly (by omega)⟩) (by exact ⟨rfl, rfl, rfl, rfl, rfl, rfl, rfl, rfl, rfl, rfl, rfl, rfl, rfl, trivial⟩) (sk_ sr_)
 intro hc54
 refine q_ 2 rfl<|b_ (m_ (C := .agg ((l[z.1]'hlt).chg.prepared[y.1]'hly).abs) (H_ tabOk rfl rfl rfl l0_ List.not_mem_nil (Nat.le_of_ble_eq_true rfl)) rfl) rfl rfl<|u_ (gS_ (l := l) (n := n) (x := ((l[z.1]'hlt).chg.prepared[y.1]'hly)) hnn hl hn ((hl _ (List.getElem_mem hlt)).lits.prep _ (List.getElem_mem hly))) Casts.refl (by kernel_rfl) rfl rfl rfl ?_
 refine ap_<|fun _=>q_ 1 rfl<|g_<|c_<|ac_ rfl ?_ ?_
 rotate_left
 ·intro hc59
  refine p_<|o_<|c_<|a_<|b_ (s_ rfl rfl (by simp only [InR, lo, hi]; omega)) rfl rfl ?_
  refine q_ 1 rfl<|g_<|x_ (y.1 + 1, y.2.1, false) (by omega) (⟨by dsimp only; omega, by dsimp only; rw [W_ _ _ hly, ← hy.2.1, eE_ (by simpa using hc59)], by dsimp only; exact cv_ hly (by omega)⟩) (by exact ⟨rfl, rfl, rfl, rfl, rfl, rfl, rfl, rfl, rfl, rfl, rfl, rfl, rfl, trivial⟩) (sk_ sr_)
 intro hc59
 refine a_<|b_ (m_ (C := .agg ((l[z.1]'hlt).chg.prepared[y.1]'hly).abs) (H_ tabOk rfl rfl rfl l0_ List.not_mem_nil (Nat.le_of_ble_eq_true rfl)) rfl) rfl rfl<|e_ (w_ (L' := ((l[z.1]'hlt).chg.prepared[y.1]'hly).abs) tabOk rfl rfl rfl u1_ rfl (jh_ _) rfl (by exact A_ (fn_ _).symm)) rfl rfl ?_
 refine q_ 1 rfl<|g_<|o_<|c_<|a_<|b_ (s_ rfl rfl (by simp only [InR, lo, hi]; omega)) rfl rfl ?_
 refine q_ 1 rfl<|g_<|x_ (y.1 + 1, some ((l[z.1]'hlt).chg.prepared[y.1]'hly), false) (by omega) (⟨by dsimp only; omega, by dsimp only; rw [W_ _ _ hly, ← hy.2.1, dC_ (by omega) (fun h9 => by exact hc54) (by simpa using hc59)], by dsimp only; exact cv_ hly (by omega)⟩) (by exact ⟨rfl, rfl, rfl, rfl, rfl, rfl, rfl, rfl, rfl, rfl, rfl, rfl, rfl, trivial⟩) (sk_ sr_)
end
end Go.Proofs.YtggajaigfkekhaaGreat.A
